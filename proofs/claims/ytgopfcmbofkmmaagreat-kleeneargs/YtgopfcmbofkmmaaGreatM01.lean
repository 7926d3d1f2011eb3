/- Part 2 of the proof. -/
import Derived.Scope
import Derived.Test.YtgopfcmbofkmmaaGreatM00
set_option linter.unusedVariables false
set_option linter.unusedSimpArgs false
set_option linter.unusedSectionVars false
namespace Go.Proofs.YtgopfcmbofkmmaaGreat.AI
open Go
section
variable {X:Cx} {φ φ':Inj} {S:Shp} {H H':a0c} {w w':World} {fl:Nat} {t:a0U} {a:Act} {o:Oper}
theorem Rel.drew (hR:Rel X φ H w):Rel X φ H w.drew:=⟨hR.bs,hR.lt,hR.row,hR.sep⟩
theorem b0R.drew (hR:Rel X φ H w):b0R X fl φ H w φ H w.drew :=
 { ext := fun _ _ h => h, rel := hR.drew, shp := fun _ _ h => h, wsz := M1U _, os := rfl, tape := rfl, out := rfl, hsz := M1U _, keep := fun _ _ => rfl,
   kind:=fun _ _ cs _ h=>⟨cs,h⟩,fresh:=(fun b x h h'=>by rw [h] at h';cases h'),newB:=(fun b B o h h'=>by rw [h] at h';cases h'),frame:=fun _ _ _=>rfl }
theorem b0R.kill (hR:Rel X φ H w) {b:Nat} (hbl:b < H.size) (hfl:fl<=b):b0R X fl φ H w φ (H.setIfInBounds b .dead) w:=by
 have hsub:∀ b1 ro e cs,a0c.bk (H.setIfInBounds b .dead) b1=.row ro e cs->b1 ≠ b/\H.bk b1=.row ro e cs:=fun b1 ro e cs h=>by
  rw [a0I _ _ _ _ hbl] at h
  split at h
  ·cases h
  ·rename_i hne;exact ⟨hne,h⟩
 refine
  { ext := fun _ _ h => h
    rel:=?_
    shp:=fun _ _ h=>h
    wsz:=M1U _
    os:=rfl
    tape:=rfl
    out:=rfl
    hsz:=by simp
    keep:=fun b1 hb1=>by rw [a0I _ _ _ _ hbl,M1V (by omega)]
    kind:=fun b1 e cs _ h=>⟨cs,(hsub _ _ _ _ h).2⟩
    fresh:=fun b x h h'=>by rw [h] at h';cases h'
    newB:=fun b B o h h'=>by rw [h] at h';cases h'
    frame:=fun _ _ _=>rfl }
 refine { bs:=hR.bs,lt:=fun b x h=>by simpa using hR.lt b x h,row:=fun b1 B o ro e cs h hr=>hR.row b1 B o ro e cs h (hsub _ _ _ _ hr).2,sep:=?_ }
 intro b1 b2 B o o' e cs h1 h2 hne hr
 have:=hR.sep b1 b2 B o o' e cs h1 h2 hne (hsub _ _ _ _ hr).2
 rw [a0I _ _ _ _ hbl]
 split
 ·rfl
 ·exact this
theorem n0S (z:Array Value) (n:Nat) (hz:0 < z.size):(Builtin.zeroCells z n).toList=e0W z.toList n:=k0D z n hz
theorem s0b (z:List Value):∀ (m n:Nat),m<=n->(e0W z n).take (m * z.length)=e0W z m
 | 0,n,_=>by simp [e0W]
 | m + 1,0,h=>by omega
 | m + 1,n + 1,h=>by
  simp only [e0W]
  rw [Nat.succ_mul,Nat.add_comm (m * z.length),List.take_append]
  simp [s0b z m n (by omega),N1c]
theorem b0R.moved (hR:Rel X φ H w) {b B o off:Nat} {e:TypeId} {cs0 cs:List Value} (hb:φ b=some (B,o)) (hk:H.bk b=.row false e cs0) (hfl:fl<=b) (hflH:fl<=H.size)
  (c:Array Value) (c':Array Value) (h1:w.heap[B]? = some (.cells c e (0,0))) (hsz:c'.size=c.size) (hle:off + cs.length<=c'.size) (hc:CR X φ (shq w) cs ((c'.toList.drop off).take cs.length)) :
  b0R X fl φ H w (fun b1=>if b1=H.size then some (B,off) else φ b1) ((H.setIfInBounds b .dead).push (.row false e cs)) (w.setRow B c'):=by
 have hbl:=a0r hk
 obtain ⟨c0,g1,g2,g3,g4⟩:=hR.blkT hb (fun _=>⟨e,c.size,by simp [shq,h1]⟩) hk
 have hsh:=i0p w B c c' e (0,0) h1 hsz
 have hshp:(shq (w.setRow B c'))=(shq w):=funext hsh
 have hBl:B < w.heap.size:=(N1y.1 h1).1
 have hext:∀ b1 x,φ b1=some x->(fun b1=>if b1=H.size then some (B,off) else φ b1) b1=some x:=fun b1 x hx=>by
  have:=hR.lt b1 x hx
  show (if _ then _ else _)=_
  rw [M1V (by omega)];exact hx
 have hsize:(H.setIfInBounds b .dead).size=H.size:=by simp
 have hblk:∀ b1,a0c.bk ((H.setIfInBounds b .dead).push (.row false e cs)) b1=if b1=H.size then .row false e cs else if b1=b then .dead else H.bk b1:=fun b1=>by
  rw [a0z,hsize]
  split
  ·rfl
  ·exact a0I _ _ _ _ hbl
 refine
  { ext := hext
    rel:=?_
    shp:=fun B1 x h=>by rw [hsh];exact h
    wsz:=by simp [World.setRow]
    os:=rfl
    tape:=rfl
    out:=rfl
    hsz:=by simp
    keep:=fun b1 hb1=>by rw [hblk,M1V (by omega),M1V (by omega)]
    kind:=fun b1 e1 cs1 hb1 hrow=>by
     rw [hblk,M1V (by omega)] at hrow
     split at hrow
     ·cases hrow
     ·exact ⟨cs1,hrow⟩
    fresh:=fun b1 x hb1 hn=>by
     by_cases h:b1=H.size
     ·omega
     ·simp only [M1V h] at hb1;rw [hb1] at hn;cases hn
    newB:=fun b1 B1 o1 hb1 hn=>by
     by_cases h:b1=H.size
     ·simp only [M1Z h,M1Q,N1V] at hb1
      exact .inr ⟨b,o,e,cs0,by rw [hb,hb1.1],hfl,hk⟩
     ·simp only [M1V h] at hb1;rw [hb1] at hn;cases hn
    frame:=fun B1 _ hno=>setRow_other w B B1 _ (fun h=>by subst h;exact hno b o e cs0 hb hfl hk) }
 refine { bs:=by have:=hR.bs;simpa [World.setRow] using this,lt:=?_,row:=?_,sep:=?_ }
 ·intro b1 x hb1
  simp only [N1T,hsize]
  by_cases h:b1=H.size
  ·omega
  ·simp only [M1V h] at hb1;have:=hR.lt b1 x hb1;omega
 ·intro b1 B1 o1 ro e1 cs1 hb1 hrow
  rw [hblk] at hrow
  by_cases h:b1=H.size
  ·simp only [M1Z h] at hb1 hrow
   cases hb1;cases hrow
   exact .inl ⟨c',e,(0,0),setRow_heap w B c c' e (0,0) h1,hle,by rw [hshp];exact hc.mo hext (fun _ _ h=>h),fun _=>⟨g2,rfl,rfl⟩,fun h=>by cases h⟩
  ·simp only [M1V h] at hb1 hrow
   split at hrow
   ·cases hrow
   ·rename_i hne
    by_cases hB:B1=B
    ·subst hB
     have:=hR.sep b b1 B1 o o1 e cs0 hb hb1 (fun e=>hne e.symm) hk
     rw [this] at hrow;cases hrow
    ·exact (hR.row b1 B1 o1 ro e1 cs1 hb1 hrow).mo hext (fun B x h=>by rw [hsh];exact h) (setRow_other w B B1 _ hB)
 ·intro b1 b2 B1 o1 o2 e1 cs1 hb1 hb2 hne hrow
  rw [hblk] at hrow ⊢
  by_cases h:b1=H.size
  ·have h':b2 ≠ H.size:=fun e=>hne (h.trans e.symm)
   simp only [M1Z h] at hb1 hrow
   simp only [M1V h'] at hb2 ⊢
   cases hb1
   by_cases h2:b2=b
   ·rw [M1Z h2]
   ·rw [M1V h2]
    exact hR.sep b b2 _ o o2 e cs0 hb hb2 (fun e=>h2 e.symm) hk
  ·simp only [M1V h] at hb1 hrow
   split at hrow
   ·cases hrow
   ·rename_i hnb
    by_cases h':b2=H.size
    ·simp only [M1Z h'] at hb2
     cases hb2
     have:=hR.sep b1 b _ o1 o e1 cs1 hb1 hb hnb hrow
     rw [this] at hk;cases hk
    ·simp only [M1V h'] at hb2 ⊢
     split
     ·rfl
     ·exact hR.sep b1 b2 B1 o1 o2 e1 cs1 hb1 hb2 hne hrow
section
variable (hR:Rel X φ H w) (hT:CR X φ (shq w) t a.tmps.toList)
include hR hT
omit hT in
theorem F0d (hfl:fl<=H.size) {ty:TypeId} (ho:o.op=.makeMap ty none):a0D X fl φ H w o a (.map (some H.size)) (H.push (.row false ty [])):=by
 refine ⟨_,_,.map (some w.heap.size),.inl ?_,?_,b0R.newmap hR ty hfl⟩
 ·simp [execOp,ho,Instr.makeMap]
 ·exact .mp _ _ 0 (by simp) (by simp only [shq,heap_alloc_new])
omit hR hT in
theorem v0j {z:Value} {ik k:IntKind} {n:Int}:∀ {cs:List Value} {es:List MapEntry} (i:Nat),CR X φ S cs (i0K es)->∀ {v},m0v z k n cs=some v ->
  (Instr.findNow (.int ik) (.int k n) es i=some none/\v=z) ∨ ∃ j u,Instr.findNow (.int ik) (.int k n) es i=some (some (j,u))/\VR X φ S v u
 | [],es,i,hc,v,h=>by
  cases es with
  | nil=>simp only [m0v,M1Q] at h;exact .inl ⟨rfl,h.symm⟩
  | cons e r=>have:=hc.1;simp [i0K] at this
 | [x],es,i,hc,v,h=>by cases x <;> simp [m0v] at h
 | x :: y :: r,es,i,hc,v,h=>by
  cases es with
  | nil=>have:=hc.1;simp [i0K] at this
  | cons e r' =>
   have h1:VR X φ S x e.key:=hc.head
   have h2:VR X φ S y e.val:=hc.tail.head
   have h3:CR X φ S r (i0K r'):=hc.tail.tail
   cases x <;> simp only [m0v] at h <;> try (cases h;done)
   rename_i k' n'
   generalize hk:e.key=g at h1
   cases h1
   split at h
   ·rename_i hkk
    subst hkk
    split at h
    ·rename_i hn
     subst hn
     cases h
     exact .inr ⟨i,e.val,by simp [Instr.findNow,Instr.sameNow,hk],h2⟩
    ·rename_i hn
     have:=v0j (ik:=ik) (i + 1) h3 h
     have e1:Instr.findNow (.int ik) (.int k n) (e :: r') i=Instr.findNow (.int ik) (.int k n) r' (i + 1):=by
      have hb:(n == n')=false:=by simpa using hn
      simp [Instr.findNow,Instr.sameNow,hk,hb]
     rw [e1];exact this
   ·cases h
omit hR hT in
theorem v0z {ik k:IntKind} {n:Int} {x x':Value} (hx:VR X φ S x x'):∀ {cs:List Value} {es:List MapEntry} (i:Nat),CR X φ S cs (i0K es)->∀ {cs1},S0H k n x cs=some cs1 ->
  (Instr.findNow (.int ik) (.int k n) es i=some none/\∀ b,CR X φ S cs1 (i0K (es ++ [{ key:=.int k n,val:=x',born:=b }]))) ∨
  ∃ j u,Instr.findNow (.int ik) (.int k n) es i=some (some (i + j,u))/\(es[j]?).map (·.key)=some (.int k n)/\CR X φ S cs1 (i0K (es.modify j fun e=>{ e with key:=.int k n,val:=x' }))
 | [],es,i,hc,v,h=>by
  cases es with
  | nil=>simp only [S0H,M1Q] at h;subst h;exact .inl ⟨rfl,fun b=>CR.cons (.int _ _) (CR.cons hx CR.nil)⟩
  | cons e r=>have:=hc.1;simp [i0K] at this
 | [y],es,i,hc,v,h=>by cases y <;> simp [S0H] at h
 | y :: y2 :: r,es,i,hc,v,h=>by
  cases es with
  | nil=>have:=hc.1;simp [i0K] at this
  | cons e r' =>
   have h1:VR X φ S y e.key:=hc.head
   have h2:VR X φ S y2 e.val:=hc.tail.head
   have h3:CR X φ S r (i0K r'):=hc.tail.tail
   cases y <;> simp only [S0H] at h <;> try (cases h;done)
   rename_i k' n'
   generalize hk:e.key=g at h1
   cases h1
   split at h
   ·rename_i hkk
    subst hkk
    split at h
    ·rename_i hn
     subst hn
     cases h
     exact .inr ⟨0,e.val,by simp [Instr.findNow,Instr.sameNow,hk],by simp [hk],by simp only [List.modify_zero_cons,i0K];exact CR.cons (.int _ _) (CR.cons hx h3)⟩
    ·rename_i hn
     simp only [N1z] at h
     obtain ⟨r1,hr1,rfl⟩:=h
     have e1:Instr.findNow (.int ik) (.int k n) (e :: r') i=Instr.findNow (.int ik) (.int k n) r' (i + 1):=by
      have hb:(n == n')=false:=by simpa using hn
      simp [Instr.findNow,Instr.sameNow,hk,hb]
     have hkv:VR X φ S (.int k n') e.key:=by rw [hk];exact .int _ _
     rcases v0z (ik:=ik) hx (i + 1) h3 hr1 with ⟨g1,g2⟩ | ⟨j,u,g1,g2,g3⟩
     ·exact .inl ⟨by rw [e1];exact g1,fun b=>by simp only [O1y,i0K];exact CR.cons hkv (CR.cons h2 (g2 b))⟩
     ·exact .inr ⟨j + 1,u,by rw [e1,g1];congr 3;omega,by simpa using g2,by simp only [List.modify_succ_cons,i0K];exact CR.cons hkv (CR.cons h2 g3)⟩
   ·cases h
omit hR hT in
theorem z0f {k:TypeId} (hk:j0R X.P k=true):∃ ik,X.P.underlying k=some (.int ik):=by
 unfold j0R at hk;split at hk
 ·rename_i ik h;exact ⟨ik,h⟩
 ·cases hk
omit hR hT in
theorem S0u {k:TypeId} {ik:IntKind} (hik:X.P.underlying k=some (.int ik)) (b:Bool) (kk:IntKind) (n:Int) (m:Nat):(Instr.checkKey b (m + 1) k (.int kk n)).run X.P w=.ok () w:=by
 unfold Instr.checkKey
 simp [run_underlying hik]
theorem R0X {ty k e:TypeId} {x i:Operand} {x' i':Opd} {z:Value} (ho:o.op=.lookup ty x i false) (hu:X.P.underlying ty=some (.map k e)) (hk:j0R X.P k=true) (hz:(X.P.info? e).bind (·.zero)=some z) (hfz:r0g z=true)
  (hx:b0s x=some x') (hi:b0s i=some i') (fx:a0s x' = true) (fi:a0s i' = true) {v:Value} (h:opA fl t H (.look z x' i')=.val v H'):a0D X fl φ H w o a v H':=by
 have hvx:=a0V hT hx fx
 have hvi:=a0V hT hi fi
 simp only [opA] at h
 unfold p0g at h
 split at h
 ·rename_i b kk n hb hn
  cases hbl:H.bk b with
  | dead=>rw [hbl] at h;cases h
  | row ro te cs =>
   rw [hbl] at h
   simp only [] at h
   cases hl:m0v z kk n cs with
   | none=>rw [hl] at h;cases h
   | some r =>
   rw [hl] at h
   simp only [a0R,OpRes.val.injEq] at h
   obtain ⟨rfl,rfl⟩:=h
   rw [hb] at hvx
   rw [hn] at hvi
   generalize hg:a.eval x=g at hvx
   generalize hg2:a.eval i=g2 at hvi
   cases hvx with
   | mp _ B oo hφ h2 =>
    cases hvi with
    | int _ _ =>
     obtain ⟨_,_,es,clk,hes,hcr⟩:=(hR.row b B oo ro te cs hφ hbl).map h2
     obtain ⟨ik,hik⟩:=z0f hk
     obtain ⟨inf,hinf,hzero⟩:∃ inf,X.P.info? e=some inf/\inf.zero=some z:=by
      cases hi:X.P.info? e with
      | none=>rw [hi] at hz;cases hz
      | some inf=>rw [hi] at hz;exact ⟨inf,rfl,hz⟩
     have hgo:(getObj B).run X.P w=.ok (.map es clk) w:=by simp [getObj,Sem.run,hes]
     have hck2:=S0u (w:=w) hik es.isEmpty kk n 9999
     have hzv:(zeroValue e).run X.P w=.ok z w:=by simp [zeroValue,typeInfo,hinf,hzero]
     rcases v0j (ik:=ik) 0 hcr hl with ⟨g1,rfl⟩ | ⟨j,u,g1,g2⟩
     ·have hfk:(Instr.findKey k (.int kk n) es.toList).run X.P w=.ok none w:=by
       simp [Instr.findKey,run_underlying hik,g1]
      have key:(Instr.lookup ty (.map (some B)) (.int kk n) false).run X.P w=.ok r w:=by
       unfold Instr.lookup
       simp [run_underlying hu,hgo,hck2,hfk,hzv]
      refine a0D.same hR (v':=r) ?_ (l0K hfz)
      simp [execOp,ho,hg,hg2,key]
     ·have hfk:(Instr.findKey k (.int kk n) es.toList).run X.P w=.ok (some (j,u)) w:=by
       simp [Instr.findKey,run_underlying hik,g1]
      have key:(Instr.lookup ty (.map (some B)) (.int kk n) false).run X.P w=.ok u w:=by
       unfold Instr.lookup
       simp [run_underlying hu,hgo,hck2,hfk]
      refine a0D.same hR (v':=u) ?_ g2
      simp [execOp,ho,hg,hg2,key]
 ·cases h
theorem R0Z {ty k e:TypeId} {x i y:Operand} {x' i' y':Opd} (ho:o.op=.mapUpdate ty x i y) (hu:X.P.underlying ty=some (.map k e)) (hk:j0R X.P k=true)
  (hx:b0s x=some x') (hi:b0s i=some i') (hy:b0s y=some y') (fx:a0s x' = true) (fi:a0s i' = true) (fy:a0s y' = true) {v:Value} (h:opA fl t H (.mupd x' i' y')=.val v H'):a0D X fl φ H w o a v H':=by
 have hvx:=a0V hT hx fx
 have hvi:=a0V hT hi fi
 have hvy:=a0V hT hy fy
 simp only [opA] at h
 unfold k0E at h
 split at h
 ·rename_i H1 hH1
  simp only [OpRes.val.injEq] at h
  obtain ⟨rfl,rfl⟩:=h
  split at hH1
  ·rename_i b kk n hb hn
   split at hH1
   ·rename_i te cs hbl
    split at hH1
    ·rename_i hfl
     simp only [N1z] at hH1
     obtain ⟨cs1,hcs1,rfl⟩:=hH1
     rw [hb] at hvx
     rw [hn] at hvi
     generalize hg:a.eval x=g at hvx
     generalize hg2:a.eval i=g2 at hvi
     generalize hg3:a.eval y=g3 at hvy
     cases hvx with
     | mp _ B oo hφ h2 =>
      cases hvi with
      | int _ _ =>
       obtain ⟨_,hbase,es,clk,hes,hcr⟩:=(hR.row b B oo false te cs hφ hbl).map h2
       obtain ⟨ik,hik⟩:=z0f hk
       have hgo:(getObj B).run X.P w=.ok (.map es clk) w:=by simp [getObj,Sem.run,hes]
       have hck2:=S0u (w:=w) hik false kk n 9999
       have hlt:B < w.heap.size:=(N1y.1 hes).1
       -- a map's block, written anew
       have anew:∀ (es1:Array MapEntry) (clk1:Nat),(execOp a.eval o).run X.P w=.ok .skip { w with heap:=w.heap.setIfInBounds B (.map es1 clk1) }->CR X φ (shq w) cs1 (i0K es1.toList)->a0D X fl φ H w o a undef (H.setIfInBounds b (.row false te cs1)):=by
        intro es1 clk1 hrun hcr1
        have hself:({ w with heap:=w.heap.setIfInBounds B (.map es1 clk1) }:World).heap[B]? = some (.map es1 clk1):=by simp [N1l,hlt]
        have hother:∀ B1,B1 ≠ B->({ w with heap:=w.heap.setIfInBounds B (.map es1 clk1) }:World).heap[B1]? = w.heap[B1]?:=fun B1 hB=>by simp [N1l,Ne.symm hB]
        have hsh:∀ B1,shq { w with heap:=w.heap.setIfInBounds B (.map es1 clk1) } B1=shq w B1:=fun B1=>by
         by_cases hB:B1=B
         ·subst hB;simp only [shq,hself,hes]
         ·simp only [shq,hother B1 hB]
        refine ⟨φ,_,undef,.inr ⟨rfl,hrun⟩,VR.undef,b0R.anew hR hφ hbl hfl.1 (by simp) rfl rfl rfl hother hsh (.inr ⟨rfl,hbase,es1,clk1,hself,?_⟩)⟩
        rw [funext hsh];exact hcr1
       rcases v0z (ik:=ik) hvy 0 hcr hcs1 with ⟨g1,g4⟩ | ⟨j,u,g1,g5,g4⟩
       ·have hfk:(Instr.findKey k (.int kk n) es.toList).run X.P w=.ok none w:=by
         simp [Instr.findKey,run_underlying hik,g1]
        refine anew (es.push { key:=.int kk n,val:=g3,born:=clk }) (clk + 1) ?_ (by simpa using g4 clk)
        have hset:∀ ob,(setObj B ob).run X.P w=.ok () { w with heap:=w.heap.setIfInBounds B ob }:=fun ob=>by simp [setObj,Sem.run,hes]
        simp [execOp,ho,hg,hg2,hg3,Instr.mapUpdate,run_underlying hu,hgo,hck2,hfk,hset]
       ·have hfk:(Instr.findKey k (.int kk n) es.toList).run X.P w=.ok (some (j,u)) w:=by
         simp only [N1q] at g1
         simp [Instr.findKey,run_underlying hik,g1]
        refine anew (es.modify j fun e=>{ e with key:=.int kk n,val:=g3 }) clk ?_ (by rw [Array.toList_modify];exact g4)
        have hset:∀ ob,(setObj B ob).run X.P w=.ok () { w with heap:=w.heap.setIfInBounds B ob }:=fun ob=>by simp [setObj,Sem.run,hes]
        have hkey:(Option.map (fun x:MapEntry=>x.key) es[j]?).getD (.int kk n)=.int kk n:=by
         rw [N1S] at g5;rw [g5];rfl
        simp [execOp,ho,hg,hg2,hg3,Instr.mapUpdate,run_underlying hu,hgo,hck2,hfk,hset,hkey,Instr.keyThatStays,Instr.sameBits]
    ·cases hH1
   ·cases hH1
  ·cases hH1
 ·cases h
theorem F1k (hfl:fl<=H.size) {ty e:TypeId} {z:List Value} {size bytes:Nat} {x y:Operand} {x' y':Opd} (ho:o.op=.makeSlice ty x y) (he:h0N X.P ty=some e) (hs:c0E X.P e=some size)
  (hb:j0L X.P e=some bytes) (hz:k0S X.P e=some z) (hsz:size=z.length) (hpos:0 < size) (hx:b0s x=some x') (hy:b0s y=some y') (fx:a0s x' = true) (fy:a0s y' = true)
  {v:Value} (h:opA fl t H (.mk e bytes z x' y')=.val v H'):a0D X fl φ H w o a v H':=by
 have hu:=f0u he
 obtain ⟨hf,zv,i,hi,hzv,_,hvz,hrun⟩:=i0F hz
 have hzs:zv.cells.size=size:=by rw [hsz,<- hvz];simp
 have hvx:=a0V hT hx fx
 have hvy:=a0V hT hy fy
 have hbi:i.bytes=bytes:=by simpa [j0L,hi] using hb
 have hsi:i.size=size:=by simpa [c0E,hi] using hs
 simp only [opA] at h
 split at h
 ·rename_i k1 l k2 c e1 e2
  split at h
  ·rename_i hc
   obtain ⟨h0,h1,h2,h3⟩:=hc
   simp only [OpRes.val.injEq] at h
   obtain ⟨rfl,rfl⟩:=h
   rw [e1] at hvx;rw [e2] at hvy
   generalize hg1:a.eval x=g1 at hvx
   generalize hg2:a.eval y=g2 at hvy
   cases hvx;cases hvy
   have hbc:(i.bytes:Int) * c<=281474976710656:=by
    have h4:i.bytes * c.toNat<=1024 * 1073741824:=O1k (by omega) (by omega)
    have h5:((i.bytes * c.toNat:Nat):Int)=(i.bytes:Int) * c:=by rw [P1g,P1c (by omega)]
    omega
   have hmk:=run_make (P:=X.P) w ty e i zv hu hi hzv k1 k2 l c h0 h1 hbc (by omega)
   have hcl:(madeCells zv.cells (c.toNat * i.size)).toList=e0W z c.toNat:=by
    have:=k0D zv.cells c.toNat (by omega)
    rw [hzs,hvz] at this
    rw [hsi];simpa [madeCells,hzs] using this
   have hcs:(madeCells zv.cells (c.toNat * i.size)).size=c.toNat * size:=by rw [size_madeCells,hsi]
   have hlc:l.toNat * size<=c.toNat * size:=N1e _ (by omega)
   refine a0D.made hR hT hfl e _ _ (by rw [d0G,hcs,<- hsz];exact hlc) ?_ _ (.slice (some ⟨w.heap.size,0,none⟩) l.toNat c.toNat) (by simp [execOp,ho,hg1,hg2,hmk])
    (j0X hR _ e _ _ _ size (d0Y hs) (fun _=>rfl) (by omega) (by rw [hcs];exact M1U _))
   rw [hcl,d0G,s0b _ _ _ (by omega)]
   exact f0K (k0m hf _)
  ·cases h
 ·cases h
theorem F0f {ty:TypeId} {n:Nat} {x y:Operand} {x' y':Opd} (ho:o.op=.store ty x y) (hn:c0E X.P ty=some n) (hx:b0s x=some x') (hy:b0s y=some y') (fx:a0s x' = true) (fy:a0s y' = true)
  {v:Value} (h:opA fl t H (.store n x' y')=.val v H'):a0D X fl φ H w o a v H':=by
 have hvx:=a0V hT hx fx
 have hvy:=(a0V hT hy fy).cells
 simp only [opA] at h
 split at h
 ·rename_i p e1
  split at h
  ·cases h
  ·rename_i hc
   split at h
   ·rename_i H2 hw
    simp only [OpRes.val.injEq] at h
    obtain ⟨rfl,rfl⟩:=h
    rw [e1] at hvx
    generalize hg1:a.eval x=g1 at hvx
    cases hvx with
    | ptr _ q B o' h1 h2 h3 h4 =>
     subst h3
     obtain ⟨w',hst,hstep⟩:=b0R.store hR h2 h4 hw hvy
     have hlen:=hvy.1
     have hsz:(a.eval y).cells.size=n:=by
      have:¬ (a0t (ev t y')).length ≠ n:=fun e=>hc (.inr e)
      simp only [O1a] at hlen;omega
     refine ⟨φ,w',undef,.inr ⟨rfl,?_⟩,VR.undef,hstep⟩
     simp [execOp,ho,hg1,Instr.storeAt,Instr.sureAddr,storeVar,c0R hn,hsz,hst]
   ·cases h
 ·cases h
omit hR hT in
theorem m0Z (w:World) (t u ty e:TypeId) (i:TypeInfo) (z:Value) (k k':IntKind) (ht:X.P.underlying t=some (.slice e)) (hk:X.P.underlying u=some (.int k)) (hi:X.P.info? e=some i) (hz:i.zero=some z) (n:Int) (h0:0 < n) (h1:n<=1073741824) (hb:i.bytes<=1024) (hs:0 < i.size) :
  (Builtin.append_ #[t,u] ty #[.slice none 0 0,.int k' n]).run X.P w=.ok (.slice (some ⟨w.heap.size,0,none⟩) n.toNat (grownCap w n.toNat 0 e))
   (w.drew.alloc (.cells (Builtin.zeroCells z.cells n.toNat ++ Builtin.zeroCells z.cells (grownCap w n.toNat 0 e - n.toNat)) e)):=by
 have wl:IntKind.i64.wrap n=n:=by rw [IntKind.wrap_i64];omega
 obtain ⟨m,rfl⟩:∃ m:Nat,n=m:=⟨n.toNat,by omega⟩
 have n1:¬ (m:Int) < 0:=by omega
 have hm0:m ≠ 0:=by omega
 have hsm:m * i.bytes<=1073741824 * 1024:=O1k (by omega) hb
 have n2:¬ (281474976710656 < (m:Int) * (i.bytes:Int)):=by
  have:((m * i.bytes:Nat):Int)=(m:Int) * (i.bytes:Int):=P1g _ _
  omega
 have hms:m * i.size ≠ 0:=by have:=Nat.mul_pos (show 0 < m by omega) hs;omega
 have h63:¬ (9223372036854775807 < (m:Int)):=by omega
 have h48:¬ (281474976710656 < Builtin.nextslicecap m 0 * i.bytes):=by rw [nextslicecap_zero (by omega)];omega
 have hms2:¬ (m=0 ∨ i.size=0):=by omega
 simp [Builtin.append_,run_underlying ht,run_underlying hk,sizeOf,typeInfo,zeroValue,hi,hz,asInt,asIntOf,wl,n1,n2,hm0,hms,hms2,h63,h48,Question.forced,run_firstCells_none,newRow,grownCap]
theorem R0U (hfl:fl<=H.size) {ty u e ty2:TypeId} {z:List Value} {size bytes:Nat} {as:Array Operand} {ats:Array TypeId} {x y:Operand} {x' y':Opd}
  (ho:o.op=.call { callee:=.builtin .append,args:=as,argTypes:=ats }) (hty2:o.type=ty2) (has:as.toList=[x,y]) (hats:ats.toList=[ty,u]) (he:h0N X.P ty=some e) (hs:c0E X.P e=some size)
  (hb:j0L X.P e=some bytes) (hz:k0S X.P e=some z) (hsz:size=z.length) (hpos:0 < size) (hu2:j0R X.P u=true) (hx:b0s x=some x') (hy:b0s y=some y') (fx:a0s x' = true) (fy:a0s y' = true)
  {v:Value} (h:opA fl t H (.appz e bytes z x' y')=.val v H'):a0D X fl φ H w o a v H':=by
 have hu:=f0u he
 obtain ⟨hf,zv,i,hi,hzv,_,hvz,hrun⟩:=i0F hz
 have hzs:zv.cells.size=size:=by rw [hsz,<- hvz];simp
 have hvx:=a0V hT hx fx
 have hvy:=a0V hT hy fy
 have hbi:i.bytes=bytes:=by simpa [j0L,hi] using hb
 have hsi:i.size=size:=by simpa [c0E,hi] using hs
 have hce:=d0Y hs
 have has':as = #[x,y]:=by rw [<- N1A (xs:=as),has]
 have hats':ats = #[ty,u]:=by rw [<- N1A (xs:=ats),hats]
 subst has' hats'
 obtain ⟨k,hk⟩:∃ k,X.P.underlying u=some (.int k):=by
  unfold j0R at hu2;split at hu2
  ·rename_i k hk;exact ⟨k,hk⟩
  ·cases hu2
 simp only [opA] at h
 split at h
 ·rename_i m hg
  simp only [OpRes.val.injEq] at h
  obtain ⟨rfl,rfl⟩:=h
  unfold t0a at hg
  split at hg
  ·rename_i k' n e1 e2
   split at hg
   ·rename_i hc
    obtain ⟨c0,c1,c2⟩:=hc
    simp only [M1Q] at hg
    subst hg
    rw [e1] at hvx;rw [e2] at hvy
    generalize hg1:a.eval x=g1 at hvx
    generalize hg2:a.eval y=g2 at hvy
    cases hvx;cases hvy
    have hr:=m0Z (X:=X) w ty u ty2 e i zv k k' hu hk hi hzv n c0 c1 (by omega) (by omega)
    have hex:(execOp a.eval o).run X.P w=.ok (.value (.slice (some ⟨w.heap.size,0,none⟩) n.toNat (grownCap w n.toNat 0 e))) (w.drew.alloc (.cells (Builtin.zeroCells zv.cells n.toNat ++ Builtin.zeroCells zv.cells (grownCap w n.toNat 0 e - n.toNat)) e)):=by
     simp [execOp,ho,hg1,hg2,resolve,invoke,builtin,hty2,hr]
    have hge:=grownCap_ge w n.toNat 0 e
    obtain ⟨m,hm⟩:∃ m,m=n.toNat:=⟨_,rfl⟩
    rw [<- hm] at hex hge ⊢
    have hzl:(Builtin.zeroCells zv.cells m).toList=e0W z m:=by rw [n0S _ _ (by omega),hvz]
    have hzsz:(Builtin.zeroCells zv.cells m).size=m * size:=by rw [size_zeroCells,hzs]
    have hrl:(e0W z m).length=m * size:=by rw [d0G,<- hsz]
    have hst:=b0R.alloc (fl:=fl) (hR.drew) e (e0W z m) (Builtin.zeroCells zv.cells m ++ Builtin.zeroCells zv.cells (grownCap w m 0 e - m))
     (by rw [hrl,Array.size_append,hzsz];omega)
     (by
      have:(Builtin.zeroCells zv.cells m ++ Builtin.zeroCells zv.cells (grownCap w m 0 e - m)).toList.take (e0W z m).length=e0W z m:=by
       rw [O1G,hzl];exact List.take_left
      rw [this];exact f0K (k0m hf _)) hfl
    refine ⟨_,_,_,.inl hex,?_,(b0R.drew hR).trans hst (M1U _) hR⟩
    exact j0X (X:=X) (φ:=φ) (H:=H) (w:=w.drew) hR.drew (Builtin.zeroCells zv.cells m ++ Builtin.zeroCells zv.cells (grownCap w m 0 e - m)) e m unk (grownCap w m 0 e) size hce (fun h=>N1i rfl h) hge (by
     rw [Array.size_append,hzsz,size_zeroCells,hzs,<- N1t]
     exact N1e _ (by omega))
   ·cases hg
  ·cases hg
 ·cases h
omit hT in
theorem v0b (hfl:fl<=H.size) {ty u e ty2:TypeId} {i:TypeInfo} {zv:Value} {size bytes n len cap:Nat} {base:Option Addr} {x y:Operand} {new new':List Value} {g1 g2:Value}
  (hu:X.P.underlying ty=some (.slice e)) (hu2:X.P.underlying u=some (.slice e) ∨ X.P.underlying u=some .string) (hi:X.P.info? e=some i) (hzv:i.zero=some zv)
  (hzs:zv.cells.size=size) (hbi:i.bytes=bytes) (hsi:i.size=size) (hce:X.P.cellsOf e=size)
  (hexec:∀ (v':Value) (w1:World),(Builtin.append_ #[ty,u] ty2 #[g1,g2]).run X.P w=.ok v' w1->(execOp a.eval o).run X.P w=.ok (.value v') w1)
  (hn0:n ≠ 0) (hb1:len + n<=1073741824) (hb2:bytes<=1024) (hnl:new.length=n * size) (hncr:CR X φ (shq w) new new')
  (hlen:(Builtin.lenOf g2).run X.P w=.ok n w) (hfirst:∀ w1:World,w1.heap=w.heap->(Builtin.firstCells size n g2).run X.P w1=.ok new'.toArray w1)
  (hvx:VR X φ (shq w) (.slice base len cap) g1) {rv:Value} {rH:a0c} (hap:q0C fl H e size bytes base len cap n new=some (rv,rH)):a0D X fl φ H w o a rv rH:=by
 have hsmall:(len + n) * i.bytes<=140737488355328:=by
  have:(len + n) * i.bytes<=1073741824 * 1024:=O1k hb1 (by omega)
  omega
 have hnl':new'.length=n * size:=by rw [<- hncr.1,hnl]
 have run_grow:∀ (ob:Option Addr) (sLen sCap:Nat) (olds:List Value),(∀ w1:World,w1.heap=w.heap->(Builtin.firstCells size sLen (.slice ob sLen sCap)).run X.P w1=.ok olds.toArray w1)->sCap < sLen + n->sLen + n<=1073741824 ->
   Builtin.nextslicecap (sLen + n) sCap * i.bytes<=281474976710656 ->
   (Builtin.append_ #[ty,u] ty2 #[.slice ob sLen sCap,g2]).run X.P w =
    .ok (.slice (some ⟨w.heap.size,0,none⟩) (sLen + n) (grownCap w (sLen + n) sCap e))
     (w.drew.alloc (.cells (olds.toArray ++ new'.toArray ++ Builtin.zeroCells zv.cells (grownCap w (sLen + n) sCap e - (sLen + n))) e)):=by
  intro ob sLen sCap olds hfo hg h63 hfit
  have hn:¬ (sLen + n<=sCap):=by omega
  have h63':¬ (9223372036854775807 < ((sLen:Int) + (n:Int))):=by omega
  have h48':¬ (281474976710656 < Builtin.nextslicecap (sLen + n) sCap * i.bytes):=by omega
  have hf:=hfirst w.drew rfl
  have hfo':=hfo w.drew rfl
  rw [<- hsi] at hf hfo'
  rcases hu2 with hu2 | hu2
  all_goals
   simp [Builtin.append_,run_underlying hu,run_underlying hu2,sizeOf,typeInfo,zeroValue,hi,hzv,hlen,hn,h63',h48',Question.forced,hf,hfo',newRow,grownCap]
   try (congr 2;apply O1x;simp [List.append_assoc])
 -- the new row of a grown slice
 have grownRow:∀ (G:a0c),Rel X φ G w->G.size=H.size->∀ (olds olds':List Value) (m:Nat),olds.length=m * size->CR X φ (shq w) olds olds'->∀ cap0,
   (execOp a.eval o).run X.P w=.ok (.value (.slice (some ⟨w.heap.size,0,none⟩) (m + n) (grownCap w (m + n) cap0 e)))
    (w.drew.alloc (.cells (olds'.toArray ++ new'.toArray ++ Builtin.zeroCells zv.cells (grownCap w (m + n) cap0 e - (m + n))) e)) ->
   ∃ φ' w' v',(execOp a.eval o).run X.P w=.ok (.value v') w'/\VR X φ' (shq w') (.slice (some ⟨G.size,0,none⟩) (m + n) unk) v'/\b0R X fl φ G w φ' (G.push (.row false e (olds ++ new))) w':=by
  intro G hG hGs olds olds' m hol hocr cap0 hex
  have hge:=grownCap_ge w (m + n) cap0 e
  have hlen:(olds ++ new).length=(m + n) * size:=by rw [N1X,hol,hnl,N1t]
  have hcr:=hocr.append hncr
  have hlen':(olds' ++ new').length=(m + n) * size:=by rw [<- hcr.1,hlen]
  have hst:=b0R.alloc (fl:=fl) (hG.drew) e (olds ++ new) (olds'.toArray ++ new'.toArray ++ Builtin.zeroCells zv.cells (grownCap w (m + n) cap0 e - (m + n)))
   (by simp only [Array.size_append,List.size_toArray,hlen];simp only [N1X] at hlen';omega)
   (by
    have:(olds'.toArray ++ new'.toArray ++ Builtin.zeroCells zv.cells (grownCap w (m + n) cap0 e - (m + n))).toList.take (olds ++ new).length=olds' ++ new':=by
     rw [hlen,<- hlen',O1G,O1G]
     exact List.take_left
    rw [this];exact hcr) (by omega)
  refine ⟨_,_,_,hex,?_,(b0R.drew hG).trans hst (M1U _) hG⟩
  exact j0X (X:=X) (φ:=φ) (H:=G) (w:=w.drew) hG.drew (olds'.toArray ++ new'.toArray ++ Builtin.zeroCells zv.cells (grownCap w (m + n) cap0 e - (m + n))) e (m + n) unk (grownCap w (m + n) cap0 e) size hce (fun h=>N1i rfl h) hge (by
   simp only [Array.size_append,List.size_toArray,size_zeroCells,hzs]
   simp only [N1X] at hlen'
   rw [hlen',<- N1t]
   exact N1e _ (by omega))
 unfold q0C at hap
 split at hap
 ·cases hap
 rename_i hplain
 split at hap
 ·-- onto nil
  split at hap
  ·rename_i hz0;cases hap
   obtain ⟨rfl,rfl⟩:=hz0
   cases hvx
   have hr:=run_grow none 0 0 [] (fun w1 _=>by simp [Builtin.firstCells]) (by omega) (by omega) (growslice_fits (by omega) hsmall)
   obtain ⟨φ2,w2,v2,q1,q2,q3⟩:=grownRow H hR rfl [] [] 0 (by simp) CR.nil 0 (hexec _ _ hr)
   exact ⟨φ2,w2,v2,.inl q1,by simpa using q2,by simpa using q3⟩
  ·cases hap
 ·rename_i sp
  split at hap
  ·rename_i h00;cases hap
   obtain ⟨rfl,rfl⟩:=h00
   have gg:∃ p',g1=.slice (some p') 0 0:=by
    cases hvx with
    | sle _ p'=>exact ⟨_,rfl⟩
    | sl _ p' _ _ c' B o' j1 j2 j3 j4 j5 j6 j7 j8=>have:=j6 (by simp [unk]);subst this;exact ⟨_,rfl⟩
   obtain ⟨p',hgg⟩:=gg
   have hr:=run_grow (some p') 0 0 [] (fun w1 _=>by simp [Builtin.firstCells,loadCells,loadCellsFrom]) (by omega) (by omega) (growslice_fits (by omega) hsmall)
   rw [<- hgg] at hr
   obtain ⟨φ2,w2,v2,q1,q2,q3⟩:=grownRow H hR rfl [] [] 0 (by simp) CR.nil 0 (hexec _ _ hr)
   exact ⟨φ2,w2,v2,.inl q1,by simpa using q2,by simpa using q3⟩
  rename_i h00
  split at hap
  ·cases hap
  ·rename_i old hold
   cases hvx with
   | sle _ p'=>exact N1i ⟨rfl,rfl⟩ h00
   | sl _ p' _ _ c' B o' j1 j2 j3 j4 j5 j6 j7 j8 =>
    obtain ⟨hol,old',hol',hocr,hocell⟩:=hR.cells j2 (V0u j4 j8) hold
    have hocell2:∀ j v,old'[j]? = some v->w.cell? (p'.add j)=some v:=by
     intro j v hj
     have hlt:j < old'.length:=(N1b.1 hj).1
     have hlen0:0 < len:=by
      rcases O1P len with h0 | h0
      ·subst h0;rw [hol'] at hlt;simp at hlt
      ·exact h0
     have:=hocell j v hj
     rw [c0P j3,j4,j5 hlen0];exact this
    have hgrow:c' < len + n->∀ (G:a0c),Rel X φ G w->G.size=H.size ->
      ∃ φ' w' v',(execOp a.eval o).run X.P w=.ok (.value v') w'/\VR X φ' (shq w') (.slice (some ⟨G.size,0,none⟩) (len + n) unk) v'/\b0R X fl φ G w φ' (G.push (.row false e (old ++ new))) w':=by
     intro hcl G hG hGs
     have hr:=run_grow (some p') len c' old' (fun w1 hw1=>run_firstCells_some (P:=X.P) w1 size len p' len c' old' hol' (fun j v hj=>by
      have:=hocell2 j v hj
      simp only [World.cell?,hw1] at this ⊢;exact this)) hcl hb1 (growslice_fits hcl hsmall)
     exact grownRow G hG hGs old old' len hol hocr c' (hexec _ _ hr)
    split at hap
    ·rename_i hcap;cases hap
     obtain ⟨φ2,w2,v2,q1,q2,q3⟩:=hgrow (by rw [j6 hcap.1];exact hcap.2) H hR rfl
     exact ⟨φ2,w2,v2,.inl q1,q2,q3⟩
    ·split at hap
     ·rename_i e' cs0 hk
      split at hap
      ·rename_i hcond;cases hap
       obtain ⟨rfl,hflb⟩:=hcond
       obtain ⟨c,g1',g2',g3',g4'⟩:=hR.blkT j2 (V0u j4 j8) hk
       by_cases hroom:len + n<=c'
       ·-- in place
        obtain ⟨e3,nn,q1,q2⟩:=j8 (by rw [j4];exact g2')
        rw [j4] at q1
        simp only [shq,g1',M1Q,N1V] at q1
        obtain ⟨rfl,rfl⟩:=q1
        rw [hce] at q2
        have hfit:p'.off + len * size + new'.length<=c.size:=by
         rw [hnl']
         have:len * size + n * size<=c' * size:=by rw [<- N1t];exact N1e _ hroom
         omega
        have hpl:∀ u ∈ new',u.oneCell' = true:=hncr.plain (by simpa using hplain)
        have hstc:=run_storeCells_at X.P B (p'.off + len * size) e' new' 0 c w g1' (by simpa using hfit) hpl
        simp only [N1O] at hstc
        rw [<- k0r new' c.toList (p'.off + len * size) (by simpa using hfit)] at hstc
        have hf:=hfirst w rfl
        rw [<- hsi] at hf
        have hrunA:(Builtin.append_ #[ty,u] ty2 #[.slice (some p') len c',g2]).run X.P w =
          .ok (.slice (some p') (len + n) c') (w.setRow B (b0e c.toList (p'.off + len * size) new').toArray):=by
         have hadd:p'.add (len * i.size) = ⟨B,p'.off + len * size,none⟩:=by rw [c0P j3,j4,hsi]
         rcases hu2 with hu2 | hu2
         all_goals simp [Builtin.append_,run_underlying hu,run_underlying hu2,sizeOf,typeInfo,hi,hlen,hroom,hf,hadd,hstc]
        have hclen:(b0e c.toList (p'.off + len * size) new').toArray.size=c.size:=by simp [c0I]
        have hcr:CR X φ (shq w) (old ++ new) (((b0e c.toList (p'.off + len * size) new').toArray.toList.drop p'.off).take (old ++ new).length):=by
         have e4:((b0e c.toList (p'.off + len * size) new').drop p'.off).take (old ++ new).length=old' ++ new':=by
          rw [j0E]
          rw [k0r new' (c.toList.drop p'.off) (len * size) (by simp;omega)]
          have e5:(c.toList.drop p'.off).take (len * size)=old':=by
           apply O1V
           intro j
           by_cases hj:j < len * size
           ·have hlt:j < old'.length:=by omega
            have:=hocell2 j old'[j] (M1X hlt)
            rw [c0P j3] at this
            simp only [World.cell?,j4,g1',Option.isSome_none,N1g,N1G] at this
            rw [List.getElem?_take_of_lt hj,O1A,M1X hlt]
            rw [N1S];exact this
           ·rw [N1d (by simp;omega),N1d (by omega)]
          rw [e5]
          have:(old ++ new).length=(old' ++ new').length:=by simp;omega
          rw [this]
          exact List.take_left
         simp only []
         rw [e4];exact hocr.append hncr
        have hstep:=b0R.moved (fl:=fl) (off:=p'.off) hR j2 hk hflb hfl c _ g1' hclen (by rw [hclen];simp only [N1X,hol,hnl];omega) hcr
        refine ⟨_,_,_,.inl (hexec _ _ hrunA),?_,hstep⟩
        refine .sl _ _ _ _ _ B p'.off rfl (by simp) j3 j4 (fun _=>by simp) (fun h=>N1i rfl h) hroom (fun _=>⟨e',c.size,?_,by rw [hce];exact q2⟩)
        rw [j4,i0p w B c _ e' (0,0) g1' hclen]
        simp [shq,g1']
       ·-- grown,and the old row forgotten
        have hkill:=b0R.kill (fl:=fl) hR (a0r hk) hflb
        obtain ⟨φ2,w2,v2,q1,q2,q3⟩:=hgrow (by omega) _ hkill.rel (by simp)
        exact ⟨φ2,w2,v2,.inl q1,by simpa using q2,hkill.trans q3 (M1U _) hR⟩
      ·cases hap
     ·cases hap
theorem t1E (hfl:fl<=H.size) {ty u e ty2:TypeId} {z:List Value} {size bytes:Nat} {as:Array Operand} {ats:Array TypeId} {x y:Operand} {x' y':Opd}
  (ho:o.op=.call { callee:=.builtin .append,args:=as,argTypes:=ats }) (hty2:o.type=ty2) (has:as.toList=[x,y]) (hats:ats.toList=[ty,u]) (he:h0N X.P ty=some e) (hs:c0E X.P e=some size)
  (hb:j0L X.P e=some bytes) (hz:k0S X.P e=some z) (hsz:size=z.length) (_:0 < size) (hut:u=ty ∨ g0N X.P u=true) (hx:b0s x=some x') (hy:b0s y=some y') (fx:a0s x' = true) (fy:a0s y' = true)
  {v:Value} (h:opA fl t H (.app e size bytes x' y')=.val v H'):a0D X fl φ H w o a v H':=by
 have hu:=f0u he
 have hu2:X.P.underlying u=some (.slice e) ∨ X.P.underlying u=some .string:=by
  rcases hut with rfl | h
  ·exact .inl hu
  ·unfold g0N at h;split at h
   ·rename_i hq;exact .inr hq
   ·cases h
 obtain ⟨hf,zv,i,hi,hzv,_,hvz,hrun⟩:=i0F hz
 have hzs:zv.cells.size=size:=by rw [hsz,<- hvz];simp
 have hvx:=a0V hT hx fx
 have hvy:=a0V hT hy fy
 have hbi:i.bytes=bytes:=by simpa [j0L,hi] using hb
 have hsi:i.size=size:=by simpa [c0E,hi] using hs
 have hce:=d0Y hs
 have has':as = #[x,y]:=by rw [<- N1A (xs:=as),has]
 have hats':ats = #[ty,u]:=by rw [<- N1A (xs:=ats),hats]
 subst has' hats'
 have hexec:∀ (g1 g2 v':Value) (w1:World),a.eval x=g1->a.eval y=g2->(Builtin.append_ #[ty,u] ty2 #[g1,g2]).run X.P w=.ok v' w1->(execOp a.eval o).run X.P w=.ok (.value v') w1:=by
  intro g1 g2 v' w1 e1 e2 e3
  simp [execOp,ho,e1,e2,resolve,invoke,builtin,hty2,e3]
 simp only [opA] at h
 cases hap:n0w fl H e size bytes (ev t x') (ev t y') with
 | none=>simp [hap,f0P] at h
 | some r =>
  obtain ⟨rv,rH⟩:=r
  simp only [hap,f0P,OpRes.val.injEq] at h
  obtain ⟨rfl,rfl⟩:=h
  generalize hg1:a.eval x=g1 at hvx
  generalize hg2:a.eval y=g2 at hvy
  have nothing:∀ {base:Option Addr} {len cap:Nat},VR X φ (shq w) (.slice base len cap) g1->(Builtin.lenOf g2).run X.P w=.ok 0 w->(Builtin.firstCells i.size 0 g2).run X.P w=.ok #[] w->a0D X fl φ H w o a (.slice base len cap) H:=by
   intro base len cap hv hl0 hf0
   have key:∀ (p':Option Addr) (c':Nat),g1=.slice p' len c'->len<=c'->a0D X fl φ H w o a (.slice base len cap) H:=by
    intro p' c' h1 hlc
    subst h1
    refine a0D.same hR (v':=.slice p' len c') (hexec _ _ _ _ hg1 hg2 ?_) hv
    rcases hu2 with hu2 | hu2 <;> cases p' <;> simp [Builtin.append_,run_underlying hu,run_underlying hu2,sizeOf,typeInfo,hi,hl0,hlc,hf0,storeCells]
   cases hv with
   | sle _ p'=>exact key _ _ rfl (M1U _)
   | snil=>exact key _ _ rfl (M1U _)
   | sl _ p' _ _ c' B o' k1 k2 k3 k4 k5 k6 k7 k8=>exact key _ _ rfl k7
  unfold n0w at hap
  split at hap
  ·rename_i base len cap xb n xc e1 e2
   rw [e1] at hvx;rw [e2] at hvy
   split at hap
   ·-- nothing appended
    rename_i hn0;cases hap
    subst hn0
    have hg2':∃ q' d',g2=.slice q' 0 d':=by
     cases hvy with
     | snil=>exact ⟨_,_,rfl⟩
     | sle _ q'=>exact ⟨_,_,rfl⟩
     | sl _ q' _ _ d' B2 o2 _ _ _ _ _ _ _ _=>exact ⟨_,_,rfl⟩
    obtain ⟨q',d',rfl⟩:=hg2'
    exact nothing hvx (by simp [Builtin.lenOf]) (by cases q' <;> simp [Builtin.firstCells,loadCells,loadCellsFrom])
   ·rename_i hn0
    split at hap
    ·rename_i hbd
     obtain ⟨hb1,hb2,_⟩:=hbd
     split at hap
     ·cases hap
     ·rename_i xp
      split at hap
      ·cases hap
      ·rename_i new hnew
       cases hvy with
       | sle _ q'=>exact N1i rfl hn0
       | sl _ q' _ _ d' B2 o2 k1 k2 k3 k4 k5 k6 k7 k8 =>
        have hoff2:=k5 (by omega)
        have hq:q' = ⟨B2,o2 + xp.off,none⟩:=by cases q';simp_all
        subst hq
        obtain ⟨hnl,new',hnl',hncr,hncell⟩:=hR.cells k2 (V0u k4 k8) hnew
        have hncell':=m0h hncell
        exact v0b hR hfl hu hu2 hi hzv hzs hbi hsi hce (fun v' w1=>hexec _ _ v' w1 hg1 hg2) (x:=x) (y:=y) hn0 hb1 hb2 hnl hncr (by simp [Builtin.lenOf])
         (fun w1 hw1=>run_firstCells_some (P:=X.P) w1 size n ⟨B2,o2 + xp.off,none⟩ n d' new' hnl' (fun j v hj=>by
          have:=hncell' j v hj
          simp only [World.cell?,hw1] at this ⊢;exact this)) hvx hap
    ·cases hap
  ·rename_i base len cap b e1 e2
   rw [e1] at hvx;rw [e2] at hvy
   cases hvy
   have hbl:b.data.toList.length=b.size:=by rw [O1a];rfl
   split at hap
   ·rename_i hn0;cases hap
    have hb0:b.size=0:=by omega
    exact nothing hvx (by simp [Builtin.lenOf,hb0]) (by simp [Builtin.firstCells])
   ·rename_i hn0
    split at hap
    ·rename_i hbd
     obtain ⟨hb1,hb2,rfl⟩:=hbd
     have hcr:CR X φ (shq w) (i0w b.data.toList) (i0w b.data.toList):=CR.of_mem_map _ _ _ fun b _=>.int _ _
     refine v0b hR hfl hu hu2 hi hzv hzs hbi hsi hce (fun v' w1=>hexec _ _ v' w1 hg1 hg2) (x:=x) (y:=y) hn0 hb1 hb2 (by simp [i0w]) hcr (by simp [Builtin.lenOf,hbl]) (fun w1 _=>?_) hvx hap
     have hx:b.extract 0 b.data.toList.length=b:=by
      rw [hbl];exact ByteArray.extract_zero_size
     simp only [Builtin.firstCells,hx,Sem.run_pure]
     congr 1
     apply O1x
     simp [i0w]
    ·cases hap
  ·cases hap
end
end
section
variable {X:Cx} {φ φ':Inj} {S:Shp} {H H':a0c} {w w':World} {fl:Nat} {t:a0U} {a:Act} {o:Oper} {so:SOp} {lone:Bool}
theorem w1o (hc:cOp X.P lone o.op=some so) (hf:(a0g so).all a0s=true) (hR:Rel X φ H w) (hT:CR X φ (shq w) t a.tmps.toList) (hfl:fl<=H.size) {v:Value} (h:opA fl t H so=.val v H') :
  a0D X fl φ H w o a v H':=by
 cases ho:o.op
 case move x =>
  simp only [cOp,ho,N1z] at hc
  obtain ⟨x',hx,rfl⟩:=hc
  simp only [opA,OpRes.val.injEq] at h;obtain ⟨rfl,rfl⟩:=h
  exact U0R hR hT (.inl ho) hx (by simpa [a0g] using hf)
 case assign x =>
  simp only [cOp,ho,N1z] at hc
  obtain ⟨x',hx,rfl⟩:=hc
  simp only [opA,OpRes.val.injEq] at h;obtain ⟨rfl,rfl⟩:=h
  exact U0R hR hT (.inr ho) hx (by simpa [a0g] using hf)
 case pick c x y =>
  simp only [cOp,ho,M1S,M1P,M1T,M1Q] at hc
  obtain ⟨c',h1,x',h2,y',h3,rfl⟩:=hc
  simp only [a0g,N1u,M1W,O1g] at hf
  exact S0a hR hT ho h1 h2 h3 hf.1 hf.2.1 hf.2.2.1 h
 case alloc e =>
  simp only [cOp,ho,M1S,M1P,M1T,M1Q] at hc
  obtain ⟨z,h1,rfl⟩:=hc
  simp only [opA,OpRes.val.injEq] at h;obtain ⟨rfl,rfl⟩:=h
  exact F0a hR hT hfl ho h1
 case box e x =>
  simp only [cOp,ho,M1S,M1P,M1T,M1Q] at hc
  obtain ⟨x',h1,rfl⟩:=hc
  simp only [opA,OpRes.val.injEq] at h;obtain ⟨rfl,rfl⟩:=h
  exact t1H hR hT hfl ho h1 (by simpa [a0g] using hf)
 case build ty ps =>
  simp only [cOp,ho,M1S,M1P,M1T,M1Q] at hc
  obtain ⟨fs,h1,hc⟩:=hc
  split at hc
  ·rename_i hall
   simp only [M1P,M1Q] at hc
   obtain ⟨z,h2,qs,h3,rfl⟩:=hc
   exact F0b hR hT ho h1 hall h2 h3 (by simpa [a0g] using hf) h
  ·cases hc
 case buildSlice ty n ps =>
  simp only [cOp,ho,M1S,M1P,M1T,M1Q] at hc
  obtain ⟨e,h1,size,h2,z,h3,hc⟩:=hc
  split at hc
  ·rename_i hall
   simp only [M1P,M1Q] at hc
   obtain ⟨qs,h4,rfl⟩:=hc
   exact t1O hR hT hfl ho h1 h2 h3 hall.1 hall.2.1 hall.2.2 h4 (by simpa [a0g] using hf) h
  ·cases hc
 case load ty x =>
  simp only [cOp,ho,M1S,M1P,M1T,M1Q] at hc
  obtain ⟨b,h1,n,h2,x',h3,rfl⟩:=hc
  exact R0W hR hT ho h2 h1 h3 (by simpa [a0g] using hf) h
 case store ty x y =>
  simp only [cOp,ho,M1S,M1P,M1T,M1Q] at hc
  obtain ⟨n,h1,x',h2,y',h3,rfl⟩:=hc
  simp only [a0g,N1u,M1W,O1g] at hf
  exact F0f hR hT ho h1 h2 h3 hf.1 hf.2.1 h
 case nilCheck x =>
  simp only [cOp,ho,M1S,M1P,M1T,M1Q] at hc
  obtain ⟨x',h1,rfl⟩:=hc
  exact t1J hR hT ho h1 (by simpa [a0g] using hf) h
 case binOp b ty x y ty2 =>
  simp only [cOp,ho,M1S,M1P,M1T,M1Q] at hc
  obtain ⟨d,h1,x',h2,y',h3,rfl⟩:=hc
  simp only [a0g,N1u,M1W,O1g] at hf
  exact t1G hR hT ho h1 h2 h3 hf.1 hf.2.1 h
 case unOp u ty x =>
  simp only [cOp,ho,M1S,M1P,M1T,M1Q] at hc
  obtain ⟨x',h1,rfl⟩:=hc
  exact F1m hR hT ho h1 (by simpa [a0g] using hf) h
 case convert s d x =>
  simp only [cOp,ho] at hc
  split at hc
  ·rename_i k0 k hs hd
   simp only [M1S,M1P,M1T,M1Q] at hc
   obtain ⟨x',h3,rfl⟩:=hc
   exact R0V hR hT ho (k0:=k0) (by simp [u1p,hs]) (by simp [u1p,hd]) h3 (by simpa [a0g] using hf) h
  ·rename_i e hs hd
   split at hc
   ·rename_i he
    simp only [M1S,M1P,M1T,M1Q] at hc
    obtain ⟨x',h3,rfl⟩:=hc
    exact t1F hR hT ho hs hd he h3 (by simpa [a0g] using hf) h
   ·cases hc
  ·cases hc
 case makeInterface ty x =>
  simp only [cOp,ho] at hc
  split at hc
  ·cases hc
  ·cases hc
  ·rename_i d hne hu
   simp only [M1S,M1P,M1T,M1Q] at hc
   obtain ⟨x',h1,rfl⟩:=hc
   simp only [opA,OpRes.val.injEq] at h;obtain ⟨rfl,rfl⟩:=h
   exact F0c hR hT ho hu (fun m hm=>hne m hm) h1 (by simpa [a0g] using hf)
 case makeFunc f xs ys =>
  simp only [cOp,ho] at hc
  split at hc
  ·simp only [M1S,M1P,M1T,M1Q] at hc
   obtain ⟨xs',h1,ys',h2,rfl⟩:=hc
   simp only [opA,OpRes.val.injEq] at h;obtain ⟨rfl,rfl⟩:=h
   simp only [a0g,List.all_append,M1W] at hf
   exact R0Y hR hT ho h1 h2 hf.1 hf.2
  ·cases hc
 case makeSlice ty x y =>
  simp only [cOp,ho,M1S,M1P,M1T,M1Q] at hc
  obtain ⟨e,h1,size,h2,z,h3,hc⟩:=hc
  split at hc
  ·rename_i hall
   simp only [M1P,M1Q] at hc
   obtain ⟨by_,h4,x',h5,y',h6,rfl⟩:=hc
   simp only [a0g,N1u,M1W,O1g] at hf
   exact F1k hR hT hfl ho h1 h2 h4 h3 hall.1 hall.2 h5 h6 hf.1 hf.2.1 h
  ·cases hc
 case slice ty x lo hi mx =>
  simp only [cOp,ho] at hc
  split at hc
  ·rename_i hstr
   split at hc
   ·rename_i hh
    simp only [M1S,M1P,M1T,M1Q] at hc
    obtain ⟨x',h1,l',h2,h',h3,rfl⟩:=hc
    simp only [a0g,N1u,M1W,O1g] at hf
    exact t1R hR hT ho hstr h1 h2 h3 hf.1 hf.2.1 hf.2.2.1 h
   ·simp only [M1S,M1P,M1T,M1Q] at hc
    obtain ⟨x',h1,l',h2,rfl⟩:=hc
    simp only [a0g,N1u,M1W,O1g] at hf
    exact t1Q hR hT ho hstr h1 h2 hf.1 hf.2.1 h
   ·cases hc
  ·simp only [M1S,M1P,M1T,M1Q] at hc
   obtain ⟨e,h1,size,h2,x',h3,lo',h4,hi',h5,mx',h6,rfl⟩:=hc
   simp only [a0g,List.all_append,M1W,N1u,O1g] at hf
   exact F1l hR hT ho h1 h2 h3 h4 h5 h6 hf.1.1.1.1 hf.1.1.2 hf.1.2 hf.2 h
 case index ty x i =>
  simp only [cOp,ho] at hc
  split at hc
  ·rename_i hstr
   simp only [M1S,M1P,M1T,M1Q] at hc
   obtain ⟨x',h1,i',h2,rfl⟩:=hc
   simp only [a0g,N1u,M1W,O1g] at hf
   exact t1P hR hT ho hstr h1 h2 hf.1 hf.2.1 h
  ·cases hc
 case fieldAddr ty x i =>
  simp only [cOp,ho,M1S,M1P,M1T,M1Q] at hc
  obtain ⟨fs,h1,f,h2,n,h3,hc⟩:=hc
  split at hc
  ·rename_i hn;subst hn
   split at hc
   ·rename_i hall
    simp only [M1P,M1Q] at hc
    obtain ⟨x',h4,rfl⟩:=hc
    exact t1L hR hT ho h1 h2 h3 hall.1 hall.2.1 hall.2.2.1 hall.2.2.2 h4 (by simpa [a0g] using hf) h
   ·cases hc
  ·rename_i hn
   simp only [M1P,M1Q] at hc
   obtain ⟨x',h4,rfl⟩:=hc
   exact F1i hR hT ho h1 h2 h3 hn h4 (by simpa [a0g] using hf) h
 case field ty x i =>
  simp only [cOp,ho,M1S,M1P,M1T,M1Q] at hc
  obtain ⟨fs,h1,f,h2,b,h3,n,h4,x',h5,rfl⟩:=hc
  exact t1M hR hT ho h1 h2 h4 h3 h5 (by simpa [a0g] using hf) h
 case indexAddr ty x y =>
  simp only [cOp,ho,M1S,M1P,M1T,M1Q] at hc
  obtain ⟨e,h1,n,h2,x',h3,y',h4,rfl⟩:=hc
  simp only [a0g,N1u,M1W,O1g] at hf
  exact F1j hR hT ho h1 h2 h3 h4 hf.1 hf.2.1 h
 case extract x i =>
  simp only [cOp,ho,M1S,M1P,M1T,M1Q] at hc
  obtain ⟨x',h1,rfl⟩:=hc
  exact t1K hR hT ho h1 (by simpa [a0g] using hf) h
 case call c =>
  obtain ⟨callee,args,ats⟩:=c
  simp only [cOp,ho] at hc
  cases callee with
  | value f =>
   cases f with
   | func f =>
    simp only [] at hc
    split at hc
    ·simp only [M1S,M1P,M1T,M1Q] at hc
     obtain ⟨x',h1,rfl⟩:=hc
     simp [opA] at h
    ·cases hc
   | _ =>
    simp only [M1S,M1P,M1T,M1Q] at hc
    obtain ⟨x',h1,xs',h2,rfl⟩:=hc
    simp only [opA] at h
    split at h <;> cases h
  | invoke r name =>
   simp only [M1S,M1P,M1T,M1Q] at hc
   obtain ⟨x',h1,xs',h2,rfl⟩:=hc
   simp only [opA] at h
   split at h
   ·split at h <;> cases h
   ·cases h
  | builtin b =>
   simp only [] at hc
   split at hc
   ·rename_i x t1 hargs hats
    split at hc
    ·rename_i hstr
     simp only [M1S,M1P,M1T,M1Q] at hc
     obtain ⟨x',h2,rfl⟩:=hc
     exact S0b hR hT ho hargs hats hstr h2 (by simpa [a0g] using hf) h
    simp only [M1S,M1P,M1T,M1Q] at hc
    obtain ⟨e,h1,x',h2,rfl⟩:=hc
    exact t1N hR hT ho hargs hats h1 h2 (by simpa [a0g] using hf) h
   ·rename_i x t1 hargs hats
    simp only [M1S,M1P,M1T,M1Q] at hc
    obtain ⟨e,h1,x',h2,rfl⟩:=hc
    exact t1I hR hT ho hargs hats h1 h2 (by simpa [a0g] using hf) h
   ·rename_i x ys _ hargs
    simp only [M1S,M1P,M1T,M1Q] at hc
    obtain ⟨x',h1,ys',h2,rfl⟩:=hc
    simp only [a0g,N1u,M1W] at hf
    exact F0e hR hT ho rfl hargs h1 h2 hf.1 hf.2 h
   ·rename_i x ys _ hargs
    simp only [M1S,M1P,M1T,M1Q] at hc
    obtain ⟨x',h1,ys',h2,rfl⟩:=hc
    simp only [a0g,N1u,M1W] at hf
    exact F0e hR hT ho rfl hargs h1 h2 hf.1 hf.2 h
   ·rename_i s x t1 u1 hargs hats
    simp only [M1S,M1P,M1T,M1Q] at hc
    obtain ⟨e,h1,size,h2,z,h3,hc⟩:=hc
    split at hc
    ·rename_i hall
     obtain ⟨ha1,ha2,ha3⟩:=hall
     simp only [M1P,M1Q] at hc
     obtain ⟨by_,h4,s',h5,x',h6,rfl⟩:=hc
     simp only [a0g,N1u,M1W,O1g] at hf
     exact t1E hR hT hfl ho rfl hargs hats h1 h2 h4 h3 ha1 ha2 ha3 h5 h6 hf.1 hf.2.1 h
    ·split at hc
     ·rename_i hall
      obtain ⟨ha1,ha2,ha3⟩:=hall
      simp only [M1P,M1Q] at hc
      obtain ⟨by_,h4,s',h5,x',h6,rfl⟩:=hc
      simp only [a0g,N1u,M1W,O1g] at hf
      exact R0U hR hT hfl ho rfl hargs hats h1 h2 h4 h3 ha1 ha2 ha3 h5 h6 hf.1 hf.2.1 h
     ·cases hc
   ·cases hc
 case panic x =>
  simp only [cOp,ho,M1S,M1P,M1T,M1Q] at hc
  obtain ⟨x',h1,rfl⟩:=hc
  simp only [opA] at h
  split at h <;> cases h
 case makeMap ty r =>
  cases r with
  | none =>
   simp only [cOp,ho,M1Q] at hc
   subst hc
   simp only [opA,OpRes.val.injEq] at h
   obtain ⟨rfl,rfl⟩:=h
   exact F0d hR hfl ho
  | some x=>simp [cOp,ho] at hc
 case lookup ty x i ok =>
  cases ok with
  | true=>simp [cOp,ho] at hc
  | false =>
   simp only [cOp,ho] at hc
   split at hc
   ·rename_i k e hu
    split at hc
    ·rename_i hk
     split at hc
     ·rename_i z hz
      split at hc
      ·rename_i hfz
       simp only [M1S,M1P,M1T,M1Q] at hc
       obtain ⟨x',h1,i',h2,rfl⟩:=hc
       simp only [a0g,N1u,M1W,O1g] at hf
       exact R0X hR hT ho hu hk hz hfz h1 h2 hf.1 hf.2.1 h
      ·cases hc
     ·cases hc
    ·cases hc
   ·cases hc
 case mapUpdate m x y z =>
  simp only [cOp,ho] at hc
  split at hc
  ·rename_i k e hu
   split at hc
   ·rename_i hk
    simp only [M1S,M1P,M1T,M1Q] at hc
    obtain ⟨x',h1,y',h2,z',h3,rfl⟩:=hc
    simp only [a0g,N1u,M1W,O1g] at hf
    exact R0Z hR hT ho hu hk h1 h2 h3 hf.1 hf.2.1 hf.2.2.1 h
   ·cases hc
  ·cases hc
 all_goals (simp [cOp,ho] at hc)
theorem c0W {P:Program} {f:FuncId} (h:s0q P f=true) (args:Array Value) (w:World):(callFunc f args).run P w=.ok (.enter f args) w:=by
 unfold s0q at h
 cases hf:P.funcs[f]? with
 | none=>simp [hf] at h
 | some fn =>
  simp only [hf,M1W,O1s] at h
  obtain ⟨h1,h2⟩:=h
  cases hb:fn.body with
  | none=>simp [hb] at h2
  | some c=>simp [callFunc,hf,hb];simpa using h1
theorem o0h {α:Type} {k:Nat} {v:α}:∀ {l:List (Nat × α)},l.lookup k=some v->(k,v) ∈ l
 | [],h=>by simp at h
 | (k',v') :: r,h=>by
  rw [List.lookup_cons] at h
  split at h
  ·rename_i hk
   have:k=k':=by simpa using hk
   subst this
   simp only [M1Q] at h
   subst h
   exact O1B
  ·exact O1f _ (o0h h)
def f0L:SOp->Bool
 | .call _ _ _ | .callv _ _ _ | .inv _ _ _ _=>true
 | _=>false
theorem m0B {f:FuncId} {args:List Value} {l:Bool} (h:opA fl t H so=.call f args l):f0L so=true:=by
 cases so <;> simp only [opA] at h <;> first
  | rfl
  | (simp at h;done)
  | (unfold a0R at h;split at h <;> cases h)
  | (unfold f0P at h;split at h <;> cases h)
  | (split at h <;> first | (cases h;done) | (split at h <;> first | (cases h;done) | (split at h <;> first | (cases h;done) | (unfold a0R at h;split at h <;> cases h))) | (unfold a0R at h;split at h <;> cases h))
theorem s0D (hc:cOp X.P lone o.op=some so) (hs:f0L so=true):∃ c,o.op=.call c:=by
 cases ho:o.op
 case call c=>exact ⟨c,rfl⟩
 case makeMap ty r =>
  exfalso
  cases r with
  | none=>simp only [cOp,ho,M1Q] at hc;subst hc;simp [f0L] at hs
  | some x=>simp [cOp,ho] at hc
 case lookup ty x i ok =>
  exfalso
  cases ok with
  | true=>simp [cOp,ho] at hc
  | false =>
   simp only [cOp,ho] at hc
   split at hc
   ·split at hc
    ·split at hc
     ·split at hc
      ·simp only [M1S,M1P,M1T,M1Q] at hc
       obtain ⟨x',h1,i',h2,rfl⟩:=hc
       simp [f0L] at hs
      ·cases hc
     ·cases hc
    ·cases hc
   ·cases hc
 case mapUpdate m x y z =>
  exfalso
  simp only [cOp,ho] at hc
  split at hc
  ·split at hc
   ·simp only [M1S,M1P,M1T,M1Q] at hc
    obtain ⟨_,_,_,_,_,_,rfl⟩:=hc
    simp [f0L] at hs
   ·cases hc
  ·cases hc
 case convert sd d x =>
  exfalso
  simp only [cOp,ho] at hc
  split at hc
  ·simp only [M1S,M1P,M1T,M1Q] at hc
   obtain ⟨_,_,rfl⟩:=hc
   simp [f0L] at hs
  ·split at hc
   ·simp only [M1S,M1P,M1T,M1Q] at hc
    obtain ⟨_,_,rfl⟩:=hc
    simp [f0L] at hs
   ·cases hc
  ·cases hc
 case index ty x i =>
  exfalso
  simp only [cOp,ho] at hc
  split at hc
  ·simp only [M1S,M1P,M1T,M1Q] at hc
   obtain ⟨_,_,_,_,rfl⟩:=hc
   simp [f0L] at hs
  ·cases hc
 case slice ty x lo hi mx =>
  exfalso
  simp only [cOp,ho] at hc
  split at hc
  ·split at hc
   ·simp only [M1S,M1P,M1T,M1Q] at hc
    obtain ⟨_,_,_,_,_,_,rfl⟩:=hc
    simp [f0L] at hs
   ·simp only [M1S,M1P,M1T,M1Q] at hc
    obtain ⟨_,_,_,_,rfl⟩:=hc
    simp [f0L] at hs
   ·cases hc
  ·simp only [M1S,M1P,M1T,M1Q] at hc
   obtain ⟨_,_,_,_,_,_,_,_,_,_,_,_,rfl⟩:=hc
   simp [f0L] at hs
 all_goals
  exfalso
  cases so <;> simp only [f0L,N1g] at hs
  all_goals
   simp only [cOp,ho,N1z,M1S,M1P,M1T,M1Q,reduceCtorEq,and_false,exists_const,exists_false] at hc
   try (repeat' (first | (simp only [M1P,M1Q,reduceCtorEq,and_false,exists_const,exists_false] at hc;done) | (obtain ⟨_,_,hc⟩:=hc) | (split at hc)))
theorem z0H (hc:cOp X.P lone o.op=some so) (hf:(a0g so).all a0s=true) (hT:CR X φ (shq w) t a.tmps.toList) {f:FuncId} {args:List Value} {l:Bool} (h:opA fl t H so=.call f args l) :
  ∃ args':Array Value,CR X φ (shq w) args args'.toList/\(execOp a.eval o).run X.P w=(callFunc f args').run X.P w:=by
 cases ho:o.op
 case call c =>
  obtain ⟨callee,cargs,ats⟩:=c
  simp only [cOp,ho] at hc
  cases callee with
  | value g =>
   cases g with
   | func g =>
    simp only [] at hc
    split at hc
    ·simp only [M1S,M1P,M1T,M1Q] at hc
     obtain ⟨xs',h1,rfl⟩:=hc
     simp only [opA,OpRes.call.injEq] at h
     obtain ⟨rfl,rfl,rfl⟩:=h
     refine ⟨cargs.map a.eval,by simpa using j0r hT h1 (by simpa [a0g] using hf),?_⟩
     simp [execOp,ho,resolve,Deferred.ofValue,Act.eval,invoke]
    ·cases hc
   | _ =>
    simp only [M1S,M1P,M1T,M1Q] at hc
    obtain ⟨x',h1,xs',h2,rfl⟩:=hc
    simp only [a0g,N1u,M1W] at hf
    have hv:=a0V hT h1 hf.1
    have hvs:=j0r hT h2 hf.2
    simp only [opA] at h
    split at h
    ·rename_i g first captured e1
     simp only [OpRes.call.injEq] at h
     obtain ⟨rfl,rfl,rfl⟩:=h
     rw [e1] at hv
     generalize hg:a.eval _=gg at hv
     cases hv with
     | func _ _ _ f' c' k1 k2 k3 k4 =>
      have c1:CR X φ (shq w) first.toList f'.toList:=VR.agg_iff.1 (.agg _ _ k1 k2)
      have c2:CR X φ (shq w) captured.toList c'.toList:=VR.agg_iff.1 (.agg _ _ k3 k4)
      refine ⟨f' ++ cargs.map a.eval ++ c',by simpa using (c1.append hvs).append c2,?_⟩
      simp [execOp,ho,resolve,Deferred.ofValue,hg,invoke]
    ·cases h
  | invoke r name =>
   simp only [M1S,M1P,M1T,M1Q] at hc
   obtain ⟨x',h1,xs',h2,rfl⟩:=hc
   simp only [a0g,N1u,M1W] at hf
   have hv:=a0V hT h1 hf.1
   have hvs:=j0r hT h2 hf.2
   simp only [opA] at h
   split at h
   ·rename_i ty v e1
    split at h
    ·rename_i g hlk
     simp only [OpRes.call.injEq] at h
     obtain ⟨rfl,rfl,rfl⟩:=h
     rw [e1] at hv
     generalize hg:a.eval r=gg at hv
     cases hv with
     | iface _ _ v' k1 =>
      refine ⟨#[v'] ++ cargs.map a.eval,by simpa using k1.cons_cr hvs,?_⟩
      -- the method is found, direct, of a value
      have hmem:(ty,g) ∈ t0g X.P name:=o0h hlk
      unfold t0g at hmem
      rw [List.mem_filterMap] at hmem
      obtain ⟨t0,ht0,hm⟩:=hmem
      have ht0:=N1N.1 ht0
      split at hm
      ·rename_i i hi
       split at hm
       ·rename_i m hfind
        split at hm
        ·rename_i g0 fs hfn hund
         split at hm
         ·rename_i hpr
          simp only [M1Q,N1V] at hm
          obtain ⟨rfl,rfl⟩:=hm
          simp only [M1W] at hpr
          have hpath:m.path.toList=[]:=by simpa using hpr.1
          have hpos:∃ k,X.P.types.size + Made.depth=k + 1:=⟨X.P.types.size + Made.depth - 1,by omega⟩
          obtain ⟨k,hk⟩:=hpos
          have hmeth:(method (X.P.types.size + Made.depth) t0 v' name).run X.P w=.ok (g0,v') w:=by
           rw [hk,method]
           simp [typeInfo,hi,hfind,hpath,follow,hfn,receiverAt,run_underlying hund,Place.get]
          have hz:(#[Value.iface t0 v'] ++ cargs.map a.eval)[0]? = some (.iface t0 v'):=by simp [Array.getElem?_append]
          have hex:(#[Value.iface t0 v'] ++ cargs.map a.eval).extract 1 (#[Value.iface t0 v'] ++ cargs.map a.eval).size=cargs.map a.eval:=by
           apply O1x;simp [N1c]
          simp only [execOp,ho,resolve,Sem.run_bind,Sem.run_pure,Result.andThen_ok,hg,invoke,hz,hex,callMethod,run_program,hmeth]
         ·cases hm
        ·cases hm
       ·cases hm
      ·cases hm
    ·cases h
   ·cases h
  | builtin b =>
   simp only [] at hc
   split at hc
   ·split at hc
    ·simp only [M1S,M1P,M1T,M1Q] at hc
     obtain ⟨x',h2,rfl⟩:=hc
     simp only [opA] at h;unfold a0R at h;split at h <;> cases h
    simp only [M1S,M1P,M1T,M1Q] at hc
    obtain ⟨e,h1,x',h2,rfl⟩:=hc
    simp only [opA] at h;split at h <;> cases h
   ·simp only [M1S,M1P,M1T,M1Q] at hc
    obtain ⟨e,h1,x',h2,rfl⟩:=hc
    simp only [opA] at h;unfold a0R at h;split at h <;> cases h
   ·simp only [M1S,M1P,M1T,M1Q] at hc
    obtain ⟨x',h1,ys',h2,rfl⟩:=hc
    simp only [opA] at h;unfold a0R at h;split at h <;> cases h
   ·simp only [M1S,M1P,M1T,M1Q] at hc
    obtain ⟨x',h1,ys',h2,rfl⟩:=hc
    simp only [opA] at h;unfold a0R at h;split at h <;> cases h
   ·simp only [M1S,M1P,M1T,M1Q] at hc
    obtain ⟨e,h1,size,h2,z,h3,hc⟩:=hc
    split at hc
    ·simp only [M1P,M1Q] at hc
     obtain ⟨by_,h4,s',h5,x',h6,rfl⟩:=hc
     simp only [opA] at h;unfold f0P at h;split at h <;> cases h
    ·split at hc
     ·simp only [M1P,M1Q] at hc
      obtain ⟨by_,h4,s',h5,x',h6,rfl⟩:=hc
      simp only [opA] at h;split at h <;> cases h
     ·cases hc
   ·cases hc
 all_goals
  obtain ⟨c,hcc⟩:=s0D hc (m0B h)
  rw [ho] at hcc;cases hcc
end
section
variable {H H' H1:a0c} {fl:Nat} {t:a0U} {so:SOp}
inductive Turn (fl:Nat) (ws:List Nat) (H:a0c):a0c->Prop
 | same:Turn fl ws H H
 | push (r:Blk):Turn fl ws H (H.push r)
 | set (b:Nat) (e:TypeId) (cs cs':List Value) (h:H.bk b=.row false e cs) (hb:b ∈ ws) (hf:fl<=b):Turn fl ws H (H.setIfInBounds b (.row false e cs'))
 | move (b:Nat) (e:TypeId) (cs:List Value) (r:Blk) (h:H.bk b=.row false e cs) (hb:b ∈ ws) (hf:fl<=b):Turn fl ws H ((H.setIfInBounds b .dead).push r)
theorem q0D {ws:List Nat} {e:TypeId} {size bytes len cap n:Nat} {base:Option Addr} {new:List Value} {rv:Value} {rH:a0c} (hap:q0C fl H e size bytes base len cap n new=some (rv,rH))
  (hws:∀ p,base=some p->¬ (len=0/\cap=0)->p.block ∈ ws):Turn fl ws H rH:=by
 unfold q0C at hap
 split at hap
 ·cases hap
 split at hap
 ·split at hap
  ·cases hap;exact .push _
  ·cases hap
 ·rename_i sp
  split at hap
  ·cases hap;exact .push _
  rename_i h00
  split at hap
  ·cases hap
  ·split at hap
   ·cases hap;exact .push _
   ·split at hap
    ·rename_i e' cs hk
     split at hap
     ·rename_i hc;cases hap
      exact .move _ _ _ _ hk (hws _ rfl h00) hc.2
     ·cases hap
    ·cases hap
theorem p0q {v:Value} (h:opA fl t H so=.val v H1):Turn fl (c0j t so).2 H H1:=by
 have opt:∀ {x:Option Value},a0R H x=.val v H1->Turn fl (c0j t so).2 H H1:=fun {x} hx=>by
  cases x with
  | none=>simp [a0R] at hx
  | some u=>simp [a0R] at hx;rw [<- hx.2];exact .same
 cases so <;> simp only [opA] at h
 case mv=>simp at h;rw [<- h.2];exact .same
 case pick=>split at h <;> simp at h <;> (rw [<- h.2];exact .same)
 case alloc=>simp at h;rw [<- h.2];exact .push _
 case box=>simp at h;rw [<- h.2];exact .push _
 case build=>exact opt h
 case lit=>split at h <;> simp at h;rw [<- h.2];exact .push _
 case load=>exact opt h
 case store n a x =>
  split at h
  ·rename_i p hp
   split at h
   ·cases h
   ·split at h
    ·rename_i H2 hw
     simp at h;rw [<- h.2]
     unfold a0c.write? at hw
     split at hw
     ·rename_i e cs hk
      split at hw
      ·rename_i hc;cases hw
       exact .set _ _ _ _ hk (by simp [c0j,hp,blkOf]) hc.1
      ·cases hw
     ·cases hw
    ·cases h
  ·cases h
 case chk=>split at h <;> simp at h <;> (rw [<- h.2];exact .same)
 case bin=>exact opt h
 case un=>exact opt h
 case conv=>split at h <;> simp at h;rw [<- h.2];exact .same
 case iface=>simp at h;rw [<- h.2];exact .same
 case mkfn=>simp at h;rw [<- h.2];exact .same
 case mk =>
  split at h
  ·split at h <;> simp at h;rw [<- h.2];exact .push _
  ·cases h
 case sl => split at h; · cases h
            ·exact opt h
 case fa => split at h
            ·split at h <;> simp at h;rw [<- h.2];exact .same
            ·cases h
 case fa0 =>
  split at h
  ·split at h
   ·split at h <;> simp at h;rw [<- h.2];exact .same
   ·cases h
  ·cases h
 case fld=>exact opt h
 case ia =>
  split at h
  ·split at h <;> simp at h;rw [<- h.2];exact .same
  ·cases h
 case ext =>
  split at h
  ·exact opt h
  ·cases h
 case call=>cases h
 case callv=>split at h <;> cases h
 case inv =>
  split at h
  ·split at h <;> cases h
  ·cases h
 case len=>split at h <;> simp at h;rw [<- h.2];exact .same
 case cap=>exact opt h
 case appz=>split at h <;> simp at h;rw [<- h.2];exact .push _
 case mnx=>exact opt h
 case mkmap=>simp at h;rw [<- h.2];exact .push _
 case look=>exact opt h
 case mupd m i x =>
  split at h
  ·rename_i H2 hw
   simp at h;rw [<- h.2]
   unfold k0E at hw
   split at hw
   ·rename_i b k n hp hn
    split at hw
    ·rename_i e cs hk
     split at hw
     ·rename_i hc
      simp only [N1z] at hw
      obtain ⟨cs',_,rfl⟩:=hw
      exact .set _ _ _ _ hk (by simp [c0j,hp,blkOf]) hc.1
     ·cases hw
    ·cases hw
   ·cases hw
  ·cases h
 case sop=>exact opt h
 case b2s=>exact opt h
 case app e size bytes s x =>
  cases hap:n0w fl H e size bytes (ev t s) (ev t x) with
  | none=>simp [hap,f0P] at h
  | some r =>
   obtain ⟨rv,rH⟩:=r
   simp only [hap,f0P,OpRes.val.injEq] at h
   obtain ⟨rfl,rfl⟩:=h
   unfold n0w at hap
   split at hap
   ·rename_i base len cap xb n xc e1 e2
    split at hap
    ·cases hap;exact .same
    ·split at hap
     ·split at hap
      ·cases hap
      ·split at hap
       ·cases hap
       ·exact q0D hap fun p hp h00=>by subst hp;simp only [c0j,e1,blkW];rw [M1V h00];simp
     ·cases hap
   ·rename_i base len cap b e1 e2
    split at hap
    ·cases hap;exact .same
    ·split at hap
     ·exact q0D hap fun p hp h00=>by subst hp;simp only [c0j,e1,blkW];rw [M1V h00];simp
     ·cases hap
   ·cases hap
 case pan=>split at h <;> cases h
structure h0E (fl:Nat) (H H1:a0c):Prop where
 size:H.size<=H1.size
 low:∀ b,b < fl->H1.bk b=H.bk b
 kind:∀ b e cs,b < H.size->H1.bk b=.row false e cs->∃ cs0,H.bk b=.row false e cs0
 kindR:∀ b e cs,b < H.size->H1.bk b=.row true e cs->H.bk b=.row true e cs
theorem h0E.refl:h0E fl H H:=⟨M1U _,fun _ _=>rfl,fun _ _ cs _ h=>⟨cs,h⟩,fun _ _ _ _ h=>h⟩
theorem h0E.trans {fl1:Nat} {H2:a0c} (h:h0E fl H H1) (k:h0E fl1 H1 H2) (hf:fl<=fl1):h0E fl H H2 :=
 ⟨N1n h.size k.size,fun b hb=>(k.low b (by omega)).trans (h.low b hb),fun b e cs hb hk=>by
  obtain ⟨c1,h1⟩:=k.kind b e cs (N1k hb h.size) hk
  exact h.kind b e c1 hb h1,fun b e cs hb hk=>h.kindR b e cs hb (k.kindR b e cs (N1k hb h.size) hk)⟩
theorem Turn.keep {ws:List Nat} (hfl:fl<=H.size) (h:Turn fl ws H H1):h0E fl H H1:=by
 cases h with
 | same=>exact h0E.refl
 | push r=>exact ⟨by simp,fun b hb=>by rw [a0z,M1V (by omega)],fun b e cs hb hk=>by rw [a0z,M1V (by omega)] at hk;exact ⟨cs,hk⟩,fun b e cs hb hk=>by rw [a0z,M1V (by omega)] at hk;exact hk⟩
 | set b e cs cs' h hb hf =>
  have hl:=a0r h
  exact ⟨by simp,fun c hc=>by rw [a0I _ _ _ _ hl,M1V (by omega)],fun c e1 cs1 hc hk=>by
   rw [a0I _ _ _ _ hl] at hk
   split at hk
   ·rename_i hcb;subst hcb;cases hk;exact ⟨cs,h⟩
   ·exact ⟨cs1,hk⟩,fun c e1 cs1 hc hk=>by
   rw [a0I _ _ _ _ hl] at hk
   split at hk
   ·cases hk
   ·exact hk⟩
 | move b e cs r h hb hf =>
  have hl:=a0r h
  exact ⟨by simp,fun c hc=>by rw [a0z,M1V (by simp;omega),a0I _ _ _ _ hl,M1V (by omega)],fun c e1 cs1 hc hk=>by
   rw [a0z,M1V (by simp;omega),a0I _ _ _ _ hl] at hk
   split at hk
   ·cases hk
   ·exact ⟨cs1,hk⟩,fun c e1 cs1 hc hk=>by
   rw [a0z,M1V (by simp;omega),a0I _ _ _ _ hl] at hk
   split at hk
   ·cases hk
   ·exact hk⟩
theorem Turn.changed {ws:List Nat} (h:Turn fl ws H H1) {b:Nat} (hb:b < H.size) (hne:H1.bk b ≠ H.bk b):b ∈ ws:=by
 cases h with
 | same=>exact N1i rfl hne
 | push r=>rw [a0z,M1V (by omega)] at hne;exact N1i rfl hne
 | set c e cs cs' h hc hf =>
  by_cases hcb:b=c
  ·subst hcb;exact hc
  ·rw [a0I _ _ _ _ (a0r h),M1V hcb] at hne;exact N1i rfl hne
 | move c e cs r h hc hf =>
  by_cases hcb:b=c
  ·subst hcb;exact hc
  ·rw [a0z,M1V (by simp;omega),a0I _ _ _ _ (a0r h),M1V hcb] at hne;exact N1i rfl hne
def i0t (call:Nat->FuncId->List Value->a0c->Res (Value × a0c)):Prop :=
 ∀ fl f args H v H1,call fl f args H=.ok (v,H1)->fl<=H.size->h0E fl H H1
section
variable {call:Nat->FuncId->List Value->a0c->Res (Value × a0c)} (hcall:i0t call)
include hcall
theorem k0M {v:Value} (hfl:fl<=H.size) (h:b0i call fl t H so=.ok (v,H1)):h0E fl H H1:=by
 unfold b0i at h
 split at h
 ·cases h
 ·cases h
 ·rename_i v' H2 hv
  simp at h;obtain ⟨rfl,rfl⟩:=h
  exact (p0q hv).keep hfl
 ·rename_i f args lone hc
  have hk:=hcall _ _ _ _ _ _ h (by split <;> omega)
  exact ⟨hk.size,fun b hb=>hk.low b (by split <;> omega),hk.kind,hk.kindR⟩
theorem m0W:∀ (ops:List a0v) (t:a0U) (H:a0c),fl<=H.size->∀ {e t1 H1},f0h call fl ops t H=.fin e t1 H1->h0E fl H H1/\e=.normal
 | [],t,H,_,e,t1,H1,h=>by simp [f0h] at h;obtain ⟨rfl,rfl,rfl⟩:=h;exact ⟨h0E.refl,rfl⟩
 | o :: r,t,H,hfl,e,t1,H1,h=>by
  simp only [f0h] at h
  split at h
  ·split at h
   ·cases h
   ·cases h
   ·rename_i v H2 hs
    have k:=k0M hcall hfl hs
    obtain ⟨k2,he⟩:=m0W r _ H2 (N1n hfl k.size) h
    exact ⟨k.trans k2 (M1U _),he⟩
  ·exact m0W r _ H hfl h
theorem f0J (bef:List Nat) (pairs:List (Nat × Nat)):∀ (ops:List a0v) (i:Nat) (t:a0U) (H:a0c) (p:Option (Nat × Value)) (log:List (List Nat × List Nat)),fl<=H.size ->
  ∀ {e t1 H1},b0T call fl bef pairs i ops t H p log=.fin e t1 H1->h0E fl H H1/\e=.normal
 | [],i,t,H,p,log,_,e,t1,H1,h=>by
  simp only [b0T] at h
  split at h
  ·split at h
   ·cases h;exact ⟨h0E.refl,rfl⟩
   ·cases h
  ·cases h
 | o :: r,i,t,H,p,log,hfl,e,t1,H1,h=>by
  simp only [b0T] at h
  split at h
  ·exact f0J bef pairs r _ _ H _ _ hfl h
  ·split at h
   ·split at h
    ·cases h
    ·split at h
     ·exact f0J bef pairs r _ _ H _ _ hfl h
     ·cases h
    ·rename_i v H2 hs
     have k:=k0M hcall hfl hs
     obtain ⟨k2,he⟩:=f0J bef pairs r _ _ H2 _ _ (N1n hfl k.size) h
     exact ⟨k.trans k2 (M1U _),he⟩
   ·exact f0J bef pairs r _ _ H _ _ hfl h
theorem b0Z:∀ (n:Nat) (c:SCode) (t:a0U) (H:a0c),fl<=H.size->∀ {e t1 H1},a0K call fl n c t H=.fin e t1 H1->h0E fl H H1
 | 0,_,_,_,_,_,_,_,h=>by simp [a0K] at h
 | n + 1,c,t,H,hfl,e,t1,H1,h=>by
  cases c <;> simp only [a0K] at h
  case skip=>cases h;exact h0E.refl
  case exit=>cases h;exact h0E.refl
  case ret=>cases h;exact h0E.refl
  case seq a b =>
   split at h
   ·rename_i t2 H2 ha
    have k:=b0Z n a t H hfl ha
    exact k.trans (b0Z n b t2 H2 (N1n hfl k.size) h) (M1U _)
   ·exact b0Z n a t H hfl h
  case cond c a b =>
   split at h
   ·exact b0Z n a t H hfl h
   ·exact b0Z n b t H hfl h
   ·cases h
  case block id c =>
   split at h
   ·rename_i id' t2 H2 hc
    have k:=b0Z n c t H hfl hc
    split at h <;> (cases h;exact k)
   ·exact b0Z n c t H hfl h
  case loop c =>
   split at h
   ·rename_i t2 H2 hc
    have k:=b0Z n c t H hfl hc
    exact k.trans (b0Z n (.loop c) t2 H2 (N1n hfl k.size) h) (M1U _)
   ·exact b0Z n c t H hfl h
  case reg ops=>exact (m0W hcall ops t H hfl h).1
  case draw ops bef pairs=>exact (f0J hcall bef pairs ops 0 t H none [] hfl h).1
end
theorem h0E.pushes {fl:Nat}:∀ (bs:List Blk) (H:a0c),fl<=H.size->h0E fl H (AI.pushes H bs)
 | [],H,_=>h0E.refl
 | b :: bs,H,hf=>((Turn.push (fl:=fl) (ws:=[]) b).keep hf).trans (h0E.pushes bs (H.push b) (by simp;omega)) (M1U _)
theorem i0v (E:Env):∀ n,i0t (a0M E n)
 | 0=>fun _ _ _ _ _ _ h=>by simp [a0M] at h
 | n + 1=>fun fl f args H v H1 h hfl=>by
  simp only [a0M] at h
  split at h
  ·split at h
   ·simp at h;obtain ⟨_,rfl⟩:=h;exact h0E.pushes _ _ hfl
   split at h
   ·split at h
    ·split at h
     ·rename_i q hq hfq p s
      split at h
      case isFalse=>cases h
      unfold d0I at h
      split at h
      ·cases h
      ·simp at h;obtain ⟨_,rfl⟩:=h;exact h0E.refl
      ·cases h
      ·rename_i vs H2 hc
       split at h
       ·split at h
        case isFalse=>cases h
        simp at h;obtain ⟨_,rfl⟩:=h
        have k:=i0v E n _ _ _ _ _ _ hc (by omega)
        exact ⟨k.size,fun b hb=>k.low b (by omega),k.kind,k.kindR⟩
       ·cases h
      ·cases h
     ·cases h
    ·cases h
   ·cases h
  ·split at h
   ·split at h
    ·cases h
    ·cases h
    ·rename_i e t1 H2 hx
     have k:=b0Z (i0v E n) n _ _ H hfl hx
     split at h
     ·cases h
     ·split at h
      ·simp at h;obtain ⟨_,rfl⟩:=h;exact k
      ·cases h
   ·cases h
end
section
variable {H H' H1 G G1:a0c} {fl:Nat} {t:a0U} {so:SOp}
structure Par (H H1 G G1:a0c):Prop where
 size:G1.size=H1.size
 same:∀ b,b < H.size->H1.bk b=H.bk b->G1.bk b=G.bk b
 diff:∀ b,b < H.size->H1.bk b ≠ H.bk b->G1.bk b=H1.bk b
 more:∀ b,H.size<=b->G1.bk b=H1.bk b
theorem i0W {H:a0c} {b:Nat} (h:H.size<=b):H.bk b=.dead:=by
 simp only [a0c.bk,M1Y]
 rw [O1i h];rfl
theorem Par.refl (hs:G.size=H.size):Par H H G G :=
 ⟨hs,fun _ _ _=>rfl,fun _ _ h=>N1i rfl h,fun b hb=>by rw [i0W hb,i0W (by omega)]⟩
theorem Par.push (hs:G.size=H.size) (r:Blk):Par H (H.push r) G (G.push r) :=
 ⟨by simp [hs],fun b hb _=>by rw [a0z,M1V (by omega)],fun b hb h=>by rw [a0z,M1V (by omega)] at h;exact N1i rfl h,fun b hb=>by
  rw [a0z,a0z,hs]
  split
  ·rfl
  ·rw [i0W (show G.size<=b by omega),i0W hb]⟩
theorem Par.set (hs:G.size=H.size) {c:Nat} (hc:c < H.size) (hk:G.bk c=H.bk c) (r:Blk):Par H (H.setIfInBounds c r) G (G.setIfInBounds c r) :=
 ⟨by simp [hs],fun b hb h=>by
  rw [a0I _ _ _ _ hc] at h;rw [a0I _ _ _ _ (by omega)]
  split at h
  ·rename_i hbc;subst hbc;rw [M1Z rfl,h,hk]
  ·rename_i hbc;rw [M1V hbc],fun b hb h=>by
  rw [a0I _ _ _ _ hc] at h ⊢;rw [a0I _ _ _ _ (by omega)]
  split at h
  ·rename_i hbc;rw [M1Z hbc,M1Z hbc]
  ·exact N1i rfl h,fun b hb=>by
  rw [a0I _ _ _ _ hc,a0I _ _ _ _ (by omega),M1V (by omega),M1V (by omega),i0W hb,i0W (by omega)]⟩
theorem Par.move (hs:G.size=H.size) {c:Nat} (hc:c < H.size) (hk:G.bk c=H.bk c) (r s:Blk):Par H ((H.setIfInBounds c r).push s) G ((G.setIfInBounds c r).push s):=by
 have p:=Par.set hs hc hk r
 have sz1:(H.setIfInBounds c r).size=H.size:=by simp
 have sz2:(G.setIfInBounds c r).size=G.size:=by simp
 refine ⟨by simp [hs],fun b hb h=>?_,fun b hb h=>?_,fun b hb=>?_⟩
 ·rw [a0z,M1V (by omega)] at h ⊢;exact p.same b hb h
 ·rw [a0z,M1V (by omega)] at h ⊢;rw [a0z,M1V (by omega)];exact p.diff b hb h
 ·rw [a0z,a0z,sz1,sz2,hs]
  split
  ·rfl
  ·exact p.more b hb
theorem f0Z {b off n:Nat} (h:G.bk b=H.bk b):G.cells? b off n=H.cells? b off n:=by unfold a0c.cells?;rw [h]
theorem n0V (hs:G.size=H.size) {e:TypeId} {size bytes len cap n:Nat} {base:Option Addr} {new:List Value} {rv:Value} {rH:a0c} (hap:q0C fl H e size bytes base len cap n new=some (rv,rH))
  (hfp:∀ p,base=some p->¬ (len=0/\cap=0)->G.bk p.block=H.bk p.block):∃ G1,q0C fl G e size bytes base len cap n new=some (rv,G1)/\Par H rH G G1:=by
 unfold q0C at hap ⊢
 split at hap
 ·cases hap
 rename_i hpl;rw [M1V hpl]
 split at hap
 ·split at hap
  ·rename_i hz;cases hap;rw [M1Z hz,hs];exact ⟨_,rfl,Par.push hs _⟩
  ·cases hap
 ·rename_i sp
  try simp only []
  split at hap
  ·rename_i h00;cases hap;rw [M1Z h00,hs];exact ⟨_,rfl,Par.push hs _⟩
  rename_i h00;rw [M1V h00]
  have hbs:G.bk sp.block=H.bk sp.block:=hfp _ rfl h00
  simp only [f0Z hbs]
  split at hap
  ·cases hap
  ·rename_i old hold
   try simp only []
   split at hap
   ·rename_i hc;cases hap;rw [M1Z hc,hs];exact ⟨_,rfl,Par.push hs _⟩
   ·rename_i hc;rw [M1V hc,hbs]
    split at hap
    ·rename_i e' cs hk
     try simp only []
     split at hap
     ·rename_i hc2;cases hap;rw [M1Z hc2,hs];exact ⟨_,rfl,Par.move hs (a0r hk) hbs _ _⟩
     ·cases hap
    ·cases hap
theorem z0G {v:Value} (h:opA fl t H so=.val v H1) (hs:G.size=H.size) (hfp:∀ b,b ∈ (c0j t so).1 ∨ b ∈ (c0j t so).2->G.bk b=H.bk b) :
  ∃ G1,opA fl t G so=.val v G1/\Par H H1 G G1:=by
 have opt:∀ {x y:Option Value},a0R H x=.val v H1->y=x->∃ G1,a0R G y=.val v G1/\Par H H1 G G1:=fun {x y} hx hxy=>by
  subst hxy
  cases y with
  | none=>simp [a0R] at hx
  | some u=>simp [a0R] at hx;obtain ⟨rfl,rfl⟩:=hx;exact ⟨G,rfl,Par.refl hs⟩
 cases so <;> simp only [opA] at h ⊢
 case mv=>simp at h;obtain ⟨rfl,rfl⟩:=h;exact ⟨G,rfl,Par.refl hs⟩
 case pick=>split at h <;> simp at h <;> (obtain ⟨rfl,rfl⟩:=h;exact ⟨G,rfl,Par.refl hs⟩)
 case alloc=>simp at h;obtain ⟨rfl,rfl⟩:=h;rw [hs];exact ⟨_,rfl,Par.push hs _⟩
 case box=>simp at h;obtain ⟨rfl,rfl⟩:=h;rw [hs];exact ⟨_,rfl,Par.push hs _⟩
 case build=>exact opt h rfl
 case lit=>split at h <;> simp at h;obtain ⟨rfl,rfl⟩:=h;rw [hs];exact ⟨_,rfl,Par.push hs _⟩
 case load agg n a =>
  refine opt h ?_
  unfold b0w
  split
  ·rename_i p hp
   have hb:G.bk p.block=H.bk p.block:=hfp _ (.inl (by simp [c0j,hp,blkOf]))
   rw [f0Z hb]
  ·rfl
 case store n a x =>
  split at h
  ·rename_i p hp
   have hb:G.bk p.block=H.bk p.block:=hfp _ (.inr (by simp [c0j,hp,blkOf]))
   split at h
   ·cases h
   ·rename_i hc
    rw [M1V hc]
    split at h
    ·rename_i H2 hw
     simp at h;obtain ⟨rfl,rfl⟩:=h
     unfold a0c.write? at hw ⊢
     rw [hb]
     split at hw
     ·rename_i e cs hk
      split at hw
      ·rename_i hc2;cases hw
       rw [M1Z hc2]
       exact ⟨_,rfl,Par.set hs (a0r hk) hb _⟩
      ·cases hw
     ·cases hw
    ·cases h
  ·cases h
 case chk=>split at h <;> simp at h <;> (obtain ⟨rfl,rfl⟩:=h;exact ⟨G,rfl,Par.refl hs⟩)
 case bin=>exact opt h rfl
 case un=>exact opt h rfl
 case conv=>split at h <;> simp at h;obtain ⟨rfl,rfl⟩:=h;exact ⟨G,rfl,Par.refl hs⟩
 case iface=>simp at h;obtain ⟨rfl,rfl⟩:=h;exact ⟨G,rfl,Par.refl hs⟩
 case mkfn=>simp at h;obtain ⟨rfl,rfl⟩:=h;exact ⟨G,rfl,Par.refl hs⟩
 case mk =>
  split at h
  ·split at h
   ·rename_i hc;simp at h;obtain ⟨rfl,rfl⟩:=h;rw [M1Z hc,hs];exact ⟨_,rfl,Par.push hs _⟩
   ·cases h
  ·cases h
 case sl e size x lo hi mx =>
  have he:elemOk G e (ev t x)=elemOk H e (ev t x):=by
   unfold elemOk
   split
   ·rename_i p _ _ hp
    have hb:G.bk p.block=H.bk p.block:=hfp _ (.inl (by simp [c0j,hp,blkOf]))
    rw [hb]
   ·rfl
  rw [he]
  split at h
  ·cases h
  ·rename_i hc;rw [M1V hc];exact opt h rfl
 case fa =>
  split at h
  ·split at h
   ·cases h
   ·rename_i hc;simp at h;obtain ⟨rfl,rfl⟩:=h;rw [M1V hc];exact ⟨G,rfl,Par.refl hs⟩
  ·cases h
 case fa0 e x =>
  split at h
  ·rename_i p hp
   have hb:G.bk p.block=H.bk p.block:=hfp _ (.inl (by simp [c0j,hp,blkOf]))
   rw [hb]
   split at h
   ·split at h
    ·rename_i hc;simp at h;obtain ⟨rfl,rfl⟩:=h;rw [M1Z hc];exact ⟨G,rfl,Par.refl hs⟩
    ·cases h
   ·cases h
  ·cases h
 case fld=>exact opt h rfl
 case ia =>
  split at h
  ·split at h
   ·rename_i hc;simp at h;obtain ⟨rfl,rfl⟩:=h;rw [M1Z hc];exact ⟨G,rfl,Par.refl hs⟩
   ·cases h
  ·cases h
 case ext =>
  split at h
  ·exact opt h rfl
  ·cases h
 case call=>cases h
 case callv=>split at h <;> cases h
 case inv =>
  split at h
  ·split at h <;> cases h
  ·cases h
 case len=>split at h <;> simp at h;obtain ⟨rfl,rfl⟩:=h;exact ⟨G,rfl,Par.refl hs⟩
 case cap=>exact opt h rfl
 case appz=>split at h <;> simp at h;obtain ⟨rfl,rfl⟩:=h;rw [hs];exact ⟨_,rfl,Par.push hs _⟩
 case mnx=>exact opt h rfl
 case mkmap=>simp at h;obtain ⟨rfl,rfl⟩:=h;rw [hs];exact ⟨_,rfl,Par.push hs _⟩
 case look z x i =>
  refine opt h ?_
  unfold p0g
  split
  ·rename_i b k n hp hn
   have hb:G.bk b=H.bk b:=hfp _ (.inl (by simp [c0j,hp,blkOf]))
   rw [hb]
  ·rfl
 case mupd m i x =>
  split at h
  ·rename_i H2 hw
   simp at h;obtain ⟨rfl,rfl⟩:=h
   unfold k0E at hw ⊢
   split at hw
   ·rename_i b k n hp hn
    have hb:G.bk b=H.bk b:=hfp _ (.inr (by simp [c0j,hp,blkOf]))
    rw [hb]
    split at hw
    ·rename_i e cs hk
     split at hw
     ·rename_i hc
      simp only [N1z] at hw
      obtain ⟨cs',h1,rfl⟩:=hw
      try simp only []
      rw [M1Z hc,h1]
      exact ⟨_,rfl,Par.set hs (a0r hk) hb _⟩
     ·cases hw
    ·cases hw
   ·cases hw
  ·cases h
 case sop=>exact opt h rfl
 case b2s x =>
  refine opt h ?_
  unfold v1a
  split
  ·rfl
  ·rename_i p n c hp
   have hb:G.bk p.block=H.bk p.block:=hfp _ (.inl (by simp [c0j,hp,blkOf]))
   rw [f0Z hb]
  ·rfl
 case app e size bytes s x =>
  cases hap:n0w fl H e size bytes (ev t s) (ev t x) with
  | none=>simp [hap,f0P] at h
  | some r =>
   obtain ⟨rv,rH⟩:=r
   simp only [hap,f0P,OpRes.val.injEq] at h
   obtain ⟨rfl,rfl⟩:=h
   unfold n0w at hap ⊢
   split at hap
   ·rename_i base len cap xb n xc e1 e2
    split at hap
    ·rename_i hn;cases hap;rw [M1Z hn];exact ⟨G,rfl,Par.refl hs⟩
    ·rename_i hn;rw [M1V hn]
     split at hap
     ·rename_i hbd;rw [M1Z hbd]
      split at hap
      ·cases hap
      ·rename_i xp
       have hbx:G.bk xp.block=H.bk xp.block:=hfp _ (.inl (by simp [c0j,e2,blkOf]))
       simp only [f0Z hbx]
       split at hap
       ·cases hap
       ·rename_i new hnew
        try simp only []
        obtain ⟨G1,h1,h2⟩:=n0V hs hap fun p hp h00=>hfp _ (.inr (by subst hp;simp only [c0j,e1,blkW];rw [M1V h00];simp))
        exact ⟨G1,by rw [h1];rfl,h2⟩
     ·cases hap
   ·rename_i base len cap b e1 e2
    split at hap
    ·rename_i hn;cases hap;rw [M1Z hn];exact ⟨G,rfl,Par.refl hs⟩
    ·rename_i hn;rw [M1V hn]
     split at hap
     ·rename_i hbd;rw [M1Z hbd]
      obtain ⟨G1,h1,h2⟩:=n0V hs hap fun p hp h00=>hfp _ (.inr (by subst hp;simp only [c0j,e1,blkW];rw [M1V h00];simp))
      exact ⟨G1,by rw [h1];rfl,h2⟩
     ·cases hap
   ·cases hap
 case pan=>split at h <;> cases h
theorem j0b {f:FuncId} {args:List Value} {l:Bool} (h:opA fl t H so=.call f args l):∀ fl G,opA fl t G so=.call f args l:=by
 intro fl' G
 cases so <;> simp only [opA] at h ⊢
 case call=>simpa using h
 case callv=>split at h <;> simp_all
 case inv =>
  split at h
  ·split at h <;> simp_all
  ·cases h
 case ext=>split at h;(unfold a0R at h;split at h <;> cases h);cases h
 case app=>unfold f0P at h;split at h <;> cases h
 case store=>split at h;(split at h;cases h;(split at h <;> cases h));cases h
 case fa0=>split at h;(split at h;(split at h <;> cases h);cases h);cases h
 case sl=>split at h;cases h;(unfold a0R at h;split at h <;> cases h)
 all_goals first
  | (simp at h;done)
  | (unfold a0R at h;split at h <;> cases h)
  | (split at h <;> first | (cases h;done) | (split at h <;> cases h))
theorem g0j {v:Value} (h:opA fl t H so=.pan v):(∃ ty u,v=.iface ty u)/\∃ x,so=.pan x/\ev t x=v:=by
 cases so <;> simp only [opA] at h
 case pan x=>split at h <;> cases h;rename_i ty u hx;exact ⟨⟨_,_,rfl⟩,x,rfl,hx⟩
 case call=>cases h
 case callv=>split at h <;> cases h
 case inv =>
  split at h
  ·split at h <;> cases h
  ·cases h
 case ext=>split at h;(unfold a0R at h;split at h <;> cases h);cases h
 case app=>unfold f0P at h;split at h <;> cases h
 case store=>split at h;(split at h;cases h;(split at h <;> cases h));cases h
 case fa0=>split at h;(split at h;(split at h <;> cases h);cases h);cases h
 case sl=>split at h;cases h;(unfold a0R at h;split at h <;> cases h)
 all_goals first
  | (simp at h;done)
  | (unfold a0R at h;split at h <;> cases h)
  | (split at h <;> first | (cases h;done) | (split at h <;> cases h))
end
section
variable {X:Cx} {φ φ':Inj} {S:Shp} {H H':a0c} {w w':World} {fl:Nat} {t:a0U} {a:Act} {o:Oper} {so:SOp} {lone:Bool}
structure Pan (X:Cx) (fl:Nat) (φ:Inj) (H:a0c) (w:World) (w':World):Prop where
 shp:∀ B x,(shq w) B=some x->(shq w') B=some x
 wsz:w.heap.size<=w'.heap.size
 os:w'.os=w.os
 tape:w'.tape=w.tape
 out:w'.output=w.output
 frame:∀ B,B < w.heap.size->(∀ b o e cs,φ b=some (B,o)->fl<=b->H.bk b ≠ .row false e cs)->w'.heap[B]? = w.heap[B]?
theorem Pan.after {fl1:Nat} {φ1:Inj} {H1:a0c} {w1 w2:World} (h:b0R X fl φ H w φ1 H1 w1) (k:Pan X fl1 φ1 H1 w1 w2) (hf:fl<=fl1) (hr:Rel X φ H w):Pan X fl φ H w w2 :=
 { shp := fun B x hb => k.shp _ _ (h.shp _ _ hb)
   wsz:=N1n h.wsz k.wsz
   os:=k.os.trans h.os
   tape:=k.tape.trans h.tape
   out:=k.out.trans h.out
   frame:=fun B hB hno=>by
    rw [k.frame B (N1k hB h.wsz) ?_,h.frame B hB hno]
    intro b o e cs hb hfl hrow
    cases h1:φ b with
    | none =>
     rcases h.newB b B o hb h1 with h2 | ⟨b0,o0,e0,cs0,h2,h3,h4⟩
     ·omega
     ·exact hno b0 o0 e0 cs0 h2 h3 h4
    | some y =>
     have:=h.ext b y h1
     rw [hb] at this;cases this
     obtain ⟨cs0,h6⟩:=h.kind b e cs (hr.lt b _ h1) hrow
     exact hno b o e cs0 h1 (by omega) h6 }
theorem b0R.lower {fl1:Nat} (h:b0R X fl1 φ H w φ' H' w') (hf:fl<=fl1):b0R X fl φ H w φ' H' w' :=
 { h with
   keep:=fun b hb=>h.keep b (by omega)
   newB:=fun b B o hb hn=>by
    rcases h.newB b B o hb hn with h1 | ⟨b0,o0,e,cs,h1,h2,h3⟩
    ·exact .inl h1
    ·exact .inr ⟨b0,o0,e,cs,h1,by omega,h3⟩
   frame:=fun B hB hno=>h.frame B hB (fun b o e cs hb hfl=>hno b o e cs hb (by omega)) }
theorem Pan.lower {fl1:Nat} (h:Pan X fl1 φ H w w') (hf:fl<=fl1):Pan X fl φ H w w' :=
 { h with frame:=fun B hB hno=>h.frame B hB (fun b o e cs hb hfl=>hno b o e cs hb (by omega)) }
theorem Pan.same:Pan X fl φ H w w:=⟨fun _ _ h=>h,M1U _,rfl,rfl,rfl,fun _ _ _=>rfl⟩
def H1O:XA->Exit
 | .normal=>.normal
 | .exit id=>.exit id
 | .ret=>.ret
def y0a (X:Cx) (D:List Deferred) (fl:Nat) (φ:Inj) (H:a0c) (w:World):Out->Exit->Act->World->Prop
 | .bad,_,_,_=>False
 | .pan _,e,a',w'=>(∃ ty u,e=.panic [{ v:=.iface ty u,recovered:=false }])/\a'.defers=D/\Pan X fl φ H w w'
 | .fin x t' H',e,a',w'=>e=H1O x/\a'.defers=D/\∃ φ',CR X φ' (shq w') t' a'.tmps.toList/\b0R X fl φ H w φ' H' w'
theorem y0a.after {D:List Deferred} {φ1:Inj} {H1:a0c} {w1 w2:World} {out:Out} {e:Exit} {a':Act} (h:b0R X fl φ H w φ1 H1 w1) (hr:Rel X φ H w) (k:y0a X D fl φ1 H1 w1 out e a' w2):y0a X D fl φ H w out e a' w2:=by
 cases out with
 | bad=>exact k
 | pan v=>exact ⟨k.1,k.2.1,Pan.after h k.2.2 (M1U _) hr⟩
 | fin x t' H' =>
  obtain ⟨h1,h2,φ',h3,h4⟩:=k
  exact ⟨h1,h2,φ',h3,h.trans h4 (M1U _) hr⟩
def b0x (X:Cx) (call:Nat->FuncId->List Value->a0c->Res (Value × a0c)):Prop :=
 ∀ (fl:Nat) (f:FuncId) (args:List Value) (H:a0c) (φ:Inj) (w:World) (args':Array Value),Rel X φ H w->CR X φ (shq w) args args'.toList->fl<=H.size ->
  (∀ v H',call fl f args H=.ok (v,H')->s0q X.P f=true/\Calls X.P f args' w fun e w'=>∃ v' φ',e=.returned v'/\VR X φ' (shq w') v v'/\b0R X fl φ H w φ' H' w') /\
  (∀ v,call fl f args H=.pan v->(∃ ty u,v=.iface ty u)/\s0q X.P f=true /\
   Calls X.P f args' w fun e w'=>(∃ ty u,e=.panicked [{ v:=.iface ty u,recovered:=false }])/\Pan X fl φ H w w')
section
variable {call:Nat->FuncId->List Value->a0c->Res (Value × a0c)}
theorem w0H {P:Program} {op:Op} {x:Opd} (hc:cOp P lone op=some (.pan x)):∃ x0,op=.panic x0/\b0s x0=some x:=by
 cases op
 case panic x0 =>
  simp only [cOp,M1S,M1P,M1T,M1Q,SOp.pan.injEq] at hc
  obtain ⟨x',h1,rfl⟩:=hc
  exact ⟨x0,rfl,h1⟩
 case makeMap ty r=>cases r <;> simp [cOp] at hc
 case mapUpdate =>
  exfalso
  simp only [cOp] at hc
  split at hc
  ·split at hc
   ·simp [M1P] at hc
   ·cases hc
  ·cases hc
 case lookup ty x i ok =>
  exfalso
  cases ok with
  | true=>simp [cOp] at hc
  | false =>
   simp only [cOp] at hc
   split at hc
   ·split at hc
    ·split at hc
     ·split at hc
      ·simp [M1P] at hc
      ·cases hc
     ·cases hc
    ·cases hc
   ·cases hc
 case call c =>
  exfalso
  obtain ⟨callee,args,ats⟩:=c
  cases callee with
  | value f=>cases f <;> simp only [cOp] at hc <;> (try split at hc) <;> simp [M1P] at hc
  | invoke r n=>simp [cOp,M1P] at hc
  | builtin b =>
   simp only [cOp] at hc
   split at hc
   ·split at hc
    ·simp [M1P] at hc
    ·simp [M1P] at hc
   ·simp [M1P] at hc
   ·simp [M1P] at hc
   ·simp [M1P] at hc
   ·simp only [M1S,M1P] at hc
    obtain ⟨_,_,_,_,_,_,hc⟩:=hc
    split at hc
    ·simp [M1P] at hc
    ·split at hc
     ·simp [M1P] at hc
     ·cases hc
   ·cases hc
 all_goals
  exfalso
  simp only [cOp,N1z,M1S,M1P,M1T,M1Q,reduceCtorEq,and_false,exists_const,exists_false] at hc
  try (repeat' (first | (simp only [M1P,M1Q,reduceCtorEq,and_false,exists_const,exists_false] at hc;done) | (obtain ⟨_,_,hc⟩:=hc) | (split at hc)))
theorem u0O {P:Program} {K K':Act->World->Prop} {Q Q':Exit->Act->World->Prop} (hk:∀ a w,K a w->K' a w) (hq:∀ e a w,Q e a w->Q' e a w) (h:o.wp P a w K Q):o.wp P a w K' Q':=by
 unfold Oper.wp at *
 generalize (execOp a.eval o).run P w=r at *
 cases r with
 | ok n w' =>
  cases n <;> simp only [Oper.upon] at h ⊢ <;>
   first
    | exact hk _ _ h
    | exact Calls.mono h (fun e w'' he=>by cases e <;> first | exact hk _ _ he | exact hq _ _ _ he | (obtain ⟨a1,w1,h1⟩:=he;exact ⟨a1,w1,hq _ _ _ h1⟩))
    | exact Rows.mono h (fun _ _ he=>hk _ _ he)
 | halt x w'=>cases x <;> simp only [Oper.upon] at h ⊢ <;> exact hq _ _ _ h
theorem LetsOut.mo {Q Q':Exit->Act->World->Prop} (hq:∀ e a w,Q e a w->Q' e a w) (h:LetsOut Q):LetsOut Q':=by
 obtain ⟨a1,w1,h1⟩:=h;exact ⟨a1,w1,hq _ _ _ h1⟩
theorem c0F {P:Program} {ops:Array Oper} {Q Q':Exit->Act->World->Prop} (hq:∀ e a w,Q e a w->Q' e a w):∀ {l:List Nat} {a:Act} {w:World},wpOps P ops Q l a w->wpOps P ops Q' l a w
 | [],_,_,h=>hq _ _ _ h
 | i :: r,a,w,h=>by
  unfold wpOps at h ⊢
  split at h
  ·exact c0F hq h
  ·split at h
   ·rename_i hw
    rw [M1Z hw]
    rcases h with h | ⟨h1,h2⟩
    ·exact .inl (u0O (fun _ _ h=>c0F hq h) hq h)
    ·exact .inr ⟨h1,LetsOut.mo hq h2⟩
   ·rename_i hw
    rw [M1V hw]
    exact c0F hq h
theorem l0Q (hcall:b0x X call) (hc:cOp X.P lone o.op=some so) (hf:(a0g so).all a0s=true) (hR:Rel X φ H w) (hT:CR X φ (shq w) t a.tmps.toList) (hfl:fl<=H.size)
  {v:Value} (h:b0i call fl t H so=.ok (v,H')) {K:Act->World->Prop} {Q:Exit->Act->World->Prop} (a2:Act) (he:execOp a2.eval o=execOp a.eval o)
  (hK:∀ φ' v' w',VR X φ' (shq w') v v'->b0R X fl φ H w φ' H' w'->K (a2.put o.dst v') w'):o.wp X.P a2 w K Q:=by
 unfold b0i at h
 unfold Oper.wp
 rw [he]
 split at h
 ·cases h
 ·cases h
 ·rename_i v1 H1 hv
  simp only [Res.ok.injEq,N1V] at h;obtain ⟨rfl,rfl⟩:=h
  obtain ⟨φ',w',v',hr,hvr,hst⟩:=w1o hc hf hR hT hfl hv
  rcases hr with hr | ⟨rfl,hr⟩
  ·rw [hr];exact hK φ' v' w' hvr hst
  ·rw [hr];exact hK φ' _ w' hvr hst
 ·rename_i f args l hv
  obtain ⟨args',hca,hrun⟩:=z0H hc hf hT hv
  obtain ⟨hruns,hcalls⟩:=(hcall _ f args H φ w args' hR hca (show (if l=true then fl else max fl H.size)<=H.size by split <;> omega)).1 v H' h
  rw [hrun,c0W hruns]
  refine Calls.mono hcalls ?_
  rintro e w' ⟨v',φ',rfl,hvr,hst⟩
  exact hK φ' v' w' hvr (hst.lower (by split <;> omega))
theorem s0g (hcall:b0x X call) (hc:cOp X.P lone o.op=some so) (hf:(a0g so).all a0s=true) (hR:Rel X φ H w) (hT:CR X φ (shq w) t a.tmps.toList) (hfl:fl<=H.size)
  {v:Value} (h:b0i call fl t H so=.pan v) {K:Act->World->Prop} {Q:Exit->Act->World->Prop} (a2:Act) (he:execOp a2.eval o=execOp a.eval o)
  (hQ:∀ ty u w',Pan X fl φ H w w'->Q (.panic [{ v:=.iface ty u,recovered:=false }]) a2 w'):o.wp X.P a2 w K Q:=by
 unfold b0i at h
 unfold Oper.wp
 rw [he]
 split at h
 ·cases h
 ·rename_i v1 hv
  obtain ⟨⟨ty,u,rfl⟩,x,rfl,hx⟩:=g0j hv
  obtain ⟨x0,ho,h1⟩:=w0H hc
  have hv:=a0V hT h1 (by simpa [a0g] using hf)
  rw [hx] at hv
  generalize hg:a.eval x0=g at hv
  cases hv with
  | iface _ _ u' hu =>
   have:(execOp a.eval o).run X.P w=.halt (.panic (.iface ty u')) w:=by simp [execOp,ho,hg,Instr.panic,goPanic]
   rw [this]
   exact hQ ty u' w Pan.same
 ·cases h
 ·rename_i f args l hv
  obtain ⟨args',hca,hrun⟩:=z0H hc hf hT hv
  obtain ⟨_,hruns,hcalls⟩:=(hcall _ f args H φ w args' hR hca (show (if l=true then fl else max fl H.size)<=H.size by split <;> omega)).2 v h
  rw [hrun,c0W hruns]
  refine Calls.mono hcalls ?_
  rintro e w' ⟨⟨ty,u,rfl⟩,hp⟩
  exact hQ ty u w' (hp.lower (by split <;> omega))
theorem n0p {ops:Array Oper} {sop:a0v} (hc:g0V X.P ops lone o=some sop) (hT:∀ d want,sop.g=some (d,want)->VR X φ S (get t d) (a.tmps.getD d undef)):Region.wanted o (yielded ops a.tmps)=a0Q t sop.g:=by
 unfold g0V at hc
 simp only [M1S,M1P] at hc
 obtain ⟨op,_,hc⟩:=hc
 split at hc
 ·split at hc
  ·rename_i hg
   simp only [M1T,M1Q] at hc;subst hc
   simp [Region.wanted,hg,a0Q]
  ·rename_i j want hg
   simp only [M1S,M1P,M1T,M1Q] at hc
   obtain ⟨oj,h1,d,h2,rfl⟩:=hc
   have hv:=hT d want rfl
   simp only [Region.wanted,hg,a0Q,yielded,h1,Option.bind_some,h2,get]
   simp only [get] at hv
   have e1:a.tmps.getD d undef=(a.tmps[d]?).getD undef:=by simp
   rw [e1] at hv
   cases hd:a.tmps[d]? with
   | none =>
    rw [hd] at hv
    simp only [Option.getD_none] at hv
    generalize t.getD d undef=q at hv ⊢
    cases hv;rfl
   | some u =>
    rw [hd] at hv
    simp only [N1D] at hv
    generalize t.getD d undef=q at hv ⊢
    cases hv <;> first | rfl | simp
 ·cases hc
theorem o0J {ops:Array Oper} {sop:a0v} (hc:g0V X.P ops lone o=some sop) (hT:CR X φ (shq w) t a.tmps.toList):Region.wanted o (yielded ops a.tmps)=a0Q t sop.g :=
 n0p hc (fun d _ _=>by rw [a0E];exact hT.get d)
theorem c0T {ops:Array Oper} {sop:a0v} (hc:g0V X.P ops lone o=some sop):cOp X.P lone o.op=some sop.op/\(a0g sop.op).all a0s=true/\sop.dst=o.dst:=by
 unfold g0V at hc
 simp only [M1S,M1P] at hc
 obtain ⟨op,h1,hc⟩:=hc
 split at hc
 ·rename_i hf
  split at hc
  ·simp only [M1T,M1Q] at hc;subst hc;exact ⟨h1,hf,rfl⟩
  ·simp only [M1S,M1P,M1T,M1Q] at hc
   obtain ⟨oj,_,d,_,rfl⟩:=hc
   exact ⟨h1,hf,rfl⟩
 ·cases hc
theorem q0i (hcall:b0x X call) {D:List Deferred} {ops:Array Oper}:∀ (r:List a0v) (k:Nat) (t:a0U) (H:a0c) (φ:Inj) (w:World) (a:Act),
  (∀ i s,r[i]? = some s->∃ o,ops[k + i]? = some o/\g0V X.P ops true o=some s)->Rel X φ H w->CR X φ (shq w) t a.tmps.toList->fl<=H.size->a.defers=D->f0h call fl r t H ≠ .bad ->
  wpOps X.P ops (y0a X D fl φ H w (f0h call fl r t H)) (List.range' k r.length) a w
 | [],k,t,H,φ,w,a,_,hR,hT,_,hd,_=>⟨rfl,hd,φ,hT,b0R.refl hR⟩
 | s :: r,k,t,H,φ,w,a,hops,hR,hT,hfl,hd,hne=>by
  obtain ⟨o,ho,hco⟩:=hops 0 s rfl
  simp only [N1O] at ho
  obtain ⟨hc,hf,hdst⟩:=c0T hco
  have hw:=o0J hco hT
  have hops':∀ i s',r[i]? = some s'->∃ o,ops[k + 1 + i]? = some o/\g0V X.P ops true o=some s':=fun i s' hi=>by
   obtain ⟨o',h1,h2⟩:=hops (i + 1) s' (by simpa using hi)
   exact ⟨o',by rw [<- h1];congr 1;omega,h2⟩
  rw [N1I,O1Z]
  unfold wpOps
  simp only [ho]
  simp only [f0h] at hne ⊢
  by_cases hwt:a0Q t s.g=true
  ·rw [hw,M1Z hwt]
   simp only [hwt,N1E] at hne ⊢
   refine .inl ?_
   cases hs:b0i call fl t H s.op with
   | bad=>simp [hs] at hne
   | pan v =>
    simp only [hs] at hne ⊢
    exact s0g hcall hc hf hR hT hfl hs a rfl (fun ty u w' hp=>⟨⟨ty,u,rfl⟩,hd,hp⟩)
   | ok vH =>
    obtain ⟨v,H1⟩:=vH
    simp only [hs] at hne ⊢
    refine l0Q hcall hc hf hR hT hfl hs a rfl (fun φ' v' w' hvr hst=>?_)
    have hT':CR X φ' (shq w') t a.tmps.toList:=hT.mo hst.ext hst.shp
    have ih:=q0i hcall (D:=D) r (k + 1) (put t s.dst v) H1 φ' w' (a.put o.dst v') hops' hst.rel (by rw [hdst];exact j0B hT' hvr o.dst) (N1n hfl hst.hsz) (by rw [c0l];exact hd) hne
    exact c0F (fun e a2 w2 h2=>y0a.after hst hR h2) ih
  ·rw [hw,M1V hwt]
   simp only [Bool.not_eq_true] at hwt
   simp only [hwt,N1g,N1G] at hne ⊢
   exact q0i hcall (D:=D) r (k + 1) (put t s.dst undef) H φ w (a.put o.dst undef) hops' hR (by rw [hdst];exact j0B hT VR.undef o.dst) hfl (by rw [c0l];exact hd) hne
end
end
section
variable {X:Cx} {φ φ':Inj} {S:Shp} {H H':a0c} {w w':World} {fl:Nat} {t:a0U} {a:Act}
section
variable {call:Nat->FuncId->List Value->a0c->Res (Value × a0c)}
def q0y (X:Cx) (call:Nat->FuncId->List Value->a0c->Res (Value × a0c)):Prop :=
 ∀ (ops:Array Oper) (l:List a0v) (bef:List Nat) (pairs:List (Nat × Nat)),y0j X.P ops=some (.draw l bef pairs) ->
  ∀ (D:List Deferred) (fl:Nat) (t:a0U) (H:a0c) (φ:Inj) (w:World) (a:Act),Rel X φ H w->CR X φ (shq w) t a.tmps.toList->fl<=H.size->a.defers=D ->
   b0T call fl bef pairs 0 l t H none [] ≠ .bad->∀ id,(Code.region id ops true).wp X.P (y0a X D fl φ H w (b0T call fl bef pairs 0 l t H none [])) a w
def k0U (P:Program) (c:Code) (Q:Exit->Act->World->Prop) (a:Act) (w:World):Prop :=
 ∀ (b:Frame) (k:List Item) (cs:List Frame),∃ e a' w',Q e a' w'/\Arrives P (lone (b.at a (.code c :: .inLoop c :: k)) cs w) b k cs e a' w'
theorem k0U.wp {P:Program} {c:Code} {Q:Exit->Act->World->Prop} (h:k0U P c Q a w):(Code.loop c).wp P Q a w :=
 fun b k cs=>let ⟨e,a',w',q,r⟩:=h b k cs;⟨e,a',w',q,.of_steps (.one step_loop) r⟩
theorem k0U.round {P:Program} {c:Code} {Q:Exit->Act->World->Prop} (h:c.wp P (Exit.then (k0U P c Q) Q) a w):k0U P c Q a w:=by
 intro b k cs
 obtain ⟨e,a₁,w₁,hq,harr⟩:=h b (.inLoop c :: k) cs
 cases e with
 | normal =>
  obtain ⟨e₂,a₂,w₂,hq₂,harr₂⟩:=hq b k cs
  exact ⟨e₂,a₂,w₂,hq₂,.of_steps (Steps.trans harr (.one step_inLoop)) harr₂⟩
 | exit id=>exact ⟨_,a₁,w₁,hq,.pass (x:=.inLoop c) rfl (fun _ _=>.inl (by simp)) harr⟩
 | goto l=>exact ⟨_,a₁,w₁,hq,.pass (x:=.inLoop c) rfl (fun _ _=>.inl (by simp)) harr⟩
 | ret=>exact ⟨_,a₁,w₁,hq,.pass (x:=.inLoop c) rfl (fun _ _=>.inl (by simp)) harr⟩
 | panic ch=>exact ⟨_,a₁,w₁,hq,.pass (x:=.inLoop c) rfl (fun _ _=>.inl (by simp)) harr⟩
 | outgrown=>exact ⟨_,a₁,w₁,hq,.pass (x:=.inLoop c) rfl (fun _ _=>.inl (by simp)) harr⟩
def wpx (P:Program) (c:Code) (Q:Exit->Act->World->Prop) (a:Act) (w:World):Prop :=
 match c with
 | .loop d=>k0U P d Q a w
 | c=>c.wp P Q a w
theorem wpx.wp {P:Program} {c:Code} {Q:Exit->Act->World->Prop} (h:wpx P c Q a w):c.wp P Q a w:=by
 cases c <;> first | exact k0U.wp h | exact h
theorem l0M {α β:Type} {f:α->Option β}:∀ {l:List α} {r:List β},l.mapM f=some r->∀ (i:Nat) (y:β),r[i]? = some y->∃ x,l[i]? = some x/\f x=some y
 | [],r,h,i,y,hi=>by simp at h;subst h;simp at hi
 | x :: l,r,h,i,y,hi=>by
  rw [O1M] at h
  simp only [M1S,M1P,M1T,M1Q] at h
  obtain ⟨b,h1,bs,h2,rfl⟩:=h
  cases i with
  | zero=>simp at hi;subst hi;exact ⟨x,rfl,h1⟩
  | succ i=>obtain ⟨x',h3,h4⟩:=l0M h2 i y (by simpa using hi);exact ⟨x',by simpa using h3,h4⟩
theorem j0T {α β:Type} {f:α->Option β}:∀ {l:List α} {r:List β},l.mapM f=some r->r.length=l.length
 | [],r,h=>by simp at h;subst h;rfl
 | x :: l,r,h=>by
  rw [O1M] at h
  simp only [M1S,M1P,M1T,M1Q] at h
  obtain ⟨b,h1,bs,h2,rfl⟩:=h
  simp [j0T h2]
theorem d0h (hcall:b0x X call) (hdraw:q0y X call) {D:List Deferred}:∀ (n:Nat) (c:Code) (c':SCode) (fl:Nat) (t:a0U) (H:a0c) (φ:Inj) (w:World) (a:Act),d0f X.P c=some c'->Rel X φ H w ->
  CR X φ (shq w) t a.tmps.toList->fl<=H.size->a.defers=D->a0K call fl n c' t H ≠ .bad->wpx X.P c (y0a X D fl φ H w (a0K call fl n c' t H)) a w
 | 0,c,c',fl,t,H,φ,w,a,_,_,_,_,_,hne=>N1i rfl hne
 | n + 1,c,c',fl,t,H,φ,w,a,hc,hR,hT,hfl,hd,hne=>by
  cases c with
  | skip =>
   simp only [d0f,M1Q] at hc;subst hc
   exact wp_skip ⟨rfl,hd,φ,hT,b0R.refl hR⟩
  | label l =>
   simp only [d0f,M1Q] at hc;subst hc
   exact wp_label ⟨rfl,hd,φ,hT,b0R.refl hR⟩
  | exit id =>
   simp only [d0f,M1Q] at hc;subst hc
   exact wp_exit ⟨rfl,hd,φ,hT,b0R.refl hR⟩
  | ret =>
   simp only [d0f,M1Q] at hc;subst hc
   exact wp_ret ⟨rfl,hd,φ,hT,b0R.refl hR⟩
  | seq x y =>
   simp only [d0f,M1S,M1P,M1T,M1Q] at hc
   obtain ⟨x',hx,y',hy,rfl⟩:=hc
   have hx1:a0K call fl n x' t H ≠ .bad:=fun e=>hne (by simp [a0K,e])
   have ih1:=(d0h hcall hdraw n x x' fl t H φ w a hx hR hT hfl hd hx1).wp
   refine wp_seq (wp_mono ih1 ?_)
   intro e a1 w1 hp
   simp only [a0K]
   cases hr:a0K call fl n x' t H with
   | bad=>exact N1i hr hx1
   | pan v =>
    rw [hr] at hp
    obtain ⟨⟨ty,u,rfl⟩,h2,h3⟩:=hp
    exact ⟨⟨ty,u,rfl⟩,h2,h3⟩
   | fin xx t1 H1 =>
    rw [hr] at hp
    obtain ⟨rfl,hd1,φ1,hT1,hst⟩:=hp
    cases xx with
    | normal =>
     have hne2:a0K call fl n y' t1 H1 ≠ .bad:=fun e=>hne (by simp [a0K,hr,e])
     have ih2:=(d0h hcall hdraw n y y' fl t1 H1 φ1 w1 a1 hy hst.rel hT1 (N1n hfl hst.hsz) hd1 hne2).wp
     exact wp_mono ih2 (fun e a2 w2 h2=>y0a.after hst hR h2)
    | exit id=>exact ⟨rfl,hd1,φ1,hT1,hst⟩
    | ret=>exact ⟨rfl,hd1,φ1,hT1,hst⟩
  | cond c x y =>
   simp only [d0f,M1S,M1P,M1T,M1Q] at hc
   obtain ⟨c',hcc,hc⟩:=hc
   split at hc
   ·rename_i hflat
    simp only [M1P,M1Q] at hc
    obtain ⟨x',hx,y',hy,rfl⟩:=hc
    have hv:=a0V hT hcc hflat
    simp only [a0K] at hne ⊢
    generalize hg:a.eval c=g at hv
    split at hne
    ·rename_i hb
     rw [hb] at hv;cases hv
     exact wp_cond_true hg (d0h hcall hdraw n x x' fl t H φ w a hx hR hT hfl hd hne).wp
    ·rename_i hb
     rw [hb] at hv;cases hv
     exact wp_cond_false hg (d0h hcall hdraw n y y' fl t H φ w a hy hR hT hfl hd hne).wp
    ·exact N1i rfl hne
   ·cases hc
  | block id c =>
   simp only [d0f,M1S,M1P,M1T,M1Q] at hc
   obtain ⟨x',hx,rfl⟩:=hc
   have hx1:a0K call fl n x' t H ≠ .bad:=fun e=>hne (by simp [a0K,e])
   have ih1:=(d0h hcall hdraw n c x' fl t H φ w a hx hR hT hfl hd hx1).wp
   refine wp_block (wp_mono ih1 ?_)
   intro e a1 w1 hp
   simp only [a0K]
   cases hr:a0K call fl n x' t H with
   | bad=>exact N1i hr hx1
   | pan v =>
    rw [hr] at hp
    obtain ⟨⟨ty,u,rfl⟩,h2,h3⟩:=hp
    exact ⟨⟨ty,u,rfl⟩,h2,h3⟩
   | fin xx t1 H1 =>
    rw [hr] at hp
    obtain ⟨rfl,hd1,φ1,hT1,hst⟩:=hp
    cases xx with
    | normal=>exact ⟨rfl,hd1,φ1,hT1,hst⟩
    | ret=>exact ⟨rfl,hd1,φ1,hT1,hst⟩
    | exit id' =>
     show Exit.inBlock id _ (.exit id') a1 w1
     unfold Exit.inBlock
     by_cases hid:id' = id
     ·simp only [hid,N1E];exact ⟨rfl,hd1,φ1,hT1,hst⟩
     ·simp only [hid,N1G];exact ⟨rfl,hd1,φ1,hT1,hst⟩
  | scope c =>
   simp only [d0f,M1S,M1P,M1T,M1Q] at hc
   obtain ⟨x',hx,rfl⟩:=hc
   have e1:a0K call fl (n + 1) (.seq .skip x') t H=a0K call fl n x' t H:=by
    cases n with
    | zero=>exact N1i rfl hne
    | succ m=>rfl
   rw [e1] at hne ⊢
   refine wp_scope_straight (wp_mono (d0h hcall hdraw n c x' fl t H φ w a hx hR hT hfl hd hne).wp ?_)
   intro e a1 w1 hp
   cases e with
   | goto l =>
    exfalso
    cases hr:a0K call fl n x' t H with
    | bad=>exact hne hr
    | pan v=>rw [hr] at hp;exact N1i hp (by simp [y0a])
    | fin xx t1 H1=>rw [hr] at hp;obtain ⟨h,_⟩:=hp;cases xx <;> cases h
   | _=>exact hp
  | loop c =>
   simp only [d0f,M1S,M1P,M1T,M1Q] at hc
   obtain ⟨x',hx,rfl⟩:=hc
   have hx1:a0K call fl n x' t H ≠ .bad:=fun e=>hne (by simp [a0K,e])
   have ih1:=(d0h hcall hdraw n c x' fl t H φ w a hx hR hT hfl hd hx1).wp
   refine k0U.round (wp_mono ih1 ?_)
   intro e a1 w1 hp
   simp only [a0K]
   cases hr:a0K call fl n x' t H with
   | bad=>exact N1i hr hx1
   | pan v =>
    rw [hr] at hp
    obtain ⟨⟨ty,u,rfl⟩,h2,h3⟩:=hp
    exact ⟨⟨ty,u,rfl⟩,h2,h3⟩
   | fin xx t1 H1 =>
    rw [hr] at hp
    obtain ⟨rfl,hd1,φ1,hT1,hst⟩:=hp
    cases xx with
    | normal =>
     have hne2:a0K call fl n (.loop x') t1 H1 ≠ .bad:=fun e=>hne (by simp [a0K,hr,e])
     have ih2:=d0h hcall hdraw n (.loop c) (.loop x') fl t1 H1 φ1 w1 a1 (by simp [d0f,hx]) hst.rel hT1 (N1n hfl hst.hsz) hd1 hne2
     intro b k cs
     obtain ⟨e,a2,w2,h2,h3⟩:=ih2 b k cs
     exact ⟨e,a2,w2,y0a.after hst hR h2,h3⟩
    | exit id=>exact ⟨rfl,hd1,φ1,hT1,hst⟩
    | ret=>exact ⟨rfl,hd1,φ1,hT1,hst⟩
  | region id ops d =>
   cases d with
   | true =>
    simp only [d0f] at hc
    have hc0:=hc
    unfold y0j at hc
    simp only [M1S,M1P] at hc
    obtain ⟨l,_,hc⟩:=hc
    split at hc
    ·simp only [M1T,M1Q] at hc
     subst hc
     simp only [a0K] at hne ⊢
     exact hdraw ops _ _ _ hc0 D fl t H φ w a hR hT hfl hd hne id
    ·cases hc
   | false =>
    simp only [d0f,M1S,M1P,M1T,M1Q] at hc
    obtain ⟨l,hl,rfl⟩:=hc
    simp only [a0K] at hne ⊢
    refine wp_region ?_
    have hlen:ops.size=l.length:=by rw [j0T hl];simp
    rw [List.range_eq_range',hlen]
    exact q0i hcall l 0 t H φ w a (fun i s hi=>by
     obtain ⟨x,h1,h2⟩:=l0M hl i s hi
     exact ⟨x,by simpa using h1,h2⟩) hR hT hfl hd hne
  | _=>simp [d0f] at hc
end
theorem z0q (hR:Rel X φ H w) {ty:TypeId} {n:Nat} {b:Bool} (hn:c0E X.P ty=some n) (hb:l0c X.P ty=some b) {v v' r:Value} (hv:VR X φ (shq w) v v') (hr:b0w H b n v=some r) :
  ∃ q r',v' = .pointer (some q)/\(loadVar ty q).run X.P w=.ok r' w/\VR X φ (shq w) r r':=by
 unfold b0w at hr
 split at hr
 ·rename_i p
  cases hv with
  | ptr _ q B o' h1 h2 h3 hs4 =>
   subst h3
   split at hr
   ·rename_i hbn;cases hr
    obtain ⟨rfl,rfl⟩:=hbn
    exact ⟨_,.agg #[],rfl,by simp [loadVar,h0J hb,c0R hn,loadCells,loadCellsFrom],VR.agg_iff.2 CR.nil⟩
   ·split at hr
    ·cases hr
    ·split at hr
     ·rename_i cs hcs
      obtain ⟨hlen,cs',hl',hcr,hcell⟩:=hR.cells h2 hs4 hcs
      cases b with
      | true =>
       simp only [N1E] at hr hlen hl';cases hr
       have hld:=run_loadCells_list (P:=X.P) w ⟨B,o' + p.off,none⟩ cs' (m0h hcell)
       rw [hl'] at hld
       exact ⟨_,.agg cs'.toArray,rfl,by simp [loadVar,h0J hb,c0R hn,hld],VR.agg_iff.2 (by simpa using hcr)⟩
      | false =>
       simp only [N1g,N1G] at hr hlen hl'
       cases cs with
       | nil=>simp at hlen
       | cons u r' =>
        simp only [List.head?_cons,M1Q] at hr;subst hr
        obtain ⟨u',r2,rfl,hu,_⟩:=hcr.cons_left
        have hc0:=hcell 0 u' rfl
        simp only [N1O] at hc0
        exact ⟨_,u',rfl,by simp [loadVar,h0J hb,hc0],hu⟩
     ·cases hr
 ·cases hr
def m0X (tmps:Array Value):ResultVar->Sem Value
 | .tmp t=>pure (tmps.getD t undef)
 | .cell a t=>do loadVar t (<- asAddr (tmps.getD a undef))
theorem E0H {sr:List SRes}:∀ {rs:List ResultVar} {vs:List Value},rs.mapM (v1i X.P)=some sr->c0N H t sr=some vs->Rel X φ H w->CR X φ (shq w) t a.tmps.toList ->
  ∃ vs',CR X φ (shq w) vs vs'/\(rs.mapM (m0X a.tmps)).run X.P w=.ok vs' w:=by
 induction sr with
 | nil =>
  intro rs vs h h2 hR hT
  have:rs=[]:=by have:=j0T h;exact N1r.1 this.symm
  subst this
  simp [c0N] at h2;subst h2
  exact ⟨[],CR.nil,by simp⟩
 | cons s sr ih =>
  intro rs vs h h2 hR hT
  cases rs with
  | nil=>simp at h
  | cons r rs =>
   rw [O1M] at h
   simp only [M1S,M1P,M1T,M1Q] at h
   obtain ⟨s',h3,sr',h4,h5⟩:=h
   cases h5
   simp only [c0N] at h2
   split at h2
   ·rename_i v vs2 h6 h7
    cases h2
    obtain ⟨vs',hvs,hrun⟩:=ih h4 h7 hR hT
    rw [O1M,Sem.run_bind]
    cases r with
    | tmp i =>
     simp only [v1i,M1Q] at h3;subst h3
     simp only [q0j,M1Q] at h6;subst h6
     refine ⟨a.tmps.getD i undef :: vs',CR.cons ?_ hvs,by simp only [m0X,Sem.run_pure,Result.andThen_ok,Sem.run_bind,hrun]⟩
     rw [a0E];exact hT.get i
    | cell c ty =>
     simp only [v1i,M1S,M1P,M1T,M1Q] at h3
     obtain ⟨b,hb,n,hn,rfl⟩:=h3
     simp only [q0j] at h6
     obtain ⟨q,v'',hq,hrun2,hvr⟩:=z0q hR hn hb (hT.get c) h6
     rw [<- a0E] at hq
     exact ⟨v'' :: vs',CR.cons hvr hvs,by
      have hsa:(asAddr (a.tmps.getD c undef)).run X.P w=.ok q w:=by rw [hq];rfl
      simp only [m0X,hsa,hrun2,Result.andThen_ok,Sem.run_bind,hrun,Sem.run_pure]⟩
   ·cases h2
theorem v0x {vs vs':List Value} (h:CR X φ S vs vs'):VR X φ S (b0K vs) (if h:vs'.toArray.size=1 then vs'.toArray[0] else .tuple vs'.toArray):=by
 cases vs with
 | nil=>rw [h.nil_left];exact VR.tuple_iff.2 CR.nil
 | cons v r =>
  obtain ⟨v',r',rfl,hv,hr⟩:=h.cons_left
  cases r with
  | nil=>rw [hr.nil_left];simpa [b0K] using hv
  | cons u r2 =>
   obtain ⟨u',r3,rfl,_,_⟩:=hr.cons_left
   simp only [b0K]
   rw [dif_neg (by simp)]
   exact VR.tuple_iff.2 (by simpa using h)
def u0S (call:Nat->FuncId->List Value->a0c->Res (Value × a0c)):Prop:=∀ fl f args H v,call fl f args H=.pan v->∃ ty u,v=.iface ty u
section
variable {call:Nat->FuncId->List Value->a0c->Res (Value × a0c)} (hp:u0S call)
include hp
theorem i0r {so:SOp} {v:Value} (h:b0i call fl t H so=.pan v):∃ ty u,v=.iface ty u:=by
 unfold b0i at h
 split at h
 ·cases h
 ·rename_i v1 hv;simp only [Res.pan.injEq] at h;subst h;exact (g0j hv).1
 ·cases h
 ·exact hp _ _ _ _ _ h
theorem f0G:∀ (r:List a0v) (t:a0U) (H:a0c) {v:Value},f0h call fl r t H=.pan v->∃ ty u,v=.iface ty u
 | [],t,H,v,h=>by simp [f0h] at h
 | s :: r,t,H,v,h=>by
  simp only [f0h] at h
  split at h
  ·split at h
   ·cases h
   ·rename_i v1 hs;simp only [Out.pan.injEq] at h;subst h;exact i0r hp hs
   ·exact f0G r _ _ h
  ·exact f0G r _ _ h
theorem c0y (bef:List Nat) (pairs:List (Nat × Nat)):∀ (r:List a0v) (i:Nat) (t:a0U) (H:a0c) (p:Option (Nat × Value)) (log:List (List Nat × List Nat)) {v:Value},
  (∀ j u,p=some (j,u)->∃ ty x,u=.iface ty x)->b0T call fl bef pairs i r t H p log=.pan v->∃ ty u,v=.iface ty u
 | [],i,t,H,p,log,v,hpp,h=>by
  simp only [b0T] at h
  split at h
  ·split at h
   ·cases h
   ·rename_i j u;simp only [Out.pan.injEq] at h;subst h;exact hpp _ _ rfl
  ·cases h
 | s :: r,i,t,H,p,log,v,hpp,h=>by
  simp only [b0T] at h
  split at h
  ·exact c0y bef pairs r _ _ _ _ _ hpp h
  ·split at h
   ·split at h
    ·cases h
    ·rename_i v1 hs
     split at h
     ·refine c0y bef pairs r _ _ _ _ _ ?_ h
      intro j u hju;cases hju;exact i0r hp hs
     ·cases h
    ·exact c0y bef pairs r _ _ _ _ _ hpp h
   ·exact c0y bef pairs r _ _ _ _ _ hpp h
theorem b0P:∀ (n:Nat) (c:SCode) (t:a0U) (H:a0c) {v:Value},a0K call fl n c t H=.pan v->∃ ty u,v=.iface ty u
 | 0,c,t,H,v,h=>by simp [a0K] at h
 | n + 1,c,t,H,v,h=>by
  cases c <;> simp only [a0K] at h
  case skip=>cases h
  case exit=>cases h
  case ret=>cases h
  case seq a b =>
   split at h
   ·exact b0P n b _ _ h
   ·exact b0P n a _ _ h
  case cond c a b =>
   split at h
   ·exact b0P n a _ _ h
   ·exact b0P n b _ _ h
   ·cases h
  case block id c =>
   split at h
   ·split at h <;> cases h
   ·exact b0P n c _ _ h
  case loop c =>
   split at h
   ·exact b0P n (.loop c) _ _ h
   ·exact b0P n c _ _ h
  case reg ops=>exact f0G hp _ _ _ h
  case draw ops bef pairs=>exact c0y hp bef pairs _ _ _ _ _ _ (fun _ _ e=>by cases e) h
end
theorem h0K (E:Env):∀ n,u0S (a0M E n)
 | 0=>fun _ _ _ _ _ h=>by simp [a0M] at h
 | n + 1=>fun fl f args H v h=>by
  simp only [a0M] at h
  split at h
  ·split at h
   ·cases h
   split at h
   ·split at h
    ·split at h
     ·split at h
      case isFalse=>cases h
      unfold d0I at h
      split at h
      ·cases h
      ·cases h
      ·cases h
      ·split at h
       ·split at h <;> cases h
       ·cases h
      ·cases h
     ·cases h
    ·cases h
   ·cases h
  ·split at h
   ·split at h
    ·cases h
    ·rename_i v1 hx
     simp only [Res.pan.injEq] at h;subst h
     exact b0P (h0K E n) n _ _ _ hx
    ·split at h
     ·cases h
     ·split at h <;> cases h
   ·cases h
structure x0Z (X:Cx) (E:Env):Prop where
 code:∀ f sf,E.code f=some sf->a0o X.P f=some sf
 mixed:X.P.follows .mixedOrders=true
def i0D (E:Env):Nat->FuncId->List Value->a0c->Res (Value × a0c):=fun _ f args H =>
 match E.prim f args H.bk H.size with | some (v,bs)=>.ok (v,pushes H bs) | none=>.bad
def u0T (X:Cx) (E:Env):Prop:=b0x X (i0D E)
def s0u (X:Cx) (E:Env):Prop :=
 ∀ q,E.quick=some q->∀ call,b0x X call->i0t call->b0x X fun fl f args H =>
  if f=q.f then match args with | [.agg p,.agg s]=>(if p.size=q.np/\s.size=q.ns then d0I q.zero H (call (max fl H.size) q.solved [.agg #[],.agg p,.agg s] H) else .bad) | _=>.bad else .bad
theorem j0M (E:Env) (hE:x0Z X E) (hkn:u0T X E) (hq:s0u X E) (hdraw:∀ call,b0x X call->i0t call->q0y X call):∀ n,b0x X (a0M E n)
 | 0=>fun _ _ _ _ _ _ _ _ _ _=>⟨fun _ _ h=>by simp [a0M] at h,fun _ h=>by simp [a0M] at h⟩
 | n + 1=>fun fl f args H φ w args' hR hA hfl=>by
  have ih:=j0M E hE hkn hq hdraw n
  have hk:=i0v E n
  cases hcode:E.code f with
  | none =>
   cases hkw:E.prim f args H.bk H.size with
   | some r =>
    have h1:=hkn fl f args H φ w args' hR hA hfl
    simp only [a0M,hcode,hkw]
    simp only [i0D,hkw] at h1
    exact h1
   | none =>
   cases hqk:E.quick with
   | none=>exact ⟨fun _ _ h=>by simp [a0M,hcode,hkw,hqk] at h,fun _ h=>by simp [a0M,hcode,hkw,hqk] at h⟩
   | some q =>
    have h1:=hq q hqk (a0M E n) ih hk fl f args H φ w args' hR hA hfl
    simp only [a0M,hcode,hkw,hqk]
    exact h1
  | some sf =>
   have hcf:=hE.code f sf hcode
   unfold a0o at hcf
   cases hfn:X.P.funcs[f]? with
   | none=>simp [hfn] at hcf
   | some fn =>
    simp only [hfn] at hcf
    cases hb:fn.body with
    | none=>simp [hb] at hcf
    | some c =>
     simp only [hb] at hcf
     split at hcf
     ·cases hcf
     rename_i hruns
     have hruns:s0q X.P f=true:=by simpa using hruns
     simp only [M1S,M1P] at hcf
     obtain ⟨res,hres,body,hbody,hcf⟩:=hcf
     split at hcf
     ·rename_i hnt
      simp only [M1T,M1Q] at hcf;subst hcf
      by_cases hlen:args.length=fn.params.size + fn.nfree
      ·have hlen':args'.size=args.length:=by have:=hA.1;simpa using this.symm
       -- the frame at the call's entry
       have hT:CR X φ (shq w) (args ++ List.replicate (fn.ntmps - args.length) undef) (args' ++ Array.replicate (fn.ntmps - args'.size) undef).toList:=by
        rw [hlen']
        have:(args' ++ Array.replicate (fn.ntmps - args.length) undef).toList=args'.toList ++ List.replicate (fn.ntmps - args.length) undef:=by simp
        rw [this]
        refine hA.append ?_
        generalize fn.ntmps - args.length=m
        induction m with
        | zero=>exact CR.nil
        | succ m ih=>exact CR.cons VR.undef ih
       have hx:=fun hne=>(d0h ih (hdraw _ ih hk) n c body fl _ H φ w { tmps:=args' ++ Array.replicate (fn.ntmps - args'.size) undef,defers:=[] } hbody hR hT hfl rfl hne).wp
       cases hr:a0K (a0M E n) fl n body (args ++ List.replicate (fn.ntmps - args.length) undef) H with
       | bad =>
        refine ⟨fun _ _ h=>?_,fun _ h=>?_⟩
        ·simp only [a0M,hcode] at h;rw [M1Z hlen,hr] at h;cases h
        ·simp only [a0M,hcode] at h;rw [M1Z hlen,hr] at h;cases h
       | pan v0 =>
        rw [hr] at hx
        have hx:=hx (by simp)
        refine ⟨fun _ _ h=>?_,fun v h=>?_⟩
        ·simp only [a0M,hcode] at h;rw [M1Z hlen,hr] at h;cases h
        ·simp only [a0M,hcode] at h;rw [M1Z hlen,hr] at h
         simp only [Res.pan.injEq] at h;subst h
         refine ⟨b0P (h0K E n) n body _ H hr,hruns,calls_of_wp hfn hb (wp_mono hx ?_)⟩
         rintro e a' w' ⟨⟨ty,u,rfl⟩,hd,hp⟩
         exact ⟨hd,⟨ty,u,rfl⟩,hp⟩
       | fin e t1 H1 =>
        rw [hr] at hx
        have hx:=hx (by simp)
        refine ⟨fun v H' h=>?_,fun v h=>?_⟩
        ·simp only [a0M,hcode] at h;rw [M1Z hlen,hr] at h
         refine ⟨hruns,calls_of_wp hfn hb (wp_mono hx ?_)⟩
         rintro e2 a' w' ⟨rfl,hd,φ',hT',hst⟩
         have key:∀ vs,c0N H1 t1 res=some vs->v=b0K vs->H' = H1->∃ v',(results fn a'.tmps).run X.P w' = .ok v' w' /\
           ∃ v2 φ',Ending.returned v' = .returned v2/\VR X φ' (shq w') v v2/\b0R X fl φ H w φ' H' w':=by
          intro vs hvs hv hH
          subst hv hH
          obtain ⟨vs',hcr,hrun⟩:=E0H hres hvs hst.rel hT'
          refine ⟨_,?_,_,φ',rfl,v0x hcr,hst⟩
          have e1:results fn a'.tmps=(do let vs <- fn.results.mapM (m0X a'.tmps);pure (if h:vs.size=1 then vs[0] else .tuple vs)):=rfl
          rw [e1,O1Y]
          simp only [Sem.run_bind,Sem.run_map,hrun]
          rfl
         cases e with
         | exit id=>cases h
         | normal =>
          simp only [] at h
          split at h
          ·rename_i vs hvs
           simp only [Res.ok.injEq,N1V] at h
           obtain ⟨v',h1,h2⟩:=key vs hvs h.1.symm h.2.symm
           exact ⟨hd,v',h1,h2⟩
          ·cases h
         | ret =>
          simp only [] at h
          split at h
          ·rename_i vs hvs
           simp only [Res.ok.injEq,N1V] at h
           obtain ⟨v',h1,h2⟩:=key vs hvs h.1.symm h.2.symm
           exact ⟨hd,v',h1,h2⟩
          ·cases h
        ·simp only [a0M,hcode] at h;rw [M1Z hlen,hr] at h
         cases e with
         | exit id=>cases h
         | normal=>simp only [] at h;split at h <;> cases h
         | ret=>simp only [] at h;split at h <;> cases h
      ·exact ⟨fun _ _ h=>by simp [a0M,hcode,hlen] at h,fun _ h=>by simp [a0M,hcode,hlen] at h⟩
     ·cases hcf
