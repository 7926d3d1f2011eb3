/- Part 2 of the proof. -/
import Derived.Scope
import Derived.Test.YtgopfcmbofkmmaaGreatM00
set_option linter.unusedVariables false
set_option linter.unusedSimpArgs false
set_option linter.unusedSectionVars false
namespace Go.Proofs.YtgopfcmbofkmmaaGreat.AI
open Go
section
variable {X:Cx} {φ φ':Inj} {S:Shp} {H H':a0c} {w w':World} {fl:Nat} {t:a0U} {a:Act} {o:Oper}
theorem Rel.drew (hR:Rel X φ H w):Rel X φ H w.drew:=⟨hR.bs,hR.lt,hR.row,hR.sep⟩
theorem b0R.drew (hR:Rel X φ H w):b0R X fl φ H w φ H w.drew :=
 { ext := fun _ _ h => h, rel := hR.drew, shp := fun _ _ h => h, wsz := M1U _, os := rfl, tape := rfl, out := rfl, hsz := M1U _, keep := fun _ _ => rfl,
   kind:=fun _ _ cs _ h=>⟨cs,h⟩,fresh:=(fun b x h c=>by rw [h] at c;cases c),newB:=(fun b B o h c=>by rw [h] at c;cases c),frame:=fun _ _ _=>rfl }
theorem b0R.kill (hR:Rel X φ H w) {b:Nat} (k:b < H.size) (F:fl<=b):b0R X fl φ H w φ (H.setIfInBounds b .dead) w:=by
 have c:∀ j ro e cs,a0c.bk (H.setIfInBounds b .dead) j=.row ro e cs->j ≠ b/\H.bk j=.row ro e cs:=fun j ro e cs h=>by
  rw [a0I _ _ _ _ k] at h
  split at h
  ·cases h
  ·rename_i q;exact ⟨q,h⟩
 refine
  { ext := fun _ _ h => h
    rel:=?_
    shp:=fun _ _ h=>h
    wsz:=M1U _
    os:=rfl
    tape:=rfl
    out:=rfl
    hsz:=by simp
    keep:=fun j z=>by rw [a0I _ _ _ _ k,M1V (by omega)]
    kind:=fun j e cs _ h=>⟨cs,(c _ _ _ _ h).2⟩
    fresh:=fun b x h r=>by rw [h] at r;cases r
    newB:=fun b B o h r=>by rw [h] at r;cases r
    frame:=fun _ _ _=>rfl }
 refine { bs:=hR.bs,lt:=fun b x h=>by simpa using hR.lt b x h,row:=fun j B o ro e cs h s=>hR.row j B o ro e cs h (c _ _ _ _ s).2,sep:=?_ }
 intro j b2 B o G e cs u y q s
 have:=hR.sep j b2 B o G e cs u y q (c _ _ _ _ s).2
 rw [a0I _ _ _ _ k]
 split
 ·rfl
 ·exact this
theorem n0S (z:Array Value) (n:Nat) (c:0 < z.size):(Builtin.zeroCells z n).toList=e0W z.toList n:=k0D z n c
theorem s0b (z:List Value):∀ (m n:Nat),m<=n->(e0W z n).take (m * z.length)=e0W z m
 | 0,n,_=>by simp [e0W]
 | m + 1,0,h=>by omega
 | m + 1,n + 1,h=>by
  simp only [e0W]
  rw [Nat.succ_mul,Nat.add_comm (m * z.length),List.take_append]
  simp [s0b z m n (by omega),N1c]
theorem b0R.moved (hR:Rel X φ H w) {b B o off:Nat} {e:TypeId} {y cs:List Value} (hb:φ b=some (B,o)) (J:H.bk b=.row false e y) (O:fl<=b) (a3:fl<=H.size)
  (c:Array Value) (c':Array Value) (U:w.heap[B]? = some (.cells c e (0,0))) (hsz:c'.size=c.size) (a0:off + cs.length<=c'.size) (hc:CR X φ (shq w) cs ((c'.toList.drop off).take cs.length)) :
  b0R X fl φ H w (fun q=>if q=H.size then some (B,off) else φ q) ((H.setIfInBounds b .dead).push (.row false e cs)) (w.setRow B c'):=by
 have Z:=a0r J
 obtain ⟨c0,g1,g2,g3,g4⟩:=hR.blkT hb (fun _=>⟨e,c.size,by simp [shq,U]⟩) J
 have L:=i0p w B c c' e (0,0) U hsz
 have R:(shq (w.setRow B c'))=(shq w):=funext L
 have a4:B < w.heap.size:=(N1y.1 U).1
 have z:∀ q x,φ q=some x->(fun q=>if q=H.size then some (B,off) else φ q) q=some x:=fun q x hx=>by
  have:=hR.lt q x hx
  show (if _ then _ else _)=_
  rw [M1V (by omega)];exact hx
 have F:(H.setIfInBounds b .dead).size=H.size:=by simp
 have r:∀ q,a0c.bk ((H.setIfInBounds b .dead).push (.row false e cs)) q=if q=H.size then .row false e cs else if q=b then .dead else H.bk q:=fun q=>by
  rw [a0z,F]
  split
  ·rfl
  ·exact a0I _ _ _ _ Z
 refine
  { ext := z
    rel:=?_
    shp:=fun G x h=>by rw [L];exact h
    wsz:=by simp [World.setRow]
    os:=rfl
    tape:=rfl
    out:=rfl
    hsz:=by simp
    keep:=fun q k=>by rw [r,M1V (by omega),M1V (by omega)]
    kind:=fun q N s k j=>by
     rw [r,M1V (by omega)] at j
     split at j
     ·cases j
     ·exact ⟨s,j⟩
    fresh:=fun q x k Q=>by
     by_cases h:q=H.size
     ·omega
     ·simp only [M1V h] at k;rw [k] at Q;cases Q
    newB:=fun q G M k Q=>by
     by_cases h:q=H.size
     ·simp only [M1Z h,M1Q,N1V] at k
      exact .inr ⟨b,o,e,y,by rw [hb,k.1],O,J⟩
     ·simp only [M1V h] at k;rw [k] at Q;cases Q
    frame:=fun G _ a2=>setRow_other w B G _ (fun h=>by subst h;exact a2 b o e y hb O J) }
 refine { bs:=by have:=hR.bs;simpa [World.setRow] using this,lt:=?_,row:=?_,sep:=?_ }
 ·intro q x k
  simp only [N1T,F]
  by_cases h:q=H.size
  ·omega
  ·simp only [M1V h] at k;have:=hR.lt q x k;omega
 ·intro q G M ro N s k j
  rw [r] at j
  by_cases h:q=H.size
  ·simp only [M1Z h] at k j
   cases k;cases j
   exact .inl ⟨c',e,(0,0),setRow_heap w B c c' e (0,0) U,a0,by rw [R];exact hc.mo z (fun _ _ h=>h),fun _=>⟨g2,rfl,rfl⟩,fun h=>by cases h⟩
  ·simp only [M1V h] at k j
   split at j
   ·cases j
   ·rename_i I
    by_cases hB:G=B
    ·subst hB
     have:=hR.sep b q G o M e y hb k (fun e=>I e.symm) J
     rw [this] at j;cases j
    ·exact (hR.row q G M ro N s k j).mo z (fun B x h=>by rw [L];exact h) (setRow_other w B G _ hB)
 ·intro q b2 G M o2 N s k u I j
  rw [r] at j ⊢
  by_cases h:q=H.size
  ·have S:b2 ≠ H.size:=fun e=>I (h.trans e.symm)
   simp only [M1Z h] at k j
   simp only [M1V S] at u ⊢
   cases k
   by_cases Y:b2=b
   ·rw [M1Z Y]
   ·rw [M1V Y]
    exact hR.sep b b2 _ o o2 e y hb u (fun e=>Y e.symm) J
  ·simp only [M1V h] at k j
   split at j
   ·cases j
   ·rename_i a1
    by_cases S:b2=H.size
    ·simp only [M1Z S] at u
     cases u
     have:=hR.sep q b _ M o N s k hb a1 j
     rw [this] at J;cases J
    ·simp only [M1V S] at u ⊢
     split
     ·rfl
     ·exact hR.sep q b2 G M o2 N s k u I j
section
variable (hR:Rel X φ H w) (hT:CR X φ (shq w) t a.tmps.toList)
include hR hT
omit hT in
theorem F0d (c:fl<=H.size) {h:TypeId} (ho:o.op=.makeMap h none):a0D X fl φ H w o a (.map (some H.size)) (H.push (.row false h [])):=by
 refine ⟨_,_,.map (some w.heap.size),.inl ?_,?_,b0R.newmap hR h c⟩
 ·simp [execOp,ho,Instr.makeMap]
 ·exact .mp _ _ 0 (by simp) (by simp only [shq,heap_alloc_new])
omit hR hT in
theorem v0j {z:Value} {ik k:IntKind} {n:Int}:∀ {cs:List Value} {c:List MapEntry} (i:Nat),CR X φ S cs (i0K c)->∀ {v},m0v z k n cs=some v ->
  (Instr.findNow (.int ik) (.int k n) c i=some none/\v=z) ∨ ∃ j u,Instr.findNow (.int ik) (.int k n) c i=some (some (j,u))/\VR X φ S v u
 | [],c,i,hc,v,h=>by
  cases c with
  | nil=>simp only [m0v,M1Q] at h;exact .inl ⟨rfl,h.symm⟩
  | cons e r=>have:=hc.1;simp [i0K] at this
 | [x],c,i,hc,v,h=>by cases x <;> simp [m0v] at h
 | x :: y :: r,c,i,hc,v,h=>by
  cases c with
  | nil=>have:=hc.1;simp [i0K] at this
  | cons e r' =>
   have w:VR X φ S x e.key:=hc.head
   have H:VR X φ S y e.val:=hc.tail.head
   have I:CR X φ S r (i0K r'):=hc.tail.tail
   cases x <;> simp only [m0v] at h <;> try (cases h;done)
   rename_i k' J
   generalize F:e.key=g at w
   cases w
   split at h
   ·rename_i q
    subst q
    split at h
    ·rename_i s
     subst s
     cases h
     exact .inr ⟨i,e.val,by simp [Instr.findNow,Instr.sameNow,F],H⟩
    ·rename_i s
     have:=v0j (ik:=ik) (i + 1) I h
     have G:Instr.findNow (.int ik) (.int k n) (e :: r') i=Instr.findNow (.int ik) (.int k n) r' (i + 1):=by
      have hb:(n == J)=false:=by simpa using s
      simp [Instr.findNow,Instr.sameNow,F,hb]
     rw [G];exact this
   ·cases h
omit hR hT in
theorem v0z {ik k:IntKind} {n:Int} {x L:Value} (J:VR X φ S x L):∀ {cs:List Value} {c:List MapEntry} (i:Nat),CR X φ S cs (i0K c)->∀ {q},S0H k n x cs=some q ->
  (Instr.findNow (.int ik) (.int k n) c i=some none/\∀ b,CR X φ S q (i0K (c ++ [{ key:=.int k n,val:=L,born:=b }]))) ∨
  ∃ j u,Instr.findNow (.int ik) (.int k n) c i=some (some (i + j,u))/\(c[j]?).map (·.key)=some (.int k n)/\CR X φ S q (i0K (c.modify j fun e=>{ e with key:=.int k n,val:=L }))
 | [],c,i,hc,v,h=>by
  cases c with
  | nil=>simp only [S0H,M1Q] at h;subst h;exact .inl ⟨rfl,fun b=>CR.cons (.int _ _) (CR.cons J CR.nil)⟩
  | cons e r=>have:=hc.1;simp [i0K] at this
 | [y],c,i,hc,v,h=>by cases y <;> simp [S0H] at h
 | y :: y2 :: r,c,i,hc,v,h=>by
  cases c with
  | nil=>have:=hc.1;simp [i0K] at this
  | cons e r' =>
   have N:VR X φ S y e.key:=hc.head
   have O:VR X φ S y2 e.val:=hc.tail.head
   have Q:CR X φ S r (i0K r'):=hc.tail.tail
   cases y <;> simp only [S0H] at h <;> try (cases h;done)
   rename_i k' R
   generalize w:e.key=g at N
   cases N
   split at h
   ·rename_i G
    subst G
    split at h
    ·rename_i H
     subst H
     cases h
     exact .inr ⟨0,e.val,by simp [Instr.findNow,Instr.sameNow,w],by simp [w],by simp only [List.modify_zero_cons,i0K];exact CR.cons (.int _ _) (CR.cons J Q)⟩
    ·rename_i H
     simp only [N1z] at h
     obtain ⟨r1,I,rfl⟩:=h
     have M:Instr.findNow (.int ik) (.int k n) (e :: r') i=Instr.findNow (.int ik) (.int k n) r' (i + 1):=by
      have hb:(n == R)=false:=by simpa using H
      simp [Instr.findNow,Instr.sameNow,w,hb]
     have s:VR X φ S (.int k R) e.key:=by rw [w];exact .int _ _
     rcases v0z (ik:=ik) J (i + 1) Q I with ⟨z,F⟩ | ⟨j,u,z,F,U⟩
     ·exact .inl ⟨by rw [M];exact z,fun b=>by simp only [O1y,i0K];exact CR.cons s (CR.cons O (F b))⟩
     ·exact .inr ⟨j + 1,u,by rw [M,z];congr 3;omega,by simpa using F,by simp only [List.modify_succ_cons,i0K];exact CR.cons s (CR.cons O U)⟩
   ·cases h
omit hR hT in
theorem z0f {k:TypeId} (c:j0R X.P k=true):∃ ik,X.P.underlying k=some (.int ik):=by
 unfold j0R at c;split at c
 ·rename_i ik h;exact ⟨ik,h⟩
 ·cases c
omit hR hT in
theorem S0u {k:TypeId} {ik:IntKind} (c:X.P.underlying k=some (.int ik)) (b:Bool) (h:IntKind) (n:Int) (m:Nat):(Instr.checkKey b (m + 1) k (.int h n)).run X.P w=.ok () w:=by
 unfold Instr.checkKey
 simp [run_underlying c]
theorem R0X {S k e:TypeId} {x i:Operand} {x' i':Opd} {z:Value} (ho:o.op=.lookup S x i false) (hu:X.P.underlying S=some (.map k e)) (hk:j0R X.P k=true) (R:(X.P.info? e).bind (·.zero)=some z) (a1:r0g z=true)
  (hx:b0s x=some x') (hi:b0s i=some i') (fx:a0s x' = true) (fi:a0s i' = true) {v:Value} (h:opA fl t H (.look z x' i')=.val v H'):a0D X fl φ H w o a v H':=by
 have G:=a0V hT hx fx
 have F:=a0V hT hi fi
 simp only [opA] at h
 unfold p0g at h
 split at h
 ·rename_i b L n hb hn
  cases hbl:H.bk b with
  | dead=>rw [hbl] at h;cases h
  | row ro te cs =>
   rw [hbl] at h
   simp only [] at h
   cases hl:m0v z L n cs with
   | none=>rw [hl] at h;cases h
   | some r =>
   rw [hl] at h
   simp only [a0R,OpRes.val.injEq] at h
   obtain ⟨rfl,rfl⟩:=h
   rw [hb] at G
   rw [hn] at F
   generalize hg:a.eval x=g at G
   generalize M:a.eval i=g2 at F
   cases G with
   | mp _ B oo hφ h2 =>
    cases F with
    | int _ _ =>
     obtain ⟨_,_,Q,U,a0,Z⟩:=(hR.row b B oo ro te cs hφ hbl).map h2
     obtain ⟨ik,y⟩:=z0f hk
     obtain ⟨c,O,I⟩:∃ c,X.P.info? e=some c/\c.zero=some z:=by
      cases hi:X.P.info? e with
      | none=>rw [hi] at R;cases R
      | some c=>rw [hi] at R;exact ⟨c,rfl,R⟩
     have N:(getObj B).run X.P w=.ok (.map Q U) w:=by simp [getObj,Sem.run,a0]
     have q:=S0u (w:=w) y Q.isEmpty L n 9999
     have a2:(zeroValue e).run X.P w=.ok z w:=by simp [zeroValue,typeInfo,O,I]
     rcases v0j (ik:=ik) 0 Z hl with ⟨Y,rfl⟩ | ⟨j,u,Y,g2⟩
     ·have s:(Instr.findKey k (.int L n) Q.toList).run X.P w=.ok none w:=by
       simp [Instr.findKey,run_underlying y,Y]
      have J:(Instr.lookup S (.map (some B)) (.int L n) false).run X.P w=.ok r w:=by
       unfold Instr.lookup
       simp [run_underlying hu,N,q,s,a2]
      refine a0D.same hR (v':=r) ?_ (l0K a1)
      simp [execOp,ho,hg,M,J]
     ·have s:(Instr.findKey k (.int L n) Q.toList).run X.P w=.ok (some (j,u)) w:=by
       simp [Instr.findKey,run_underlying y,Y]
      have J:(Instr.lookup S (.map (some B)) (.int L n) false).run X.P w=.ok u w:=by
       unfold Instr.lookup
       simp [run_underlying hu,N,q,s]
      refine a0D.same hR (v':=u) ?_ g2
      simp [execOp,ho,hg,M,J]
 ·cases h
theorem R0Z {ty k e:TypeId} {x i y:Operand} {x' i' y':Opd} (ho:o.op=.mapUpdate ty x i y) (hu:X.P.underlying ty=some (.map k e)) (hk:j0R X.P k=true)
  (hx:b0s x=some x') (hi:b0s i=some i') (hy:b0s y=some y') (fx:a0s x' = true) (fi:a0s i' = true) (fy:a0s y' = true) {v:Value} (h:opA fl t H (.mupd x' i' y')=.val v H'):a0D X fl φ H w o a v H':=by
 have R:=a0V hT hx fx
 have Q:=a0V hT hi fi
 have a9:=a0V hT hy fy
 simp only [opA] at h
 unfold k0E at h
 split at h
 ·rename_i H1 r
  simp only [OpRes.val.injEq] at h
  obtain ⟨rfl,rfl⟩:=h
  split at r
  ·rename_i b S n hb hn
   split at r
   ·rename_i te cs a0
    split at r
    ·rename_i b1
     simp only [N1z] at r
     obtain ⟨Z,a2,rfl⟩:=r
     rw [hb] at R
     rw [hn] at Q
     generalize hg:a.eval x=g at R
     generalize a3:a.eval i=g2 at Q
     generalize a4:a.eval y=g3 at a9
     cases R with
     | mp _ B oo hφ h2 =>
      cases Q with
      | int _ _ =>
       obtain ⟨_,M,Y,z,F,b0⟩:=(hR.row b B oo false te cs hφ a0).map h2
       obtain ⟨ik,O⟩:=z0f hk
       have a5:(getObj B).run X.P w=.ok (.map Y z) w:=by simp [getObj,Sem.run,F]
       have L:=S0u (w:=w) O false S n 9999
       have b2:B < w.heap.size:=(N1y.1 F).1
       -- a map's block, written anew
       have anew:∀ (q:Array MapEntry) (c:Nat),(execOp a.eval o).run X.P w=.ok .skip { w with heap:=w.heap.setIfInBounds B (.map q c) }->CR X φ (shq w) Z (i0K q.toList)->a0D X fl φ H w o a undef (H.setIfInBounds b (.row false te Z)):=by
        intro q c a7 a1
        have G:({ w with heap:=w.heap.setIfInBounds B (.map q c) }:World).heap[B]? = some (.map q c):=by simp [N1l,b2]
        have s:∀ J,J ≠ B->({ w with heap:=w.heap.setIfInBounds B (.map q c) }:World).heap[J]? = w.heap[J]?:=fun J hB=>by simp [N1l,Ne.symm hB]
        have a8:∀ J,shq { w with heap:=w.heap.setIfInBounds B (.map q c) } J=shq w J:=fun J=>by
         by_cases hB:J=B
         ·subst hB;simp only [shq,G,F]
         ·simp only [shq,s J hB]
        refine ⟨φ,_,undef,.inr ⟨rfl,a7⟩,VR.undef,b0R.anew hR hφ a0 b1.1 (by simp) rfl rfl rfl s a8 (.inr ⟨rfl,M,q,c,G,?_⟩)⟩
        rw [funext a8];exact a1
       rcases v0z (ik:=ik) a9 0 b0 a2 with ⟨g1,g4⟩ | ⟨j,u,g1,g5,g4⟩
       ·have N:(Instr.findKey k (.int S n) Y.toList).run X.P w=.ok none w:=by
         simp [Instr.findKey,run_underlying O,g1]
        refine anew (Y.push { key:=.int S n,val:=g3,born:=z }) (z + 1) ?_ (by simpa using g4 z)
        have I:∀ U,(setObj B U).run X.P w=.ok () { w with heap:=w.heap.setIfInBounds B U }:=fun U=>by simp [setObj,Sem.run,F]
        simp [execOp,ho,hg,a3,a4,Instr.mapUpdate,run_underlying hu,a5,L,N,I]
       ·have N:(Instr.findKey k (.int S n) Y.toList).run X.P w=.ok (some (j,u)) w:=by
         simp only [N1q] at g1
         simp [Instr.findKey,run_underlying O,g1]
        refine anew (Y.modify j fun e=>{ e with key:=.int S n,val:=g3 }) z ?_ (by rw [Array.toList_modify];exact g4)
        have I:∀ U,(setObj B U).run X.P w=.ok () { w with heap:=w.heap.setIfInBounds B U }:=fun U=>by simp [setObj,Sem.run,F]
        have a6:(Option.map (fun x:MapEntry=>x.key) Y[j]?).getD (.int S n)=.int S n:=by
         rw [N1S] at g5;rw [g5];rfl
        simp [execOp,ho,hg,a3,a4,Instr.mapUpdate,run_underlying hu,a5,L,N,I,a6,Instr.keyThatStays,Instr.sameBits]
    ·cases r
   ·cases r
  ·cases r
 ·cases h
theorem F1k (J:fl<=H.size) {R e:TypeId} {z:List Value} {size bytes:Nat} {x y:Operand} {S U:Opd} (ho:o.op=.makeSlice R x y) (he:h0N X.P R=some e) (hs:c0E X.P e=some size)
  (hb:j0L X.P e=some bytes) (hz:k0S X.P e=some z) (hsz:size=z.length) (Y:0 < size) (hx:b0s x=some S) (hy:b0s y=some U) (fx:a0s S = true) (fy:a0s U = true)
  {v:Value} (h:opA fl t H (.mk e bytes z S U)=.val v H'):a0D X fl φ H w o a v H':=by
 have hu:=f0u he
 obtain ⟨hf,F,i,hi,Q,_,s,Z⟩:=i0F hz
 have u:F.cells.size=size:=by rw [hsz,<- s];simp
 have j:=a0V hT hx fx
 have k:=a0V hT hy fy
 have a0:i.bytes=bytes:=by simpa [j0L,hi] using hb
 have r:i.size=size:=by simpa [c0E,hi] using hs
 simp only [opA] at h
 split at h
 ·rename_i k1 l k2 c e1 e2
  split at h
  ·rename_i hc
   obtain ⟨h0,h1,h2,h3⟩:=hc
   simp only [OpRes.val.injEq] at h
   obtain ⟨rfl,rfl⟩:=h
   rw [e1] at j;rw [e2] at k
   generalize L:a.eval x=g1 at j
   generalize M:a.eval y=g2 at k
   cases j;cases k
   have G:(i.bytes:Int) * c<=281474976710656:=by
    have h4:i.bytes * c.toNat<=1024 * 1073741824:=O1k (by omega) (by omega)
    have h5:((i.bytes * c.toNat:Nat):Int)=(i.bytes:Int) * c:=by rw [P1g,P1c (by omega)]
    omega
   have O:=run_make (P:=X.P) w R e i F hu hi Q k1 k2 l c h0 h1 G (by omega)
   have I:(madeCells F.cells (c.toNat * i.size)).toList=e0W z c.toNat:=by
    have:=k0D F.cells c.toNat (by omega)
    rw [u,s] at this
    rw [r];simpa [madeCells,u] using this
   have q:(madeCells F.cells (c.toNat * i.size)).size=c.toNat * size:=by rw [size_madeCells,r]
   have N:l.toNat * size<=c.toNat * size:=N1e _ (by omega)
   refine a0D.made hR hT J e _ _ (by rw [d0G,q,<- hsz];exact N) ?_ _ (.slice (some ⟨w.heap.size,0,none⟩) l.toNat c.toNat) (by simp [execOp,ho,L,M,O])
    (j0X hR _ e _ _ _ size (d0Y hs) (fun _=>rfl) (by omega) (by rw [q];exact M1U _))
   rw [I,d0G,s0b _ _ _ (by omega)]
   exact f0K (k0m hf _)
  ·cases h
 ·cases h
theorem F0f {G:TypeId} {n:Nat} {x y:Operand} {F s:Opd} (ho:o.op=.store G x y) (M:c0E X.P G=some n) (O:b0s x=some F) (Q:b0s y=some s) (J:a0s F = true) (L:a0s s = true)
  {v:Value} (h:opA fl t H (.store n F s)=.val v H'):a0D X fl φ H w o a v H':=by
 have j:=a0V hT O J
 have r:=(a0V hT Q L).cells
 simp only [opA] at h
 split at h
 ·rename_i p I
  split at h
  ·cases h
  ·rename_i hc
   split at h
   ·rename_i R N
    simp only [OpRes.val.injEq] at h
    obtain ⟨rfl,rfl⟩:=h
    rw [I] at j
    generalize u:a.eval x=g1 at j
    cases j with
    | ptr _ q B o' h1 h2 h3 h4 =>
     subst h3
     obtain ⟨w',z,c⟩:=b0R.store hR h2 h4 N r
     have k:=r.1
     have hsz:(a.eval y).cells.size=n:=by
      have:¬ (a0t (ev t s)).length ≠ n:=fun e=>hc (.inr e)
      simp only [O1a] at k;omega
     refine ⟨φ,w',undef,.inr ⟨rfl,?_⟩,VR.undef,c⟩
     simp [execOp,ho,u,Instr.storeAt,Instr.sureAddr,storeVar,c0R M,hsz,z]
   ·cases h
 ·cases h
omit hR hT in
theorem m0Z (w:World) (t u I e:TypeId) (i:TypeInfo) (z:Value) (k k':IntKind) (y:X.P.underlying t=some (.slice e)) (s:X.P.underlying u=some (.int k)) (hi:X.P.info? e=some i) (F:i.zero=some z) (n:Int) (L:0 < n) (M:n<=1073741824) (hb:i.bytes<=1024) (hs:0 < i.size) :
  (Builtin.append_ #[t,u] I #[.slice none 0 0,.int k' n]).run X.P w=.ok (.slice (some ⟨w.heap.size,0,none⟩) n.toNat (grownCap w n.toNat 0 e))
   (w.drew.alloc (.cells (Builtin.zeroCells z.cells n.toNat ++ Builtin.zeroCells z.cells (grownCap w n.toNat 0 e - n.toNat)) e)):=by
 have J:IntKind.i64.wrap n=n:=by rw [IntKind.wrap_i64];omega
 obtain ⟨m,rfl⟩:∃ m:Nat,n=m:=⟨n.toNat,by omega⟩
 have G:¬ (m:Int) < 0:=by omega
 have q:m ≠ 0:=by omega
 have x:m * i.bytes<=1073741824 * 1024:=O1k (by omega) hb
 have H:¬ (281474976710656 < (m:Int) * (i.bytes:Int)):=by
  have:((m * i.bytes:Nat):Int)=(m:Int) * (i.bytes:Int):=P1g _ _
  omega
 have r:m * i.size ≠ 0:=by have:=Nat.mul_pos (show 0 < m by omega) hs;omega
 have j:¬ (9223372036854775807 < (m:Int)):=by omega
 have h:¬ (281474976710656 < Builtin.nextslicecap m 0 * i.bytes):=by rw [nextslicecap_zero (by omega)];omega
 have c:¬ (m=0 ∨ i.size=0):=by omega
 simp [Builtin.append_,run_underlying y,run_underlying s,sizeOf,typeInfo,zeroValue,hi,F,asInt,asIntOf,J,G,H,q,r,c,j,h,Question.forced,run_firstCells_none,newRow,grownCap]
theorem R0U (a0:fl<=H.size) {U u e S:TypeId} {z:List Value} {size bytes:Nat} {as:Array Operand} {j:Array TypeId} {x y:Operand} {x' y':Opd}
  (ho:o.op=.call { callee:=.builtin .append,args:=as,argTypes:=j }) (O:o.type=S) (Y:as.toList=[x,y]) (L:j.toList=[U,u]) (he:h0N X.P U=some e) (hs:c0E X.P e=some size)
  (hb:j0L X.P e=some bytes) (hz:k0S X.P e=some z) (hsz:size=z.length) (a7:0 < size) (F:j0R X.P u=true) (hx:b0s x=some x') (hy:b0s y=some y') (fx:a0s x' = true) (fy:a0s y' = true)
  {v:Value} (h:opA fl t H (.appz e bytes z x' y')=.val v H'):a0D X fl φ H w o a v H':=by
 have hu:=f0u he
 obtain ⟨hf,c,i,hi,a6,_,Q,a8⟩:=i0F hz
 have R:c.cells.size=size:=by rw [hsz,<- Q];simp
 have G:=a0V hT hx fx
 have I:=a0V hT hy fy
 have a9:i.bytes=bytes:=by simpa [j0L,hi] using hb
 have b0:i.size=size:=by simpa [c0E,hi] using hs
 have Z:=d0Y hs
 have J:as = #[x,y]:=by rw [<- N1A (xs:=as),Y]
 have r:j = #[U,u]:=by rw [<- N1A (xs:=j),L]
 subst J r
 obtain ⟨k,hk⟩:∃ k,X.P.underlying u=some (.int k):=by
  unfold j0R at F;split at F
  ·rename_i k hk;exact ⟨k,hk⟩
  ·cases F
 simp only [opA] at h
 split at h
 ·rename_i m s
  simp only [OpRes.val.injEq] at h
  obtain ⟨rfl,rfl⟩:=h
  unfold t0a at s
  split at s
  ·rename_i k' n e1 e2
   split at s
   ·rename_i hc
    obtain ⟨c0,c1,c2⟩:=hc
    simp only [M1Q] at s
    subst s
    rw [e1] at G;rw [e2] at I
    generalize a1:a.eval x=g1 at G
    generalize a2:a.eval y=g2 at I
    cases G;cases I
    have hr:=m0Z (X:=X) w U u S e i c k k' hu hk hi a6 n c0 c1 (by omega) (by omega)
    have M:(execOp a.eval o).run X.P w=.ok (.value (.slice (some ⟨w.heap.size,0,none⟩) n.toNat (grownCap w n.toNat 0 e))) (w.drew.alloc (.cells (Builtin.zeroCells c.cells n.toNat ++ Builtin.zeroCells c.cells (grownCap w n.toNat 0 e - n.toNat)) e)):=by
     simp [execOp,ho,a1,a2,resolve,invoke,builtin,O,hr]
    have N:=grownCap_ge w n.toNat 0 e
    obtain ⟨m,hm⟩:∃ m,m=n.toNat:=⟨_,rfl⟩
    rw [<- hm] at M N ⊢
    have a5:(Builtin.zeroCells c.cells m).toList=e0W z m:=by rw [n0S _ _ (by omega),Q]
    have q:(Builtin.zeroCells c.cells m).size=m * size:=by rw [size_zeroCells,R]
    have a3:(e0W z m).length=m * size:=by rw [d0G,<- hsz]
    have a4:=b0R.alloc (fl:=fl) (hR.drew) e (e0W z m) (Builtin.zeroCells c.cells m ++ Builtin.zeroCells c.cells (grownCap w m 0 e - m))
     (by rw [a3,Array.size_append,q];omega)
     (by
      have:(Builtin.zeroCells c.cells m ++ Builtin.zeroCells c.cells (grownCap w m 0 e - m)).toList.take (e0W z m).length=e0W z m:=by
       rw [O1G,a5];exact List.take_left
      rw [this];exact f0K (k0m hf _)) a0
    refine ⟨_,_,_,.inl M,?_,(b0R.drew hR).trans a4 (M1U _) hR⟩
    exact j0X (X:=X) (φ:=φ) (H:=H) (w:=w.drew) hR.drew (Builtin.zeroCells c.cells m ++ Builtin.zeroCells c.cells (grownCap w m 0 e - m)) e m unk (grownCap w m 0 e) size Z (fun h=>N1i rfl h) N (by
     rw [Array.size_append,q,size_zeroCells,R,<- N1t]
     exact N1e _ (by omega))
   ·cases s
  ·cases s
 ·cases h
omit hT in
theorem v0b (d9:fl<=H.size) {ty u e c8:TypeId} {i:TypeInfo} {zv:Value} {size bytes n len cap:Nat} {base:Option Addr} {x y:Operand} {new k:List Value} {g1 g2:Value}
  (hu:X.P.underlying ty=some (.slice e)) (Y:X.P.underlying u=some (.slice e) ∨ X.P.underlying u=some .string) (hi:X.P.info? e=some i) (f1:i.zero=some zv)
  (f0:zv.cells.size=size) (f7:i.bytes=bytes) (c5:i.size=size) (c0:X.P.cellsOf e=size)
  (Q:∀ (v':Value) (w1:World),(Builtin.append_ #[ty,u] c8 #[g1,g2]).run X.P w=.ok v' w1->(execOp a.eval o).run X.P w=.ok (.value v') w1)
  (f8:n ≠ 0) (d3:len + n<=1073741824) (f6:bytes<=1024) (c3:new.length=n * size) (a3:CR X φ (shq w) new k)
  (O:(Builtin.lenOf g2).run X.P w=.ok n w) (a2:∀ w1:World,w1.heap=w.heap->(Builtin.firstCells size n g2).run X.P w1=.ok k.toArray w1)
  (c7:VR X φ (shq w) (.slice base len cap) g1) {rv:Value} {rH:a0c} (r:q0C fl H e size bytes base len cap n new=some (rv,rH)):a0D X fl φ H w o a rv rH:=by
 have S:(len + n) * i.bytes<=140737488355328:=by
  have:(len + n) * i.bytes<=1073741824 * 1024:=O1k d3 (by omega)
  omega
 have d5:k.length=n * size:=by rw [<- a3.1,c3]
 have M:∀ (ob:Option Addr) (q I:Nat) (s:List Value),(∀ w1:World,w1.heap=w.heap->(Builtin.firstCells size q (.slice ob q I)).run X.P w1=.ok s.toArray w1)->I < q + n->q + n<=1073741824 ->
   Builtin.nextslicecap (q + n) I * i.bytes<=281474976710656 ->
   (Builtin.append_ #[ty,u] c8 #[.slice ob q I,g2]).run X.P w =
    .ok (.slice (some ⟨w.heap.size,0,none⟩) (q + n) (grownCap w (q + n) I e))
     (w.drew.alloc (.cells (s.toArray ++ k.toArray ++ Builtin.zeroCells zv.cells (grownCap w (q + n) I e - (q + n))) e)):=by
  intro ob q I s e0 hg f5 a6
  have hn:¬ (q + n<=I):=by omega
  have d0:¬ (9223372036854775807 < ((q:Int) + (n:Int))):=by omega
  have c9:¬ (281474976710656 < Builtin.nextslicecap (q + n) I * i.bytes):=by omega
  have hf:=a2 w.drew rfl
  have b7:=e0 w.drew rfl
  rw [<- c5] at hf b7
  rcases Y with Y | Y
  all_goals
   simp [Builtin.append_,run_underlying hu,run_underlying Y,sizeOf,typeInfo,zeroValue,hi,f1,O,hn,d0,c9,Question.forced,hf,b7,newRow,grownCap]
   try (congr 2;apply O1x;simp [List.append_assoc])
 -- the new row of a grown slice
 have J:∀ (G:a0c),Rel X φ G w->G.size=H.size->∀ (s z:List Value) (m:Nat),s.length=m * size->CR X φ (shq w) s z->∀ N,
   (execOp a.eval o).run X.P w=.ok (.value (.slice (some ⟨w.heap.size,0,none⟩) (m + n) (grownCap w (m + n) N e)))
    (w.drew.alloc (.cells (z.toArray ++ k.toArray ++ Builtin.zeroCells zv.cells (grownCap w (m + n) N e - (m + n))) e)) ->
   ∃ φ' w' v',(execOp a.eval o).run X.P w=.ok (.value v') w'/\VR X φ' (shq w') (.slice (some ⟨G.size,0,none⟩) (m + n) unk) v'/\b0R X fl φ G w φ' (G.push (.row false e (s ++ new))) w':=by
  intro G hG d1 s z m b3 a4 N d8
  have e1:=grownCap_ge w (m + n) N e
  have O:(s ++ new).length=(m + n) * size:=by rw [N1X,b3,c3,N1t]
  have b1:=a4.append a3
  have R:(z ++ k).length=(m + n) * size:=by rw [<- b1.1,O]
  have e7:=b0R.alloc (fl:=fl) (hG.drew) e (s ++ new) (z.toArray ++ k.toArray ++ Builtin.zeroCells zv.cells (grownCap w (m + n) N e - (m + n)))
   (by simp only [Array.size_append,List.size_toArray,O];simp only [N1X] at R;omega)
   (by
    have:(z.toArray ++ k.toArray ++ Builtin.zeroCells zv.cells (grownCap w (m + n) N e - (m + n))).toList.take (s ++ new).length=z ++ k:=by
     rw [O,<- R,O1G,O1G]
     exact List.take_left
    rw [this];exact b1) (by omega)
  refine ⟨_,_,_,d8,?_,(b0R.drew hG).trans e7 (M1U _) hG⟩
  exact j0X (X:=X) (φ:=φ) (H:=G) (w:=w.drew) hG.drew (z.toArray ++ k.toArray ++ Builtin.zeroCells zv.cells (grownCap w (m + n) N e - (m + n))) e (m + n) unk (grownCap w (m + n) N e) size c0 (fun h=>N1i rfl h) e1 (by
   simp only [Array.size_append,List.size_toArray,size_zeroCells,f0]
   simp only [N1X] at R
   rw [R,<- N1t]
   exact N1e _ (by omega))
 unfold q0C at r
 split at r
 ·cases r
 rename_i b4
 split at r
 ·-- onto nil
  split at r
  ·rename_i e9;cases r
   obtain ⟨rfl,rfl⟩:=e9
   cases c7
   have hr:=M none 0 0 [] (fun w1 _=>by simp [Builtin.firstCells]) (by omega) (by omega) (growslice_fits (by omega) S)
   obtain ⟨a1,w2,v2,q1,q2,q3⟩:=J H hR rfl [] [] 0 (by simp) CR.nil 0 (Q _ _ hr)
   exact ⟨a1,w2,v2,.inl q1,by simpa using q2,by simpa using q3⟩
  ·cases r
 ·rename_i sp
  split at r
  ·rename_i b9;cases r
   obtain ⟨rfl,rfl⟩:=b9
   have gg:∃ L,g1=.slice (some L) 0 0:=by
    cases c7 with
    | sle _ L=>exact ⟨_,rfl⟩
    | sl _ L _ _ c' B o' j1 j2 j3 j4 j5 j6 j7 j8=>have:=j6 (by simp [unk]);subst this;exact ⟨_,rfl⟩
   obtain ⟨L,e2⟩:=gg
   have hr:=M (some L) 0 0 [] (fun w1 _=>by simp [Builtin.firstCells,loadCells,loadCellsFrom]) (by omega) (by omega) (growslice_fits (by omega) S)
   rw [<- e2] at hr
   obtain ⟨a1,w2,v2,q1,q2,q3⟩:=J H hR rfl [] [] 0 (by simp) CR.nil 0 (Q _ _ hr)
   exact ⟨a1,w2,v2,.inl q1,by simpa using q2,by simpa using q3⟩
  rename_i b9
  split at r
  ·cases r
  ·rename_i old d6
   cases c7 with
   | sle _ L=>exact N1i ⟨rfl,rfl⟩ b9
   | sl _ L _ _ c' B o' j1 j2 j3 j4 j5 j6 j7 j8 =>
    obtain ⟨b3,F,b8,a4,b2⟩:=hR.cells j2 (V0u j4 j8) d6
    have U:∀ j v,F[j]? = some v->w.cell? (L.add j)=some v:=by
     intro j v hj
     have a9:j < F.length:=(N1b.1 hj).1
     have c2:0 < len:=by
      rcases O1P len with h0 | h0
      ·subst h0;rw [b8] at a9;simp at a9
      ·exact h0
     have:=b2 j v hj
     rw [c0P j3,j4,j5 c2];exact this
    have a7:c' < len + n->∀ (G:a0c),Rel X φ G w->G.size=H.size ->
      ∃ φ' w' v',(execOp a.eval o).run X.P w=.ok (.value v') w'/\VR X φ' (shq w') (.slice (some ⟨G.size,0,none⟩) (len + n) unk) v'/\b0R X fl φ G w φ' (G.push (.row false e (old ++ new))) w':=by
     intro d4 G hG d1
     have hr:=M (some L) len c' F (fun w1 e8=>run_firstCells_some (P:=X.P) w1 size len L len c' F b8 (fun j v hj=>by
      have:=U j v hj
      simp only [World.cell?,e8] at this ⊢;exact this)) d4 d3 (growslice_fits d4 S)
     exact J G hG d1 old F len b3 a4 c' (Q _ _ hr)
    split at r
    ·rename_i b5;cases r
     obtain ⟨a1,w2,v2,q1,q2,q3⟩:=a7 (by rw [j6 b5.1];exact b5.2) H hR rfl
     exact ⟨a1,w2,v2,.inl q1,q2,q3⟩
    ·split at r
     ·rename_i e' f2 hk
      split at r
      ·rename_i c1;cases r
       obtain ⟨rfl,b6⟩:=c1
       obtain ⟨c,a5,d7,f3,f4⟩:=hR.blkT j2 (V0u j4 j8) hk
       by_cases a0:len + n<=c'
       ·-- in place
        obtain ⟨e3,nn,q1,q2⟩:=j8 (by rw [j4];exact d7)
        rw [j4] at q1
        simp only [shq,a5,M1Q,N1V] at q1
        obtain ⟨rfl,rfl⟩:=q1
        rw [c0] at q2
        have a6:L.off + len * size + k.length<=c.size:=by
         rw [d5]
         have:len * size + n * size<=c' * size:=by rw [<- N1t];exact N1e _ a0
         omega
        have e6:∀ u ∈ k,u.oneCell' = true:=a3.plain (by simpa using b4)
        have b0:=run_storeCells_at X.P B (L.off + len * size) e' k 0 c w a5 (by simpa using a6) e6
        simp only [N1O] at b0
        rw [<- k0r k c.toList (L.off + len * size) (by simpa using a6)] at b0
        have hf:=a2 w rfl
        rw [<- c5] at hf
        have c4:(Builtin.append_ #[ty,u] c8 #[.slice (some L) len c',g2]).run X.P w =
          .ok (.slice (some L) (len + n) c') (w.setRow B (b0e c.toList (L.off + len * size) k).toArray):=by
         have d2:L.add (len * i.size) = ⟨B,L.off + len * size,none⟩:=by rw [c0P j3,j4,c5]
         rcases Y with Y | Y
         all_goals simp [Builtin.append_,run_underlying hu,run_underlying Y,sizeOf,typeInfo,hi,O,a0,hf,d2,b0]
        have Z:(b0e c.toList (L.off + len * size) k).toArray.size=c.size:=by simp [c0I]
        have b1:CR X φ (shq w) (old ++ new) (((b0e c.toList (L.off + len * size) k).toArray.toList.drop L.off).take (old ++ new).length):=by
         have e4:((b0e c.toList (L.off + len * size) k).drop L.off).take (old ++ new).length=F ++ k:=by
          rw [j0E]
          rw [k0r k (c.toList.drop L.off) (len * size) (by simp;omega)]
          have e5:(c.toList.drop L.off).take (len * size)=F:=by
           apply O1V
           intro j
           by_cases hj:j < len * size
           ·have a9:j < F.length:=by omega
            have:=U j F[j] (M1X a9)
            rw [c0P j3] at this
            simp only [World.cell?,j4,a5,Option.isSome_none,N1g,N1G] at this
            rw [List.getElem?_take_of_lt hj,O1A,M1X a9]
            rw [N1S];exact this
           ·rw [N1d (by simp;omega),N1d (by omega)]
          rw [e5]
          have:(old ++ new).length=(F ++ k).length:=by simp;omega
          rw [this]
          exact List.take_left
         simp only []
         rw [e4];exact a4.append a3
        have c6:=b0R.moved (fl:=fl) (off:=L.off) hR j2 hk b6 d9 c _ a5 Z (by rw [Z];simp only [N1X,b3,c3];omega) b1
        refine ⟨_,_,_,.inl (Q _ _ c4),?_,c6⟩
        refine .sl _ _ _ _ _ B L.off rfl (by simp) j3 j4 (fun _=>by simp) (fun h=>N1i rfl h) a0 (fun _=>⟨e',c.size,?_,by rw [c0];exact q2⟩)
        rw [j4,i0p w B c _ e' (0,0) a5 Z]
        simp [shq,a5]
       ·-- grown,and the old row forgotten
        have a8:=b0R.kill (fl:=fl) hR (a0r hk) b6
        obtain ⟨a1,w2,v2,q1,q2,q3⟩:=a7 (by omega) _ a8.rel (by simp)
        exact ⟨a1,w2,v2,.inl q1,by simpa using q2,a8.trans q3 (M1U _) hR⟩
      ·cases r
     ·cases r
theorem t1E (a6:fl<=H.size) {ty u e b6:TypeId} {z:List Value} {size bytes:Nat} {as:Array Operand} {L:Array TypeId} {x y:Operand} {x' y':Opd}
  (ho:o.op=.call { callee:=.builtin .append,args:=as,argTypes:=L }) (b2:o.type=b6) (b7:as.toList=[x,y]) (a2:L.toList=[ty,u]) (he:h0N X.P ty=some e) (hs:c0E X.P e=some size)
  (hb:j0L X.P e=some bytes) (hz:k0S X.P e=some z) (hsz:size=z.length) (_:0 < size) (c5:u=ty ∨ g0N X.P u=true) (hx:b0s x=some x') (hy:b0s y=some y') (fx:a0s x' = true) (fy:a0s y' = true)
  {v:Value} (h:opA fl t H (.app e size bytes x' y')=.val v H'):a0D X fl φ H w o a v H':=by
 have hu:=f0u he
 have F:X.P.underlying u=some (.slice e) ∨ X.P.underlying u=some .string:=by
  rcases c5 with rfl | h
  ·exact .inl hu
  ·unfold g0N at h;split at h
   ·rename_i hq;exact .inr hq
   ·cases h
 obtain ⟨hf,zv,i,hi,b4,_,c6,c8⟩:=i0F hz
 have b3:zv.cells.size=size:=by rw [hsz,<- c6];simp
 have s:=a0V hT hx fx
 have G:=a0V hT hy fy
 have a3:i.bytes=bytes:=by simpa [j0L,hi] using hb
 have b1:i.size=size:=by simpa [c0E,hi] using hs
 have a5:=d0Y hs
 have a1:as = #[x,y]:=by rw [<- N1A (xs:=as),b7]
 have Q:L = #[ty,u]:=by rw [<- N1A (xs:=L),a2]
 subst a1 Q
 have k:∀ (g1 O v':Value) (J:World),a.eval x=g1->a.eval y=O->(Builtin.append_ #[ty,u] b6 #[g1,O]).run X.P w=.ok v' J->(execOp a.eval o).run X.P w=.ok (.value v') J:=by
  intro g1 O v' J e1 e2 e3
  simp [execOp,ho,e1,e2,resolve,invoke,builtin,b2,e3]
 simp only [opA] at h
 cases hap:n0w fl H e size bytes (ev t x') (ev t y') with
 | none=>simp [hap,f0P] at h
 | some r =>
  obtain ⟨rv,rH⟩:=r
  simp only [hap,f0P,OpRes.val.injEq] at h
  obtain ⟨rfl,rfl⟩:=h
  generalize Y:a.eval x=g1 at s
  generalize Z:a.eval y=O at G
  have c:∀ {base:Option Addr} {len cap:Nat},VR X φ (shq w) (.slice base len cap) g1->(Builtin.lenOf O).run X.P w=.ok 0 w->(Builtin.firstCells i.size 0 O).run X.P w=.ok #[] w->a0D X fl φ H w o a (.slice base len cap) H:=by
   intro base len cap hv c1 c0
   have a0:∀ (p':Option Addr) (c':Nat),g1=.slice p' len c'->len<=c'->a0D X fl φ H w o a (.slice base len cap) H:=by
    intro p' c' h1 c2
    subst h1
    refine a0D.same hR (v':=.slice p' len c') (k _ _ _ _ Y Z ?_) hv
    rcases F with F | F <;> cases p' <;> simp [Builtin.append_,run_underlying hu,run_underlying F,sizeOf,typeInfo,hi,c1,c2,c0,storeCells]
   cases hv with
   | sle _ p'=>exact a0 _ _ rfl (M1U _)
   | snil=>exact a0 _ _ rfl (M1U _)
   | sl _ p' _ _ c' B o' k1 k2 k3 k4 k5 k6 k7 k8=>exact a0 _ _ rfl k7
  unfold n0w at hap
  split at hap
  ·rename_i base len cap xb n xc e1 e2
   rw [e1] at s;rw [e2] at G
   split at hap
   ·-- c appended
    rename_i q;cases hap
    subst q
    have a7:∃ N d',O=.slice N 0 d':=by
     cases G with
     | snil=>exact ⟨_,_,rfl⟩
     | sle _ N=>exact ⟨_,_,rfl⟩
     | sl _ N _ _ d' B2 o2 _ _ _ _ _ _ _ _=>exact ⟨_,_,rfl⟩
    obtain ⟨N,d',rfl⟩:=a7
    exact c s (by simp [Builtin.lenOf]) (by cases N <;> simp [Builtin.firstCells,loadCells,loadCellsFrom])
   ·rename_i q
    split at hap
    ·rename_i U
     obtain ⟨R,S,_⟩:=U
     split at hap
     ·cases hap
     ·rename_i xp
      split at hap
      ·cases hap
      ·rename_i new a9
       cases G with
       | sle _ N=>exact N1i rfl q
       | sl _ N _ _ d' B2 o2 k1 k2 k3 k4 k5 k6 k7 k8 =>
        have c4:=k5 (by omega)
        have hq:N = ⟨B2,o2 + xp.off,none⟩:=by cases N;simp_all
        subst hq
        obtain ⟨c3,b5,b0,a8,M⟩:=hR.cells k2 (V0u k4 k8) a9
        have I:=m0h M
        exact v0b hR a6 hu F hi b4 b3 a3 b1 a5 (fun v' J=>k _ _ v' J Y Z) (x:=x) (y:=y) q R S c3 a8 (by simp [Builtin.lenOf])
         (fun J c7=>run_firstCells_some (P:=X.P) J size n ⟨B2,o2 + xp.off,none⟩ n d' b5 b0 (fun j v hj=>by
          have:=I j v hj
          simp only [World.cell?,c7] at this ⊢;exact this)) s hap
    ·cases hap
  ·rename_i base len cap b e1 e2
   rw [e1] at s;rw [e2] at G
   cases G
   have a4:b.data.toList.length=b.size:=by rw [O1a];rfl
   split at hap
   ·rename_i q;cases hap
    have b8:b.size=0:=by omega
    exact c s (by simp [Builtin.lenOf,b8]) (by simp [Builtin.firstCells])
   ·rename_i q
    split at hap
    ·rename_i U
     obtain ⟨R,S,rfl⟩:=U
     have b9:CR X φ (shq w) (i0w b.data.toList) (i0w b.data.toList):=CR.of_mem_map _ _ _ fun b _=>.int _ _
     refine v0b hR a6 hu F hi b4 b3 a3 b1 a5 (fun v' J=>k _ _ v' J Y Z) (x:=x) (y:=y) q R S (by simp [i0w]) b9 (by simp [Builtin.lenOf,a4]) (fun J _=>?_) s hap
     have hx:b.extract 0 b.data.toList.length=b:=by
      rw [a4];exact ByteArray.extract_zero_size
     simp only [Builtin.firstCells,hx,Sem.run_pure]
     congr 1
     apply O1x
     simp [i0w]
    ·cases hap
  ·cases hap
end
end
section
variable {X:Cx} {φ φ':Inj} {S:Shp} {H H':a0c} {w w':World} {fl:Nat} {t:a0U} {a:Act} {o:Oper} {so:SOp} {lone:Bool}
theorem w1o (hc:cOp X.P lone o.op=some so) (j:(a0g so).all a0s=true) (hR:Rel X φ H w) (hT:CR X φ (shq w) t a.tmps.toList) (Q:fl<=H.size) {v:Value} (h:opA fl t H so=.val v H') :
  a0D X fl φ H w o a v H':=by
 cases ho:o.op
 case move x =>
  simp only [cOp,ho,N1z] at hc
  obtain ⟨J,hx,rfl⟩:=hc
  simp only [opA,OpRes.val.injEq] at h;obtain ⟨rfl,rfl⟩:=h
  exact U0R hR hT (.inl ho) hx (by simpa [a0g] using j)
 case assign x =>
  simp only [cOp,ho,N1z] at hc
  obtain ⟨J,hx,rfl⟩:=hc
  simp only [opA,OpRes.val.injEq] at h;obtain ⟨rfl,rfl⟩:=h
  exact U0R hR hT (.inr ho) hx (by simpa [a0g] using j)
 case pick c x y =>
  simp only [cOp,ho,M1S,M1P,M1T,M1Q] at hc
  obtain ⟨c',q,J,G,y',L,rfl⟩:=hc
  simp only [a0g,N1u,M1W,O1g] at j
  exact S0a hR hT ho q G L j.1 j.2.1 j.2.2.1 h
 case alloc e =>
  simp only [cOp,ho,M1S,M1P,M1T,M1Q] at hc
  obtain ⟨z,q,rfl⟩:=hc
  simp only [opA,OpRes.val.injEq] at h;obtain ⟨rfl,rfl⟩:=h
  exact F0a hR hT Q ho q
 case box e x =>
  simp only [cOp,ho,M1S,M1P,M1T,M1Q] at hc
  obtain ⟨J,q,rfl⟩:=hc
  simp only [opA,OpRes.val.injEq] at h;obtain ⟨rfl,rfl⟩:=h
  exact t1H hR hT Q ho q (by simpa [a0g] using j)
 case build ty ps =>
  simp only [cOp,ho,M1S,M1P,M1T,M1Q] at hc
  obtain ⟨fs,q,hc⟩:=hc
  split at hc
  ·rename_i F
   simp only [M1P,M1Q] at hc
   obtain ⟨z,G,qs,L,rfl⟩:=hc
   exact F0b hR hT ho q F G L (by simpa [a0g] using j) h
  ·cases hc
 case buildSlice ty n ps =>
  simp only [cOp,ho,M1S,M1P,M1T,M1Q] at hc
  obtain ⟨e,q,size,G,z,L,hc⟩:=hc
  split at hc
  ·rename_i F
   simp only [M1P,M1Q] at hc
   obtain ⟨qs,O,rfl⟩:=hc
   exact t1O hR hT Q ho q G L F.1 F.2.1 F.2.2 O (by simpa [a0g] using j) h
  ·cases hc
 case load ty x =>
  simp only [cOp,ho,M1S,M1P,M1T,M1Q] at hc
  obtain ⟨b,q,n,G,J,L,rfl⟩:=hc
  exact R0W hR hT ho G q L (by simpa [a0g] using j) h
 case store ty x y =>
  simp only [cOp,ho,M1S,M1P,M1T,M1Q] at hc
  obtain ⟨n,q,J,G,y',L,rfl⟩:=hc
  simp only [a0g,N1u,M1W,O1g] at j
  exact F0f hR hT ho q G L j.1 j.2.1 h
 case nilCheck x =>
  simp only [cOp,ho,M1S,M1P,M1T,M1Q] at hc
  obtain ⟨J,q,rfl⟩:=hc
  exact t1J hR hT ho q (by simpa [a0g] using j) h
 case binOp b ty x y ty2 =>
  simp only [cOp,ho,M1S,M1P,M1T,M1Q] at hc
  obtain ⟨d,q,J,G,y',L,rfl⟩:=hc
  simp only [a0g,N1u,M1W,O1g] at j
  exact t1G hR hT ho q G L j.1 j.2.1 h
 case unOp u ty x =>
  simp only [cOp,ho,M1S,M1P,M1T,M1Q] at hc
  obtain ⟨J,q,rfl⟩:=hc
  exact F1m hR hT ho q (by simpa [a0g] using j) h
 case convert s d x =>
  simp only [cOp,ho] at hc
  split at hc
  ·rename_i k0 k hs hd
   simp only [M1S,M1P,M1T,M1Q] at hc
   obtain ⟨J,L,rfl⟩:=hc
   exact R0V hR hT ho (k0:=k0) (by simp [u1p,hs]) (by simp [u1p,hd]) L (by simpa [a0g] using j) h
  ·rename_i e hs hd
   split at hc
   ·rename_i he
    simp only [M1S,M1P,M1T,M1Q] at hc
    obtain ⟨J,L,rfl⟩:=hc
    exact t1F hR hT ho hs hd he L (by simpa [a0g] using j) h
   ·cases hc
  ·cases hc
 case makeInterface ty x =>
  simp only [cOp,ho] at hc
  split at hc
  ·cases hc
  ·cases hc
  ·rename_i d a5 hu
   simp only [M1S,M1P,M1T,M1Q] at hc
   obtain ⟨J,q,rfl⟩:=hc
   simp only [opA,OpRes.val.injEq] at h;obtain ⟨rfl,rfl⟩:=h
   exact F0c hR hT ho hu (fun m hm=>a5 m hm) q (by simpa [a0g] using j)
 case makeFunc f xs ys =>
  simp only [cOp,ho] at hc
  split at hc
  ·simp only [M1S,M1P,M1T,M1Q] at hc
   obtain ⟨a2,q,a3,G,rfl⟩:=hc
   simp only [opA,OpRes.val.injEq] at h;obtain ⟨rfl,rfl⟩:=h
   simp only [a0g,List.all_append,M1W] at j
   exact R0Y hR hT ho q G j.1 j.2
  ·cases hc
 case makeSlice ty x y =>
  simp only [cOp,ho,M1S,M1P,M1T,M1Q] at hc
  obtain ⟨e,q,size,G,z,L,hc⟩:=hc
  split at hc
  ·rename_i F
   simp only [M1P,M1Q] at hc
   obtain ⟨a1,O,J,S,y',U,rfl⟩:=hc
   simp only [a0g,N1u,M1W,O1g] at j
   exact F1k hR hT Q ho q G O L F.1 F.2 S U j.1 j.2.1 h
  ·cases hc
 case slice ty x lo hi mx =>
  simp only [cOp,ho] at hc
  split at hc
  ·rename_i N
   split at hc
   ·rename_i hh
    simp only [M1S,M1P,M1T,M1Q] at hc
    obtain ⟨J,q,l',G,h',L,rfl⟩:=hc
    simp only [a0g,N1u,M1W,O1g] at j
    exact t1R hR hT ho N q G L j.1 j.2.1 j.2.2.1 h
   ·simp only [M1S,M1P,M1T,M1Q] at hc
    obtain ⟨J,q,l',G,rfl⟩:=hc
    simp only [a0g,N1u,M1W,O1g] at j
    exact t1Q hR hT ho N q G j.1 j.2.1 h
   ·cases hc
  ·simp only [M1S,M1P,M1T,M1Q] at hc
   obtain ⟨e,q,size,G,J,L,a8,O,a7,S,a9,U,rfl⟩:=hc
   simp only [a0g,List.all_append,M1W,N1u,O1g] at j
   exact F1l hR hT ho q G L O S U j.1.1.1.1 j.1.1.2 j.1.2 j.2 h
 case index ty x i =>
  simp only [cOp,ho] at hc
  split at hc
  ·rename_i N
   simp only [M1S,M1P,M1T,M1Q] at hc
   obtain ⟨J,q,i',G,rfl⟩:=hc
   simp only [a0g,N1u,M1W,O1g] at j
   exact t1P hR hT ho N q G j.1 j.2.1 h
  ·cases hc
 case fieldAddr ty x i =>
  simp only [cOp,ho,M1S,M1P,M1T,M1Q] at hc
  obtain ⟨fs,q,f,G,n,L,hc⟩:=hc
  split at hc
  ·rename_i hn;subst hn
   split at hc
   ·rename_i F
    simp only [M1P,M1Q] at hc
    obtain ⟨J,O,rfl⟩:=hc
    exact t1L hR hT ho q G L F.1 F.2.1 F.2.2.1 F.2.2.2 O (by simpa [a0g] using j) h
   ·cases hc
  ·rename_i hn
   simp only [M1P,M1Q] at hc
   obtain ⟨J,O,rfl⟩:=hc
   exact F1i hR hT ho q G L hn O (by simpa [a0g] using j) h
 case field ty x i =>
  simp only [cOp,ho,M1S,M1P,M1T,M1Q] at hc
  obtain ⟨fs,q,f,G,b,L,n,O,J,S,rfl⟩:=hc
  exact t1M hR hT ho q G O L S (by simpa [a0g] using j) h
 case indexAddr ty x y =>
  simp only [cOp,ho,M1S,M1P,M1T,M1Q] at hc
  obtain ⟨e,q,n,G,J,L,y',O,rfl⟩:=hc
  simp only [a0g,N1u,M1W,O1g] at j
  exact F1j hR hT ho q G L O j.1 j.2.1 h
 case extract x i =>
  simp only [cOp,ho,M1S,M1P,M1T,M1Q] at hc
  obtain ⟨J,q,rfl⟩:=hc
  exact t1K hR hT ho q (by simpa [a0g] using j) h
 case call c =>
  obtain ⟨R,args,a6⟩:=c
  simp only [cOp,ho] at hc
  cases R with
  | value f =>
   cases f with
   | func f =>
    simp only [] at hc
    split at hc
    ·simp only [M1S,M1P,M1T,M1Q] at hc
     obtain ⟨J,q,rfl⟩:=hc
     simp [opA] at h
    ·cases hc
   | _ =>
    simp only [M1S,M1P,M1T,M1Q] at hc
    obtain ⟨J,q,a2,G,rfl⟩:=hc
    simp only [opA] at h
    split at h <;> cases h
  | invoke r name =>
   simp only [M1S,M1P,M1T,M1Q] at hc
   obtain ⟨J,q,a2,G,rfl⟩:=hc
   simp only [opA] at h
   split at h
   ·split at h <;> cases h
   ·cases h
  | builtin b =>
   simp only [] at hc
   split at hc
   ·rename_i x t1 I M
    split at hc
    ·rename_i N
     simp only [M1S,M1P,M1T,M1Q] at hc
     obtain ⟨J,G,rfl⟩:=hc
     exact S0b hR hT ho I M N G (by simpa [a0g] using j) h
    simp only [M1S,M1P,M1T,M1Q] at hc
    obtain ⟨e,q,J,G,rfl⟩:=hc
    exact t1N hR hT ho I M q G (by simpa [a0g] using j) h
   ·rename_i x t1 I M
    simp only [M1S,M1P,M1T,M1Q] at hc
    obtain ⟨e,q,J,G,rfl⟩:=hc
    exact t1I hR hT ho I M q G (by simpa [a0g] using j) h
   ·rename_i x ys _ I
    simp only [M1S,M1P,M1T,M1Q] at hc
    obtain ⟨J,q,a3,G,rfl⟩:=hc
    simp only [a0g,N1u,M1W] at j
    exact F0e hR hT ho rfl I q G j.1 j.2 h
   ·rename_i x ys _ I
    simp only [M1S,M1P,M1T,M1Q] at hc
    obtain ⟨J,q,a3,G,rfl⟩:=hc
    simp only [a0g,N1u,M1W] at j
    exact F0e hR hT ho rfl I q G j.1 j.2 h
   ·rename_i s x t1 u1 I M
    simp only [M1S,M1P,M1T,M1Q] at hc
    obtain ⟨e,q,size,G,z,L,hc⟩:=hc
    split at hc
    ·rename_i F
     obtain ⟨Y,Z,a0⟩:=F
     simp only [M1P,M1Q] at hc
     obtain ⟨a1,O,s',S,J,U,rfl⟩:=hc
     simp only [a0g,N1u,M1W,O1g] at j
     exact t1E hR hT Q ho rfl I M q G O L Y Z a0 S U j.1 j.2.1 h
    ·split at hc
     ·rename_i F
      obtain ⟨Y,Z,a0⟩:=F
      simp only [M1P,M1Q] at hc
      obtain ⟨a1,O,s',S,J,U,rfl⟩:=hc
      simp only [a0g,N1u,M1W,O1g] at j
      exact R0U hR hT Q ho rfl I M q G O L Y Z a0 S U j.1 j.2.1 h
     ·cases hc
   ·cases hc
 case panic x =>
  simp only [cOp,ho,M1S,M1P,M1T,M1Q] at hc
  obtain ⟨J,q,rfl⟩:=hc
  simp only [opA] at h
  split at h <;> cases h
 case makeMap ty r =>
  cases r with
  | none =>
   simp only [cOp,ho,M1Q] at hc
   subst hc
   simp only [opA,OpRes.val.injEq] at h
   obtain ⟨rfl,rfl⟩:=h
   exact F0d hR Q ho
  | some x=>simp [cOp,ho] at hc
 case lookup ty x i ok =>
  cases ok with
  | true=>simp [cOp,ho] at hc
  | false =>
   simp only [cOp,ho] at hc
   split at hc
   ·rename_i k e hu
    split at hc
    ·rename_i hk
     split at hc
     ·rename_i z hz
      split at hc
      ·rename_i a4
       simp only [M1S,M1P,M1T,M1Q] at hc
       obtain ⟨J,q,i',G,rfl⟩:=hc
       simp only [a0g,N1u,M1W,O1g] at j
       exact R0X hR hT ho hu hk hz a4 q G j.1 j.2.1 h
      ·cases hc
     ·cases hc
    ·cases hc
   ·cases hc
 case mapUpdate m x y z =>
  simp only [cOp,ho] at hc
  split at hc
  ·rename_i k e hu
   split at hc
   ·rename_i hk
    simp only [M1S,M1P,M1T,M1Q] at hc
    obtain ⟨J,q,y',G,z',L,rfl⟩:=hc
    simp only [a0g,N1u,M1W,O1g] at j
    exact R0Z hR hT ho hu hk q G L j.1 j.2.1 j.2.2.1 h
   ·cases hc
  ·cases hc
 all_goals (simp [cOp,ho] at hc)
theorem c0W {P:Program} {f:FuncId} (h:s0q P f=true) (args:Array Value) (w:World):(callFunc f args).run P w=.ok (.enter f args) w:=by
 unfold s0q at h
 cases hf:P.funcs[f]? with
 | none=>simp [hf] at h
 | some fn =>
  simp only [hf,M1W,O1s] at h
  obtain ⟨j,k⟩:=h
  cases hb:fn.body with
  | none=>simp [hb] at k
  | some c=>simp [callFunc,hf,hb];simpa using j
theorem o0h {α:Type} {k:Nat} {v:α}:∀ {l:List (Nat × α)},l.lookup k=some v->(k,v) ∈ l
 | [],h=>by simp at h
 | (k',v') :: r,h=>by
  rw [List.lookup_cons] at h
  split at h
  ·rename_i c
   have:k=k':=by simpa using c
   subst this
   simp only [M1Q] at h
   subst h
   exact O1B
  ·exact O1f _ (o0h h)
def f0L:SOp->Bool
 | .call _ _ _ | .callv _ _ _ | .inv _ _ _ _=>true
 | _=>false
theorem m0B {f:FuncId} {args:List Value} {l:Bool} (h:opA fl t H so=.call f args l):f0L so=true:=by
 cases so <;> simp only [opA] at h <;> first
  | rfl
  | (simp at h;done)
  | (unfold a0R at h;split at h <;> cases h)
  | (unfold f0P at h;split at h <;> cases h)
  | (split at h <;> first | (cases h;done) | (split at h <;> first | (cases h;done) | (split at h <;> first | (cases h;done) | (unfold a0R at h;split at h <;> cases h))) | (unfold a0R at h;split at h <;> cases h))
theorem s0D (hc:cOp X.P lone o.op=some so) (hs:f0L so=true):∃ c,o.op=.call c:=by
 cases ho:o.op
 case call c=>exact ⟨c,rfl⟩
 case makeMap ty r =>
  exfalso
  cases r with
  | none=>simp only [cOp,ho,M1Q] at hc;subst hc;simp [f0L] at hs
  | some x=>simp [cOp,ho] at hc
 case lookup ty x i ok =>
  exfalso
  cases ok with
  | true=>simp [cOp,ho] at hc
  | false =>
   simp only [cOp,ho] at hc
   split at hc
   ·split at hc
    ·split at hc
     ·split at hc
      ·simp only [M1S,M1P,M1T,M1Q] at hc
       obtain ⟨q,h,k,j,rfl⟩:=hc
       simp [f0L] at hs
      ·cases hc
     ·cases hc
    ·cases hc
   ·cases hc
 case mapUpdate m x y z =>
  exfalso
  simp only [cOp,ho] at hc
  split at hc
  ·split at hc
   ·simp only [M1S,M1P,M1T,M1Q] at hc
    obtain ⟨_,_,_,_,_,_,rfl⟩:=hc
    simp [f0L] at hs
   ·cases hc
  ·cases hc
 case convert sd d x =>
  exfalso
  simp only [cOp,ho] at hc
  split at hc
  ·simp only [M1S,M1P,M1T,M1Q] at hc
   obtain ⟨_,_,rfl⟩:=hc
   simp [f0L] at hs
  ·split at hc
   ·simp only [M1S,M1P,M1T,M1Q] at hc
    obtain ⟨_,_,rfl⟩:=hc
    simp [f0L] at hs
   ·cases hc
  ·cases hc
 case index ty x i =>
  exfalso
  simp only [cOp,ho] at hc
  split at hc
  ·simp only [M1S,M1P,M1T,M1Q] at hc
   obtain ⟨_,_,_,_,rfl⟩:=hc
   simp [f0L] at hs
  ·cases hc
 case slice ty x lo hi mx =>
  exfalso
  simp only [cOp,ho] at hc
  split at hc
  ·split at hc
   ·simp only [M1S,M1P,M1T,M1Q] at hc
    obtain ⟨_,_,_,_,_,_,rfl⟩:=hc
    simp [f0L] at hs
   ·simp only [M1S,M1P,M1T,M1Q] at hc
    obtain ⟨_,_,_,_,rfl⟩:=hc
    simp [f0L] at hs
   ·cases hc
  ·simp only [M1S,M1P,M1T,M1Q] at hc
   obtain ⟨_,_,_,_,_,_,_,_,_,_,_,_,rfl⟩:=hc
   simp [f0L] at hs
 all_goals
  exfalso
  cases so <;> simp only [f0L,N1g] at hs
  all_goals
   simp only [cOp,ho,N1z,M1S,M1P,M1T,M1Q,reduceCtorEq,and_false,exists_const,exists_false] at hc
   try (repeat' (first | (simp only [M1P,M1Q,reduceCtorEq,and_false,exists_const,exists_false] at hc;done) | (obtain ⟨_,_,hc⟩:=hc) | (split at hc)))
theorem z0H (hc:cOp X.P lone o.op=some so) (I:(a0g so).all a0s=true) (hT:CR X φ (shq w) t a.tmps.toList) {f:FuncId} {args:List Value} {l:Bool} (h:opA fl t H so=.call f args l) :
  ∃ q:Array Value,CR X φ (shq w) args q.toList/\(execOp a.eval o).run X.P w=(callFunc f q).run X.P w:=by
 cases ho:o.op
 case call c =>
  obtain ⟨y,j,a6⟩:=c
  simp only [cOp,ho] at hc
  cases y with
  | value g =>
   cases g with
   | func g =>
    simp only [] at hc
    split at hc
    ·simp only [M1S,M1P,M1T,M1Q] at hc
     obtain ⟨a0,u,rfl⟩:=hc
     simp only [opA,OpRes.call.injEq] at h
     obtain ⟨rfl,rfl,rfl⟩:=h
     refine ⟨j.map a.eval,by simpa using j0r hT u (by simpa [a0g] using I),?_⟩
     simp [execOp,ho,resolve,Deferred.ofValue,Act.eval,invoke]
    ·cases hc
   | _ =>
    simp only [M1S,M1P,M1T,M1Q] at hc
    obtain ⟨G,u,a0,F,rfl⟩:=hc
    simp only [a0g,N1u,M1W] at I
    have N:=a0V hT u I.1
    have O:=j0r hT F I.2
    simp only [opA] at h
    split at h
    ·rename_i g first captured e1
     simp only [OpRes.call.injEq] at h
     obtain ⟨rfl,rfl,rfl⟩:=h
     rw [e1] at N
     generalize hg:a.eval _=gg at N
     cases N with
     | func _ _ _ f' c' k1 k2 k3 k4 =>
      have c1:CR X φ (shq w) first.toList f'.toList:=VR.agg_iff.1 (.agg _ _ k1 k2)
      have c2:CR X φ (shq w) captured.toList c'.toList:=VR.agg_iff.1 (.agg _ _ k3 k4)
      refine ⟨f' ++ j.map a.eval ++ c',by simpa using (c1.append O).append c2,?_⟩
      simp [execOp,ho,resolve,Deferred.ofValue,hg,invoke]
    ·cases h
  | invoke r name =>
   simp only [M1S,M1P,M1T,M1Q] at hc
   obtain ⟨G,u,a0,F,rfl⟩:=hc
   simp only [a0g,N1u,M1W] at I
   have N:=a0V hT u I.1
   have O:=j0r hT F I.2
   simp only [opA] at h
   split at h
   ·rename_i ty v e1
    split at h
    ·rename_i g a4
     simp only [OpRes.call.injEq] at h
     obtain ⟨rfl,rfl,rfl⟩:=h
     rw [e1] at N
     generalize hg:a.eval r=gg at N
     cases N with
     | iface _ _ v' k1 =>
      refine ⟨#[v'] ++ j.map a.eval,by simpa using k1.cons_cr O,?_⟩
      -- the method is found, direct, of a value
      have s:(ty,g) ∈ t0g X.P name:=o0h a4
      unfold t0g at s
      rw [List.mem_filterMap] at s
      obtain ⟨Z,U,x⟩:=s
      have U:=N1N.1 U
      split at x
      ·rename_i i hi
       split at x
       ·rename_i m J
        split at x
        ·rename_i g0 fs a3 Y
         split at x
         ·rename_i S
          simp only [M1Q,N1V] at x
          obtain ⟨rfl,rfl⟩:=x
          simp only [M1W] at S
          have M:m.path.toList=[]:=by simpa using S.1
          have R:∃ k,X.P.types.size + Made.depth=k + 1:=⟨X.P.types.size + Made.depth - 1,by omega⟩
          obtain ⟨k,hk⟩:=R
          have L:(method (X.P.types.size + Made.depth) Z v' name).run X.P w=.ok (g0,v') w:=by
           rw [hk,method]
           simp [typeInfo,hi,J,M,follow,a3,receiverAt,run_underlying Y,Place.get]
          have hz:(#[Value.iface Z v'] ++ j.map a.eval)[0]? = some (.iface Z v'):=by simp [Array.getElem?_append]
          have a2:(#[Value.iface Z v'] ++ j.map a.eval).extract 1 (#[Value.iface Z v'] ++ j.map a.eval).size=j.map a.eval:=by
           apply O1x;simp [N1c]
          simp only [execOp,ho,resolve,Sem.run_bind,Sem.run_pure,Result.andThen_ok,hg,invoke,hz,a2,callMethod,run_program,L]
         ·cases x
        ·cases x
       ·cases x
      ·cases x
    ·cases h
   ·cases h
  | builtin b =>
   simp only [] at hc
   split at hc
   ·split at hc
    ·simp only [M1S,M1P,M1T,M1Q] at hc
     obtain ⟨G,F,rfl⟩:=hc
     simp only [opA] at h;unfold a0R at h;split at h <;> cases h
    simp only [M1S,M1P,M1T,M1Q] at hc
    obtain ⟨e,u,G,F,rfl⟩:=hc
    simp only [opA] at h;split at h <;> cases h
   ·simp only [M1S,M1P,M1T,M1Q] at hc
    obtain ⟨e,u,G,F,rfl⟩:=hc
    simp only [opA] at h;unfold a0R at h;split at h <;> cases h
   ·simp only [M1S,M1P,M1T,M1Q] at hc
    obtain ⟨G,u,a5,F,rfl⟩:=hc
    simp only [opA] at h;unfold a0R at h;split at h <;> cases h
   ·simp only [M1S,M1P,M1T,M1Q] at hc
    obtain ⟨G,u,a5,F,rfl⟩:=hc
    simp only [opA] at h;unfold a0R at h;split at h <;> cases h
   ·simp only [M1S,M1P,M1T,M1Q] at hc
    obtain ⟨e,u,size,F,z,h3,hc⟩:=hc
    split at hc
    ·simp only [M1P,M1Q] at hc
     obtain ⟨a1,h4,s',h5,G,h6,rfl⟩:=hc
     simp only [opA] at h;unfold f0P at h;split at h <;> cases h
    ·split at hc
     ·simp only [M1P,M1Q] at hc
      obtain ⟨a1,h4,s',h5,G,h6,rfl⟩:=hc
      simp only [opA] at h;split at h <;> cases h
     ·cases hc
   ·cases hc
 all_goals
  obtain ⟨c,Q⟩:=s0D hc (m0B h)
  rw [ho] at Q;cases Q
end
section
variable {H H' H1:a0c} {fl:Nat} {t:a0U} {so:SOp}
inductive Turn (fl:Nat) (ws:List Nat) (H:a0c):a0c->Prop
 | same:Turn fl ws H H
 | push (r:Blk):Turn fl ws H (H.push r)
 | set (b:Nat) (e:TypeId) (cs cs':List Value) (h:H.bk b=.row false e cs) (hb:b ∈ ws) (hf:fl<=b):Turn fl ws H (H.setIfInBounds b (.row false e cs'))
 | move (b:Nat) (e:TypeId) (cs:List Value) (r:Blk) (h:H.bk b=.row false e cs) (hb:b ∈ ws) (hf:fl<=b):Turn fl ws H ((H.setIfInBounds b .dead).push r)
theorem q0D {ws:List Nat} {e:TypeId} {size bytes len cap n:Nat} {base:Option Addr} {new:List Value} {r:Value} {k:a0c} (c:q0C fl H e size bytes base len cap n new=some (r,k))
  (j:∀ p,base=some p->¬ (len=0/\cap=0)->p.block ∈ ws):Turn fl ws H k:=by
 unfold q0C at c
 split at c
 ·cases c
 split at c
 ·split at c
  ·cases c;exact .push _
  ·cases c
 ·rename_i u
  split at c
  ·cases c;exact .push _
  rename_i h
  split at c
  ·cases c
  ·split at c
   ·cases c;exact .push _
   ·split at c
    ·rename_i s cs q
     split at c
     ·rename_i hc;cases c
      exact .move _ _ _ _ q (j _ rfl h) hc.2
     ·cases c
    ·cases c
theorem p0q {v:Value} (h:opA fl t H so=.val v H1):Turn fl (c0j t so).2 H H1:=by
 have c:∀ {x:Option Value},a0R H x=.val v H1->Turn fl (c0j t so).2 H H1:=fun {x} z=>by
  cases x with
  | none=>simp [a0R] at z
  | some u=>simp [a0R] at z;rw [<- z.2];exact .same
 cases so <;> simp only [opA] at h
 case mv=>simp at h;rw [<- h.2];exact .same
 case pick=>split at h <;> simp at h <;> (rw [<- h.2];exact .same)
 case alloc=>simp at h;rw [<- h.2];exact .push _
 case box=>simp at h;rw [<- h.2];exact .push _
 case build=>exact c h
 case lit=>split at h <;> simp at h;rw [<- h.2];exact .push _
 case load=>exact c h
 case store n a x =>
  split at h
  ·rename_i p hp
   split at h
   ·cases h
   ·split at h
    ·rename_i F j
     simp at h;rw [<- h.2]
     unfold a0c.write? at j
     split at j
     ·rename_i e cs y
      split at j
      ·rename_i hc;cases j
       exact .set _ _ _ _ y (by simp [c0j,hp,blkOf]) hc.1
      ·cases j
     ·cases j
    ·cases h
  ·cases h
 case chk=>split at h <;> simp at h <;> (rw [<- h.2];exact .same)
 case bin=>exact c h
 case un=>exact c h
 case conv=>split at h <;> simp at h;rw [<- h.2];exact .same
 case iface=>simp at h;rw [<- h.2];exact .same
 case mkfn=>simp at h;rw [<- h.2];exact .same
 case mk =>
  split at h
  ·split at h <;> simp at h;rw [<- h.2];exact .push _
  ·cases h
 case sl => split at h; · cases h
            ·exact c h
 case fa => split at h
            ·split at h <;> simp at h;rw [<- h.2];exact .same
            ·cases h
 case fa0 =>
  split at h
  ·split at h
   ·split at h <;> simp at h;rw [<- h.2];exact .same
   ·cases h
  ·cases h
 case fld=>exact c h
 case ia =>
  split at h
  ·split at h <;> simp at h;rw [<- h.2];exact .same
  ·cases h
 case ext =>
  split at h
  ·exact c h
  ·cases h
 case call=>cases h
 case callv=>split at h <;> cases h
 case inv =>
  split at h
  ·split at h <;> cases h
  ·cases h
 case len=>split at h <;> simp at h;rw [<- h.2];exact .same
 case cap=>exact c h
 case appz=>split at h <;> simp at h;rw [<- h.2];exact .push _
 case mnx=>exact c h
 case mkmap=>simp at h;rw [<- h.2];exact .push _
 case look=>exact c h
 case mupd m i x =>
  split at h
  ·rename_i F j
   simp at h;rw [<- h.2]
   unfold k0E at j
   split at j
   ·rename_i b k n hp I
    split at j
    ·rename_i e cs y
     split at j
     ·rename_i hc
      simp only [N1z] at j
      obtain ⟨G,_,rfl⟩:=j
      exact .set _ _ _ _ y (by simp [c0j,hp,blkOf]) hc.1
     ·cases j
    ·cases j
   ·cases j
  ·cases h
 case sop=>exact c h
 case b2s=>exact c h
 case app e size bytes s x =>
  cases hap:n0w fl H e size bytes (ev t s) (ev t x) with
  | none=>simp [hap,f0P] at h
  | some r =>
   obtain ⟨L,J⟩:=r
   simp only [hap,f0P,OpRes.val.injEq] at h
   obtain ⟨rfl,rfl⟩:=h
   unfold n0w at hap
   split at hap
   ·rename_i base len cap M n N w e2
    split at hap
    ·cases hap;exact .same
    ·split at hap
     ·split at hap
      ·cases hap
      ·split at hap
       ·cases hap
       ·exact q0D hap fun p hp q=>by subst hp;simp only [c0j,w,blkW];rw [M1V q];simp
     ·cases hap
   ·rename_i base len cap b w e2
    split at hap
    ·cases hap;exact .same
    ·split at hap
     ·exact q0D hap fun p hp q=>by subst hp;simp only [c0j,w,blkW];rw [M1V q];simp
     ·cases hap
   ·cases hap
 case pan=>split at h <;> cases h
structure h0E (fl:Nat) (H H1:a0c):Prop where
 size:H.size<=H1.size
 low:∀ b,b < fl->H1.bk b=H.bk b
 kind:∀ b e cs,b < H.size->H1.bk b=.row false e cs->∃ cs0,H.bk b=.row false e cs0
 kindR:∀ b e cs,b < H.size->H1.bk b=.row true e cs->H.bk b=.row true e cs
theorem h0E.refl:h0E fl H H:=⟨M1U _,fun _ _=>rfl,fun _ _ cs _ h=>⟨cs,h⟩,fun _ _ _ _ h=>h⟩
theorem h0E.trans {c:Nat} {q:a0c} (h:h0E fl H H1) (k:h0E c H1 q) (u:fl<=c):h0E fl H q :=
 ⟨N1n h.size k.size,fun b hb=>(k.low b (by omega)).trans (h.low b hb),fun b e cs hb j=>by
  obtain ⟨r,s⟩:=k.kind b e cs (N1k hb h.size) j
  exact h.kind b e r hb s,fun b e cs hb j=>h.kindR b e cs hb (k.kindR b e cs (N1k hb h.size) j)⟩
theorem Turn.keep {ws:List Nat} (w:fl<=H.size) (h:Turn fl ws H H1):h0E fl H H1:=by
 cases h with
 | same=>exact h0E.refl
 | push r=>exact ⟨by simp,fun b hb=>by rw [a0z,M1V (by omega)],fun b e cs hb j=>by rw [a0z,M1V (by omega)] at j;exact ⟨cs,j⟩,fun b e cs hb j=>by rw [a0z,M1V (by omega)] at j;exact j⟩
 | set b e cs cs' h hb hf =>
  have q:=a0r h
  exact ⟨by simp,fun c hc=>by rw [a0I _ _ _ _ q,M1V (by omega)],fun c s k hc j=>by
   rw [a0I _ _ _ _ q] at j
   split at j
   ·rename_i u;subst u;cases j;exact ⟨cs,h⟩
   ·exact ⟨k,j⟩,fun c s k hc j=>by
   rw [a0I _ _ _ _ q] at j
   split at j
   ·cases j
   ·exact j⟩
 | move b e cs r h hb hf =>
  have q:=a0r h
  exact ⟨by simp,fun c hc=>by rw [a0z,M1V (by simp;omega),a0I _ _ _ _ q,M1V (by omega)],fun c s k hc j=>by
   rw [a0z,M1V (by simp;omega),a0I _ _ _ _ q] at j
   split at j
   ·cases j
   ·exact ⟨k,j⟩,fun c s k hc j=>by
   rw [a0z,M1V (by simp;omega),a0I _ _ _ _ q] at j
   split at j
   ·cases j
   ·exact j⟩
theorem Turn.changed {ws:List Nat} (h:Turn fl ws H H1) {b:Nat} (hb:b < H.size) (j:H1.bk b ≠ H.bk b):b ∈ ws:=by
 cases h with
 | same=>exact N1i rfl j
 | push r=>rw [a0z,M1V (by omega)] at j;exact N1i rfl j
 | set c e cs cs' h hc hf =>
  by_cases k:b=c
  ·subst k;exact hc
  ·rw [a0I _ _ _ _ (a0r h),M1V k] at j;exact N1i rfl j
 | move c e cs r h hc hf =>
  by_cases k:b=c
  ·subst k;exact hc
  ·rw [a0z,M1V (by simp;omega),a0I _ _ _ _ (a0r h),M1V k] at j;exact N1i rfl j
def i0t (call:Nat->FuncId->List Value->a0c->Res (Value × a0c)):Prop :=
 ∀ fl f args H v H1,call fl f args H=.ok (v,H1)->fl<=H.size->h0E fl H H1
section
variable {call:Nat->FuncId->List Value->a0c->Res (Value × a0c)} (hcall:i0t call)
include hcall
theorem k0M {v:Value} (j:fl<=H.size) (h:b0i call fl t H so=.ok (v,H1)):h0E fl H H1:=by
 unfold b0i at h
 split at h
 ·cases h
 ·cases h
 ·rename_i v' q k
  simp at h;obtain ⟨rfl,rfl⟩:=h
  exact (p0q k).keep j
 ·rename_i f args lone hc
  have c:=hcall _ _ _ _ _ _ h (by split <;> omega)
  exact ⟨c.size,fun b hb=>c.low b (by split <;> omega),c.kind,c.kindR⟩
theorem m0W:∀ (ops:List a0v) (t:a0U) (H:a0c),fl<=H.size->∀ {e c H1},f0h call fl ops t H=.fin e c H1->h0E fl H H1/\e=.normal
 | [],t,H,_,e,c,H1,h=>by simp [f0h] at h;obtain ⟨rfl,rfl,rfl⟩:=h;exact ⟨h0E.refl,rfl⟩
 | o :: r,t,H,hfl,e,c,H1,h=>by
  simp only [f0h] at h
  split at h
  ·split at h
   ·cases h
   ·cases h
   ·rename_i v j hs
    have k:=k0M hcall hfl hs
    obtain ⟨s,q⟩:=m0W r _ j (N1n hfl k.size) h
    exact ⟨k.trans s (M1U _),q⟩
  ·exact m0W r _ H hfl h
theorem f0J (bef:List Nat) (pairs:List (Nat × Nat)):∀ (ops:List a0v) (i:Nat) (t:a0U) (H:a0c) (p:Option (Nat × Value)) (c:List (List Nat × List Nat)),fl<=H.size ->
  ∀ {e j H1},b0T call fl bef pairs i ops t H p c=.fin e j H1->h0E fl H H1/\e=.normal
 | [],i,t,H,p,c,_,e,j,H1,h=>by
  simp only [b0T] at h
  split at h
  ·split at h
   ·cases h;exact ⟨h0E.refl,rfl⟩
   ·cases h
  ·cases h
 | o :: r,i,t,H,p,c,hfl,e,j,H1,h=>by
  simp only [b0T] at h
  split at h
  ·exact f0J bef pairs r _ _ H _ _ hfl h
  ·split at h
   ·split at h
    ·cases h
    ·split at h
     ·exact f0J bef pairs r _ _ H _ _ hfl h
     ·cases h
    ·rename_i v q hs
     have k:=k0M hcall hfl hs
     obtain ⟨u,s⟩:=f0J bef pairs r _ _ q _ _ (N1n hfl k.size) h
     exact ⟨k.trans u (M1U _),s⟩
   ·exact f0J bef pairs r _ _ H _ _ hfl h
theorem b0Z:∀ (n:Nat) (c:SCode) (t:a0U) (H:a0c),fl<=H.size->∀ {e r H1},a0K call fl n c t H=.fin e r H1->h0E fl H H1
 | 0,_,_,_,_,_,_,_,h=>by simp [a0K] at h
 | n + 1,c,t,H,hfl,e,r,H1,h=>by
  cases c <;> simp only [a0K] at h
  case skip=>cases h;exact h0E.refl
  case exit=>cases h;exact h0E.refl
  case ret=>cases h;exact h0E.refl
  case seq a b =>
   split at h
   ·rename_i q j s
    have k:=b0Z n a t H hfl s
    exact k.trans (b0Z n b q j (N1n hfl k.size) h) (M1U _)
   ·exact b0Z n a t H hfl h
  case cond c a b =>
   split at h
   ·exact b0Z n a t H hfl h
   ·exact b0Z n b t H hfl h
   ·cases h
  case block id c =>
   split at h
   ·rename_i u q j hc
    have k:=b0Z n c t H hfl hc
    split at h <;> (cases h;exact k)
   ·exact b0Z n c t H hfl h
  case loop c =>
   split at h
   ·rename_i q j hc
    have k:=b0Z n c t H hfl hc
    exact k.trans (b0Z n (.loop c) q j (N1n hfl k.size) h) (M1U _)
   ·exact b0Z n c t H hfl h
  case reg ops=>exact (m0W hcall ops t H hfl h).1
  case draw ops bef pairs=>exact (f0J hcall bef pairs ops 0 t H none [] hfl h).1
end
theorem h0E.pushes {fl:Nat}:∀ (bs:List Blk) (H:a0c),fl<=H.size->h0E fl H (AI.pushes H bs)
 | [],H,_=>h0E.refl
 | b :: bs,H,hf=>((Turn.push (fl:=fl) (ws:=[]) b).keep hf).trans (h0E.pushes bs (H.push b) (by simp;omega)) (M1U _)
theorem i0v (E:Env):∀ n,i0t (a0M E n)
 | 0=>fun _ _ _ _ _ _ h=>by simp [a0M] at h
 | n + 1=>fun fl f args H v H1 h c=>by
  simp only [a0M] at h
  split at h
  ·split at h
   ·simp at h;obtain ⟨_,rfl⟩:=h;exact h0E.pushes _ _ c
   split at h
   ·split at h
    ·split at h
     ·rename_i q w r p s
      split at h
      case isFalse=>cases h
      unfold d0I at h
      split at h
      ·cases h
      ·simp at h;obtain ⟨_,rfl⟩:=h;exact h0E.refl
      ·cases h
      ·rename_i vs j hc
       split at h
       ·split at h
        case isFalse=>cases h
        simp at h;obtain ⟨_,rfl⟩:=h
        have k:=i0v E n _ _ _ _ _ _ hc (by omega)
        exact ⟨k.size,fun b hb=>k.low b (by omega),k.kind,k.kindR⟩
       ·cases h
      ·cases h
     ·cases h
    ·cases h
   ·cases h
  ·split at h
   ·split at h
    ·cases h
    ·cases h
    ·rename_i e x j u
     have k:=b0Z (i0v E n) n _ _ H c u
     split at h
     ·cases h
     ·split at h
      ·simp at h;obtain ⟨_,rfl⟩:=h;exact k
      ·cases h
   ·cases h
end
section
variable {H H' H1 G G1:a0c} {fl:Nat} {t:a0U} {so:SOp}
structure Par (H H1 G G1:a0c):Prop where
 size:G1.size=H1.size
 same:∀ b,b < H.size->H1.bk b=H.bk b->G1.bk b=G.bk b
 diff:∀ b,b < H.size->H1.bk b ≠ H.bk b->G1.bk b=H1.bk b
 more:∀ b,H.size<=b->G1.bk b=H1.bk b
theorem i0W {H:a0c} {b:Nat} (h:H.size<=b):H.bk b=.dead:=by
 simp only [a0c.bk,M1Y]
 rw [O1i h];rfl
theorem Par.refl (hs:G.size=H.size):Par H H G G :=
 ⟨hs,fun _ _ _=>rfl,fun _ _ h=>N1i rfl h,fun b hb=>by rw [i0W hb,i0W (by omega)]⟩
theorem Par.push (hs:G.size=H.size) (r:Blk):Par H (H.push r) G (G.push r) :=
 ⟨by simp [hs],fun b hb _=>by rw [a0z,M1V (by omega)],fun b hb h=>by rw [a0z,M1V (by omega)] at h;exact N1i rfl h,fun b hb=>by
  rw [a0z,a0z,hs]
  split
  ·rfl
  ·rw [i0W (show G.size<=b by omega),i0W hb]⟩
theorem Par.set (hs:G.size=H.size) {c:Nat} (hc:c < H.size) (k:G.bk c=H.bk c) (r:Blk):Par H (H.setIfInBounds c r) G (G.setIfInBounds c r) :=
 ⟨by simp [hs],fun b hb h=>by
  rw [a0I _ _ _ _ hc] at h;rw [a0I _ _ _ _ (by omega)]
  split at h
  ·rename_i j;subst j;rw [M1Z rfl,h,k]
  ·rename_i j;rw [M1V j],fun b hb h=>by
  rw [a0I _ _ _ _ hc] at h ⊢;rw [a0I _ _ _ _ (by omega)]
  split at h
  ·rename_i j;rw [M1Z j,M1Z j]
  ·exact N1i rfl h,fun b hb=>by
  rw [a0I _ _ _ _ hc,a0I _ _ _ _ (by omega),M1V (by omega),M1V (by omega),i0W hb,i0W (by omega)]⟩
theorem Par.move (hs:G.size=H.size) {c:Nat} (hc:c < H.size) (q:G.bk c=H.bk c) (r s:Blk):Par H ((H.setIfInBounds c r).push s) G ((G.setIfInBounds c r).push s):=by
 have p:=Par.set hs hc q r
 have j:(H.setIfInBounds c r).size=H.size:=by simp
 have k:(G.setIfInBounds c r).size=G.size:=by simp
 refine ⟨by simp [hs],fun b hb h=>?_,fun b hb h=>?_,fun b hb=>?_⟩
 ·rw [a0z,M1V (by omega)] at h ⊢;exact p.same b hb h
 ·rw [a0z,M1V (by omega)] at h ⊢;rw [a0z,M1V (by omega)];exact p.diff b hb h
 ·rw [a0z,a0z,j,k,hs]
  split
  ·rfl
  ·exact p.more b hb
theorem f0Z {b off n:Nat} (h:G.bk b=H.bk b):G.cells? b off n=H.cells? b off n:=by unfold a0c.cells?;rw [h]
theorem n0V (hs:G.size=H.size) {e:TypeId} {size bytes len cap n:Nat} {base:Option Addr} {new:List Value} {w:Value} {u:a0c} (c:q0C fl H e size bytes base len cap n new=some (w,u))
  (q:∀ p,base=some p->¬ (len=0/\cap=0)->G.bk p.block=H.bk p.block):∃ G1,q0C fl G e size bytes base len cap n new=some (w,G1)/\Par H u G G1:=by
 unfold q0C at c ⊢
 split at c
 ·cases c
 rename_i r;rw [M1V r]
 split at c
 ·split at c
  ·rename_i z;cases c;rw [M1Z z,hs];exact ⟨_,rfl,Par.push hs _⟩
  ·cases c
 ·rename_i x
  try simp only []
  split at c
  ·rename_i h;cases c;rw [M1Z h,hs];exact ⟨_,rfl,Par.push hs _⟩
  rename_i h;rw [M1V h]
  have j:G.bk x.block=H.bk x.block:=q _ rfl h
  simp only [f0Z j]
  split at c
  ·cases c
  ·rename_i old s
   try simp only []
   split at c
   ·rename_i hc;cases c;rw [M1Z hc,hs];exact ⟨_,rfl,Par.push hs _⟩
   ·rename_i hc;rw [M1V hc,j]
    split at c
    ·rename_i F cs y
     try simp only []
     split at c
     ·rename_i k;cases c;rw [M1Z k,hs];exact ⟨_,rfl,Par.move hs (a0r y) j _ _⟩
     ·cases c
    ·cases c
theorem z0G {v:Value} (h:opA fl t H so=.val v H1) (hs:G.size=H.size) (q:∀ b,b ∈ (c0j t so).1 ∨ b ∈ (c0j t so).2->G.bk b=H.bk b) :
  ∃ G1,opA fl t G so=.val v G1/\Par H H1 G G1:=by
 have j:∀ {x y:Option Value},a0R H x=.val v H1->y=x->∃ G1,a0R G y=.val v G1/\Par H H1 G G1:=fun {x y} S U=>by
  subst U
  cases y with
  | none=>simp [a0R] at S
  | some u=>simp [a0R] at S;obtain ⟨rfl,rfl⟩:=S;exact ⟨G,rfl,Par.refl hs⟩
 cases so <;> simp only [opA] at h ⊢
 case mv=>simp at h;obtain ⟨rfl,rfl⟩:=h;exact ⟨G,rfl,Par.refl hs⟩
 case pick=>split at h <;> simp at h <;> (obtain ⟨rfl,rfl⟩:=h;exact ⟨G,rfl,Par.refl hs⟩)
 case alloc=>simp at h;obtain ⟨rfl,rfl⟩:=h;rw [hs];exact ⟨_,rfl,Par.push hs _⟩
 case box=>simp at h;obtain ⟨rfl,rfl⟩:=h;rw [hs];exact ⟨_,rfl,Par.push hs _⟩
 case build=>exact j h rfl
 case lit=>split at h <;> simp at h;obtain ⟨rfl,rfl⟩:=h;rw [hs];exact ⟨_,rfl,Par.push hs _⟩
 case load agg n a =>
  refine j h ?_
  unfold b0w
  split
  ·rename_i p hp
   have hb:G.bk p.block=H.bk p.block:=q _ (.inl (by simp [c0j,hp,blkOf]))
   rw [f0Z hb]
  ·rfl
 case store n a x =>
  split at h
  ·rename_i p hp
   have hb:G.bk p.block=H.bk p.block:=q _ (.inr (by simp [c0j,hp,blkOf]))
   split at h
   ·cases h
   ·rename_i hc
    rw [M1V hc]
    split at h
    ·rename_i H2 w
     simp at h;obtain ⟨rfl,rfl⟩:=h
     unfold a0c.write? at w ⊢
     rw [hb]
     split at w
     ·rename_i e cs R
      split at w
      ·rename_i Q;cases w
       rw [M1Z Q]
       exact ⟨_,rfl,Par.set hs (a0r R) hb _⟩
      ·cases w
     ·cases w
    ·cases h
  ·cases h
 case chk=>split at h <;> simp at h <;> (obtain ⟨rfl,rfl⟩:=h;exact ⟨G,rfl,Par.refl hs⟩)
 case bin=>exact j h rfl
 case un=>exact j h rfl
 case conv=>split at h <;> simp at h;obtain ⟨rfl,rfl⟩:=h;exact ⟨G,rfl,Par.refl hs⟩
 case iface=>simp at h;obtain ⟨rfl,rfl⟩:=h;exact ⟨G,rfl,Par.refl hs⟩
 case mkfn=>simp at h;obtain ⟨rfl,rfl⟩:=h;exact ⟨G,rfl,Par.refl hs⟩
 case mk =>
  split at h
  ·split at h
   ·rename_i hc;simp at h;obtain ⟨rfl,rfl⟩:=h;rw [M1Z hc,hs];exact ⟨_,rfl,Par.push hs _⟩
   ·cases h
  ·cases h
 case sl e size x lo hi mx =>
  have he:elemOk G e (ev t x)=elemOk H e (ev t x):=by
   unfold elemOk
   split
   ·rename_i p _ _ hp
    have hb:G.bk p.block=H.bk p.block:=q _ (.inl (by simp [c0j,hp,blkOf]))
    rw [hb]
   ·rfl
  rw [he]
  split at h
  ·cases h
  ·rename_i hc;rw [M1V hc];exact j h rfl
 case fa =>
  split at h
  ·split at h
   ·cases h
   ·rename_i hc;simp at h;obtain ⟨rfl,rfl⟩:=h;rw [M1V hc];exact ⟨G,rfl,Par.refl hs⟩
  ·cases h
 case fa0 e x =>
  split at h
  ·rename_i p hp
   have hb:G.bk p.block=H.bk p.block:=q _ (.inl (by simp [c0j,hp,blkOf]))
   rw [hb]
   split at h
   ·split at h
    ·rename_i hc;simp at h;obtain ⟨rfl,rfl⟩:=h;rw [M1Z hc];exact ⟨G,rfl,Par.refl hs⟩
    ·cases h
   ·cases h
  ·cases h
 case fld=>exact j h rfl
 case ia =>
  split at h
  ·split at h
   ·rename_i hc;simp at h;obtain ⟨rfl,rfl⟩:=h;rw [M1Z hc];exact ⟨G,rfl,Par.refl hs⟩
   ·cases h
  ·cases h
 case ext =>
  split at h
  ·exact j h rfl
  ·cases h
 case call=>cases h
 case callv=>split at h <;> cases h
 case inv =>
  split at h
  ·split at h <;> cases h
  ·cases h
 case len=>split at h <;> simp at h;obtain ⟨rfl,rfl⟩:=h;exact ⟨G,rfl,Par.refl hs⟩
 case cap=>exact j h rfl
 case appz=>split at h <;> simp at h;obtain ⟨rfl,rfl⟩:=h;rw [hs];exact ⟨_,rfl,Par.push hs _⟩
 case mnx=>exact j h rfl
 case mkmap=>simp at h;obtain ⟨rfl,rfl⟩:=h;rw [hs];exact ⟨_,rfl,Par.push hs _⟩
 case look z x i =>
  refine j h ?_
  unfold p0g
  split
  ·rename_i b k n hp F
   have hb:G.bk b=H.bk b:=q _ (.inl (by simp [c0j,hp,blkOf]))
   rw [hb]
  ·rfl
 case mupd m i x =>
  split at h
  ·rename_i H2 w
   simp at h;obtain ⟨rfl,rfl⟩:=h
   unfold k0E at w ⊢
   split at w
   ·rename_i b k n hp F
    have hb:G.bk b=H.bk b:=q _ (.inr (by simp [c0j,hp,blkOf]))
    rw [hb]
    split at w
    ·rename_i e cs R
     split at w
     ·rename_i hc
      simp only [N1z] at w
      obtain ⟨a0,L,rfl⟩:=w
      try simp only []
      rw [M1Z hc,L]
      exact ⟨_,rfl,Par.set hs (a0r R) hb _⟩
     ·cases w
    ·cases w
   ·cases w
  ·cases h
 case sop=>exact j h rfl
 case b2s x =>
  refine j h ?_
  unfold v1a
  split
  ·rfl
  ·rename_i p n c hp
   have hb:G.bk p.block=H.bk p.block:=q _ (.inl (by simp [c0j,hp,blkOf]))
   rw [f0Z hb]
  ·rfl
 case app e size bytes s x =>
  cases hap:n0w fl H e size bytes (ev t s) (ev t x) with
  | none=>simp [hap,f0P] at h
  | some r =>
   obtain ⟨rv,rH⟩:=r
   simp only [hap,f0P,OpRes.val.injEq] at h
   obtain ⟨rfl,rfl⟩:=h
   unfold n0w at hap ⊢
   split at hap
   ·rename_i base len cap xb n xc M e2
    split at hap
    ·rename_i F;cases hap;rw [M1Z F];exact ⟨G,rfl,Par.refl hs⟩
    ·rename_i F;rw [M1V F]
     split at hap
     ·rename_i J;rw [M1Z J]
      split at hap
      ·cases hap
      ·rename_i Z
       have O:G.bk Z.block=H.bk Z.block:=q _ (.inl (by simp [c0j,e2,blkOf]))
       simp only [f0Z O]
       split at hap
       ·cases hap
       ·rename_i new Y
        try simp only []
        obtain ⟨G1,L,N⟩:=n0V hs hap fun p hp I=>q _ (.inr (by subst hp;simp only [c0j,M,blkW];rw [M1V I];simp))
        exact ⟨G1,by rw [L];rfl,N⟩
     ·cases hap
   ·rename_i base len cap b M e2
    split at hap
    ·rename_i F;cases hap;rw [M1Z F];exact ⟨G,rfl,Par.refl hs⟩
    ·rename_i F;rw [M1V F]
     split at hap
     ·rename_i J;rw [M1Z J]
      obtain ⟨G1,L,N⟩:=n0V hs hap fun p hp I=>q _ (.inr (by subst hp;simp only [c0j,M,blkW];rw [M1V I];simp))
      exact ⟨G1,by rw [L];rfl,N⟩
     ·cases hap
   ·cases hap
 case pan=>split at h <;> cases h
theorem j0b {f:FuncId} {args:List Value} {l:Bool} (h:opA fl t H so=.call f args l):∀ fl G,opA fl t G so=.call f args l:=by
 intro fl' G
 cases so <;> simp only [opA] at h ⊢
 case call=>simpa using h
 case callv=>split at h <;> simp_all
 case inv =>
  split at h
  ·split at h <;> simp_all
  ·cases h
 case ext=>split at h;(unfold a0R at h;split at h <;> cases h);cases h
 case app=>unfold f0P at h;split at h <;> cases h
 case store=>split at h;(split at h;cases h;(split at h <;> cases h));cases h
 case fa0=>split at h;(split at h;(split at h <;> cases h);cases h);cases h
 case sl=>split at h;cases h;(unfold a0R at h;split at h <;> cases h)
 all_goals first
  | (simp at h;done)
  | (unfold a0R at h;split at h <;> cases h)
  | (split at h <;> first | (cases h;done) | (split at h <;> cases h))
theorem g0j {v:Value} (h:opA fl t H so=.pan v):(∃ c u,v=.iface c u)/\∃ x,so=.pan x/\ev t x=v:=by
 cases so <;> simp only [opA] at h
 case pan x=>split at h <;> cases h;rename_i c u j;exact ⟨⟨_,_,rfl⟩,x,rfl,j⟩
 case call=>cases h
 case callv=>split at h <;> cases h
 case inv =>
  split at h
  ·split at h <;> cases h
  ·cases h
 case ext=>split at h;(unfold a0R at h;split at h <;> cases h);cases h
 case app=>unfold f0P at h;split at h <;> cases h
 case store=>split at h;(split at h;cases h;(split at h <;> cases h));cases h
 case fa0=>split at h;(split at h;(split at h <;> cases h);cases h);cases h
 case sl=>split at h;cases h;(unfold a0R at h;split at h <;> cases h)
 all_goals first
  | (simp at h;done)
  | (unfold a0R at h;split at h <;> cases h)
  | (split at h <;> first | (cases h;done) | (split at h <;> cases h))
end
section
variable {X:Cx} {φ φ':Inj} {S:Shp} {H H':a0c} {w w':World} {fl:Nat} {t:a0U} {a:Act} {o:Oper} {so:SOp} {lone:Bool}
structure Pan (X:Cx) (fl:Nat) (φ:Inj) (H:a0c) (w:World) (w':World):Prop where
 shp:∀ B x,(shq w) B=some x->(shq w') B=some x
 wsz:w.heap.size<=w'.heap.size
 os:w'.os=w.os
 tape:w'.tape=w.tape
 out:w'.output=w.output
 frame:∀ B,B < w.heap.size->(∀ b o e cs,φ b=some (B,o)->fl<=b->H.bk b ≠ .row false e cs)->w'.heap[B]? = w.heap[B]?
theorem Pan.after {q:Nat} {s:Inj} {H1:a0c} {z F:World} (h:b0R X fl φ H w s H1 z) (k:Pan X q s H1 z F) (R:fl<=q) (O:Rel X φ H w):Pan X fl φ H w F :=
 { shp := fun B x hb => k.shp _ _ (h.shp _ _ hb)
   wsz:=N1n h.wsz k.wsz
   os:=k.os.trans h.os
   tape:=k.tape.trans h.tape
   out:=k.out.trans h.out
   frame:=fun B hB j=>by
    rw [k.frame B (N1k hB h.wsz) ?_,h.frame B hB j]
    intro b o e cs hb N r
    cases h1:φ b with
    | none =>
     rcases h.newB b B o hb h1 with u | ⟨G,Q,I,c,u,J,L⟩
     ·omega
     ·exact j G Q I c u J L
    | some y =>
     have:=h.ext b y h1
     rw [hb] at this;cases this
     obtain ⟨c,M⟩:=h.kind b e cs (O.lt b _ h1) r
     exact j b o e c h1 (by omega) M }
theorem b0R.lower {c:Nat} (h:b0R X c φ H w φ' H' w') (z:fl<=c):b0R X fl φ H w φ' H' w' :=
 { h with
   keep:=fun b hb=>h.keep b (by omega)
   newB:=fun b B o hb u=>by
    rcases h.newB b B o hb u with j | ⟨q,x,e,cs,j,y,r⟩
    ·exact .inl j
    ·exact .inr ⟨q,x,e,cs,j,by omega,r⟩
   frame:=fun B hB k=>h.frame B hB (fun b o e cs hb s=>k b o e cs hb (by omega)) }
theorem Pan.lower {c:Nat} (h:Pan X c φ H w w') (q:fl<=c):Pan X fl φ H w w' :=
 { h with frame:=fun B hB j=>h.frame B hB (fun b o e cs hb k=>j b o e cs hb (by omega)) }
theorem Pan.same:Pan X fl φ H w w:=⟨fun _ _ h=>h,M1U _,rfl,rfl,rfl,fun _ _ _=>rfl⟩
def H1O:XA->Exit
 | .normal=>.normal
 | .exit id=>.exit id
 | .ret=>.ret
def y0a (X:Cx) (D:List Deferred) (fl:Nat) (φ:Inj) (H:a0c) (w:World):Out->Exit->Act->World->Prop
 | .bad,_,_,_=>False
 | .pan _,e,a',w'=>(∃ ty u,e=.panic [{ v:=.iface ty u,recovered:=false }])/\a'.defers=D/\Pan X fl φ H w w'
 | .fin x t' H',e,a',w'=>e=H1O x/\a'.defers=D/\∃ φ',CR X φ' (shq w') t' a'.tmps.toList/\b0R X fl φ H w φ' H' w'
theorem y0a.after {D:List Deferred} {c:Inj} {H1:a0c} {r s:World} {out:Out} {e:Exit} {j:Act} (h:b0R X fl φ H w c H1 r) (q:Rel X φ H w) (k:y0a X D fl c H1 r out e j s):y0a X D fl φ H w out e j s:=by
 cases out with
 | bad=>exact k
 | pan v=>exact ⟨k.1,k.2.1,Pan.after h k.2.2 (M1U _) q⟩
 | fin x t' H' =>
  obtain ⟨u,y,φ',z,F⟩:=k
  exact ⟨u,y,φ',z,h.trans F (M1U _) q⟩
def b0x (X:Cx) (call:Nat->FuncId->List Value->a0c->Res (Value × a0c)):Prop :=
 ∀ (fl:Nat) (f:FuncId) (args:List Value) (H:a0c) (φ:Inj) (w:World) (args':Array Value),Rel X φ H w->CR X φ (shq w) args args'.toList->fl<=H.size ->
  (∀ v H',call fl f args H=.ok (v,H')->s0q X.P f=true/\Calls X.P f args' w fun e w'=>∃ v' φ',e=.returned v'/\VR X φ' (shq w') v v'/\b0R X fl φ H w φ' H' w') /\
  (∀ v,call fl f args H=.pan v->(∃ ty u,v=.iface ty u)/\s0q X.P f=true /\
   Calls X.P f args' w fun e w'=>(∃ ty u,e=.panicked [{ v:=.iface ty u,recovered:=false }])/\Pan X fl φ H w w')
section
variable {call:Nat->FuncId->List Value->a0c->Res (Value × a0c)}
theorem w0H {P:Program} {op:Op} {x:Opd} (hc:cOp P lone op=some (.pan x)):∃ j,op=.panic j/\b0s j=some x:=by
 cases op
 case panic j =>
  simp only [cOp,M1S,M1P,M1T,M1Q,SOp.pan.injEq] at hc
  obtain ⟨s,q,rfl⟩:=hc
  exact ⟨j,rfl,q⟩
 case makeMap ty r=>cases r <;> simp [cOp] at hc
 case mapUpdate =>
  exfalso
  simp only [cOp] at hc
  split at hc
  ·split at hc
   ·simp [M1P] at hc
   ·cases hc
  ·cases hc
 case lookup ty x i ok =>
  exfalso
  cases ok with
  | true=>simp [cOp] at hc
  | false =>
   simp only [cOp] at hc
   split at hc
   ·split at hc
    ·split at hc
     ·split at hc
      ·simp [M1P] at hc
      ·cases hc
     ·cases hc
    ·cases hc
   ·cases hc
 case call c =>
  exfalso
  obtain ⟨h,args,k⟩:=c
  cases h with
  | value f=>cases f <;> simp only [cOp] at hc <;> (try split at hc) <;> simp [M1P] at hc
  | invoke r n=>simp [cOp,M1P] at hc
  | builtin b =>
   simp only [cOp] at hc
   split at hc
   ·split at hc
    ·simp [M1P] at hc
    ·simp [M1P] at hc
   ·simp [M1P] at hc
   ·simp [M1P] at hc
   ·simp [M1P] at hc
   ·simp only [M1S,M1P] at hc
    obtain ⟨_,_,_,_,_,_,hc⟩:=hc
    split at hc
    ·simp [M1P] at hc
    ·split at hc
     ·simp [M1P] at hc
     ·cases hc
   ·cases hc
 all_goals
  exfalso
  simp only [cOp,N1z,M1S,M1P,M1T,M1Q,reduceCtorEq,and_false,exists_const,exists_false] at hc
  try (repeat' (first | (simp only [M1P,M1Q,reduceCtorEq,and_false,exists_const,exists_false] at hc;done) | (obtain ⟨_,_,hc⟩:=hc) | (split at hc)))
theorem u0O {P:Program} {K K':Act->World->Prop} {Q Q':Exit->Act->World->Prop} (j:∀ a w,K a w->K' a w) (k:∀ e a w,Q e a w->Q' e a w) (h:o.wp P a w K Q):o.wp P a w K' Q':=by
 unfold Oper.wp at *
 generalize (execOp a.eval o).run P w=r at *
 cases r with
 | ok n w' =>
  cases n <;> simp only [Oper.upon] at h ⊢ <;>
   first
    | exact j _ _ h
    | exact Calls.mono h (fun e u c=>by cases e <;> first | exact j _ _ c | exact k _ _ _ c | (obtain ⟨q,y,s⟩:=c;exact ⟨q,y,k _ _ _ s⟩))
    | exact Rows.mono h (fun _ _ c=>j _ _ c)
 | halt x w'=>cases x <;> simp only [Oper.upon] at h ⊢ <;> exact k _ _ _ h
theorem LetsOut.mo {Q Q':Exit->Act->World->Prop} (k:∀ e a w,Q e a w->Q' e a w) (h:LetsOut Q):LetsOut Q':=by
 obtain ⟨c,q,j⟩:=h;exact ⟨c,q,k _ _ _ j⟩
theorem c0F {P:Program} {ops:Array Oper} {Q Q':Exit->Act->World->Prop} (c:∀ e a w,Q e a w->Q' e a w):∀ {l:List Nat} {a:Act} {w:World},wpOps P ops Q l a w->wpOps P ops Q' l a w
 | [],_,_,h=>c _ _ _ h
 | i :: r,a,w,h=>by
  unfold wpOps at h ⊢
  split at h
  ·exact c0F c h
  ·split at h
   ·rename_i j
    rw [M1Z j]
    rcases h with h | ⟨k,q⟩
    ·exact .inl (u0O (fun _ _ h=>c0F c h) c h)
    ·exact .inr ⟨k,LetsOut.mo c q⟩
   ·rename_i j
    rw [M1V j]
    exact c0F c h
theorem l0Q (hcall:b0x X call) (hc:cOp X.P lone o.op=some so) (I:(a0g so).all a0s=true) (hR:Rel X φ H w) (hT:CR X φ (shq w) t a.tmps.toList) (F:fl<=H.size)
  {v:Value} (h:b0i call fl t H so=.ok (v,H')) {K:Act->World->Prop} {Q:Exit->Act->World->Prop} (x:Act) (J:execOp x.eval o=execOp a.eval o)
  (y:∀ φ' v' w',VR X φ' (shq w') v v'->b0R X fl φ H w φ' H' w'->K (x.put o.dst v') w'):o.wp X.P x w K Q:=by
 unfold b0i at h
 unfold Oper.wp
 rw [J]
 split at h
 ·cases h
 ·cases h
 ·rename_i L H1 G
  simp only [Res.ok.injEq,N1V] at h;obtain ⟨rfl,rfl⟩:=h
  obtain ⟨φ',w',v',s,k,j⟩:=w1o hc I hR hT F G
  rcases s with s | ⟨rfl,s⟩
  ·rw [s];exact y φ' v' w' k j
  ·rw [s];exact y φ' _ w' k j
 ·rename_i f args l G
  obtain ⟨q,z,u⟩:=z0H hc I hT G
  obtain ⟨r,c⟩:=(hcall _ f args H φ w q hR z (show (if l=true then fl else max fl H.size)<=H.size by split <;> omega)).1 v H' h
  rw [u,c0W r]
  refine Calls.mono c ?_
  rintro e w' ⟨v',φ',rfl,k,j⟩
  exact y φ' v' w' k (j.lower (by split <;> omega))
theorem s0g (hcall:b0x X call) (hc:cOp X.P lone o.op=some so) (G:(a0g so).all a0s=true) (hR:Rel X φ H w) (hT:CR X φ (shq w) t a.tmps.toList) (L:fl<=H.size)
  {v:Value} (h:b0i call fl t H so=.pan v) {K:Act->World->Prop} {Q:Exit->Act->World->Prop} (y:Act) (J:execOp y.eval o=execOp a.eval o)
  (F:∀ r u w',Pan X fl φ H w w'->Q (.panic [{ v:=.iface r u,recovered:=false }]) y w'):o.wp X.P y w K Q:=by
 unfold b0i at h
 unfold Oper.wp
 rw [J]
 split at h
 ·cases h
 ·rename_i R q
  obtain ⟨⟨r,u,rfl⟩,x,rfl,N⟩:=g0j q
  obtain ⟨O,ho,I⟩:=w0H hc
  have q:=a0V hT I (by simpa [a0g] using G)
  rw [N] at q
  generalize M:a.eval O=g at q
  cases q with
  | iface _ _ u' hu =>
   have:(execOp a.eval o).run X.P w=.halt (.panic (.iface r u')) w:=by simp [execOp,ho,M,Instr.panic,goPanic]
   rw [this]
   exact F r u' w Pan.same
 ·cases h
 ·rename_i f args l q
  obtain ⟨j,z,s⟩:=z0H hc G hT q
  obtain ⟨_,k,c⟩:=(hcall _ f args H φ w j hR z (show (if l=true then fl else max fl H.size)<=H.size by split <;> omega)).2 v h
  rw [s,c0W k]
  refine Calls.mono c ?_
  rintro e w' ⟨⟨r,u,rfl⟩,hp⟩
  exact F r u w' (hp.lower (by split <;> omega))
theorem n0p {ops:Array Oper} {k:a0v} (hc:g0V X.P ops lone o=some k) (hT:∀ d c,k.g=some (d,c)->VR X φ S (get t d) (a.tmps.getD d undef)):Region.wanted o (yielded ops a.tmps)=a0Q t k.g:=by
 unfold g0V at hc
 simp only [M1S,M1P] at hc
 obtain ⟨op,_,hc⟩:=hc
 split at hc
 ·split at hc
  ·rename_i r
   simp only [M1T,M1Q] at hc;subst hc
   simp [Region.wanted,r,a0Q]
  ·rename_i j c r
   simp only [M1S,M1P,M1T,M1Q] at hc
   obtain ⟨y,w,d,x,rfl⟩:=hc
   have h:=hT d c rfl
   simp only [Region.wanted,r,a0Q,yielded,w,Option.bind_some,x,get]
   simp only [get] at h
   have s:a.tmps.getD d undef=(a.tmps[d]?).getD undef:=by simp
   rw [s] at h
   cases hd:a.tmps[d]? with
   | none =>
    rw [hd] at h
    simp only [Option.getD_none] at h
    generalize t.getD d undef=q at h ⊢
    cases h;rfl
   | some u =>
    rw [hd] at h
    simp only [N1D] at h
    generalize t.getD d undef=q at h ⊢
    cases h <;> first | rfl | simp
 ·cases hc
theorem o0J {ops:Array Oper} {c:a0v} (hc:g0V X.P ops lone o=some c) (hT:CR X φ (shq w) t a.tmps.toList):Region.wanted o (yielded ops a.tmps)=a0Q t c.g :=
 n0p hc (fun d _ _=>by rw [a0E];exact hT.get d)
theorem c0T {ops:Array Oper} {c:a0v} (hc:g0V X.P ops lone o=some c):cOp X.P lone o.op=some c.op/\(a0g c.op).all a0s=true/\c.dst=o.dst:=by
 unfold g0V at hc
 simp only [M1S,M1P] at hc
 obtain ⟨op,h,hc⟩:=hc
 split at hc
 ·rename_i j
  split at hc
  ·simp only [M1T,M1Q] at hc;subst hc;exact ⟨h,j,rfl⟩
  ·simp only [M1S,M1P,M1T,M1Q] at hc
   obtain ⟨k,_,d,_,rfl⟩:=hc
   exact ⟨h,j,rfl⟩
 ·cases hc
theorem q0i (hcall:b0x X call) {D:List Deferred} {ops:Array Oper}:∀ (r:List a0v) (k:Nat) (t:a0U) (H:a0c) (φ:Inj) (w:World) (a:Act),
  (∀ i s,r[i]? = some s->∃ o,ops[k + i]? = some o/\g0V X.P ops true o=some s)->Rel X φ H w->CR X φ (shq w) t a.tmps.toList->fl<=H.size->a.defers=D->f0h call fl r t H ≠ .bad ->
  wpOps X.P ops (y0a X D fl φ H w (f0h call fl r t H)) (List.range' k r.length) a w
 | [],k,t,H,φ,w,a,_,hR,hT,_,hd,_=>⟨rfl,hd,φ,hT,b0R.refl hR⟩
 | s :: r,k,t,H,φ,w,a,hops,hR,hT,hfl,hd,hne=>by
  obtain ⟨o,ho,x⟩:=hops 0 s rfl
  simp only [N1O] at ho
  obtain ⟨hc,I,q⟩:=c0T x
  have J:=o0J x hT
  have c:∀ i y,r[i]? = some y->∃ o,ops[k + 1 + i]? = some o/\g0V X.P ops true o=some y:=fun i y hi=>by
   obtain ⟨N,L,z⟩:=hops (i + 1) y (by simpa using hi)
   exact ⟨N,by rw [<- L];congr 1;omega,z⟩
  rw [N1I,O1Z]
  unfold wpOps
  simp only [ho]
  simp only [f0h] at hne ⊢
  by_cases j:a0Q t s.g=true
  ·rw [J,M1Z j]
   simp only [j,N1E] at hne ⊢
   refine .inl ?_
   cases hs:b0i call fl t H s.op with
   | bad=>simp [hs] at hne
   | pan v =>
    simp only [hs] at hne ⊢
    exact s0g hcall hc I hR hT hfl hs a rfl (fun O u w' hp=>⟨⟨O,u,rfl⟩,hd,hp⟩)
   | ok vH =>
    obtain ⟨v,H1⟩:=vH
    simp only [hs] at hne ⊢
    refine l0Q hcall hc I hR hT hfl hs a rfl (fun φ' v' w' G h=>?_)
    have F:CR X φ' (shq w') t a.tmps.toList:=hT.mo h.ext h.shp
    have M:=q0i hcall (D:=D) r (k + 1) (put t s.dst v) H1 φ' w' (a.put o.dst v') c h.rel (by rw [q];exact j0B F G o.dst) (N1n hfl h.hsz) (by rw [c0l];exact hd) hne
    exact c0F (fun e Q R z=>y0a.after h hR z) M
  ·rw [J,M1V j]
   simp only [Bool.not_eq_true] at j
   simp only [j,N1g,N1G] at hne ⊢
   exact q0i hcall (D:=D) r (k + 1) (put t s.dst undef) H φ w (a.put o.dst undef) c hR (by rw [q];exact j0B hT VR.undef o.dst) hfl (by rw [c0l];exact hd) hne
end
end
section
variable {X:Cx} {φ φ':Inj} {S:Shp} {H H':a0c} {w w':World} {fl:Nat} {t:a0U} {a:Act}
section
variable {call:Nat->FuncId->List Value->a0c->Res (Value × a0c)}
def q0y (X:Cx) (call:Nat->FuncId->List Value->a0c->Res (Value × a0c)):Prop :=
 ∀ (ops:Array Oper) (l:List a0v) (bef:List Nat) (pairs:List (Nat × Nat)),y0j X.P ops=some (.draw l bef pairs) ->
  ∀ (D:List Deferred) (fl:Nat) (t:a0U) (H:a0c) (φ:Inj) (w:World) (a:Act),Rel X φ H w->CR X φ (shq w) t a.tmps.toList->fl<=H.size->a.defers=D ->
   b0T call fl bef pairs 0 l t H none [] ≠ .bad->∀ id,(Code.region id ops true).wp X.P (y0a X D fl φ H w (b0T call fl bef pairs 0 l t H none [])) a w
def k0U (P:Program) (c:Code) (Q:Exit->Act->World->Prop) (a:Act) (w:World):Prop :=
 ∀ (b:Frame) (k:List Item) (cs:List Frame),∃ e a' w',Q e a' w'/\Arrives P (lone (b.at a (.code c :: .inLoop c :: k)) cs w) b k cs e a' w'
theorem k0U.wp {P:Program} {c:Code} {Q:Exit->Act->World->Prop} (h:k0U P c Q a w):(Code.loop c).wp P Q a w :=
 fun b k cs=>let ⟨e,j,w',q,r⟩:=h b k cs;⟨e,j,w',q,.of_steps (.one step_loop) r⟩
theorem k0U.round {P:Program} {c:Code} {Q:Exit->Act->World->Prop} (h:c.wp P (Exit.then (k0U P c Q) Q) a w):k0U P c Q a w:=by
 intro b k cs
 obtain ⟨e,q,r,y,j⟩:=h b (.inLoop c :: k) cs
 cases e with
 | normal =>
  obtain ⟨F,z,G,u,s⟩:=y b k cs
  exact ⟨F,z,G,u,.of_steps (Steps.trans j (.one step_inLoop)) s⟩
 | exit id=>exact ⟨_,q,r,y,.pass (x:=.inLoop c) rfl (fun _ _=>.inl (by simp)) j⟩
 | goto l=>exact ⟨_,q,r,y,.pass (x:=.inLoop c) rfl (fun _ _=>.inl (by simp)) j⟩
 | ret=>exact ⟨_,q,r,y,.pass (x:=.inLoop c) rfl (fun _ _=>.inl (by simp)) j⟩
 | panic ch=>exact ⟨_,q,r,y,.pass (x:=.inLoop c) rfl (fun _ _=>.inl (by simp)) j⟩
 | outgrown=>exact ⟨_,q,r,y,.pass (x:=.inLoop c) rfl (fun _ _=>.inl (by simp)) j⟩
def wpx (P:Program) (c:Code) (Q:Exit->Act->World->Prop) (a:Act) (w:World):Prop :=
 match c with
 | .loop d=>k0U P d Q a w
 | c=>c.wp P Q a w
theorem wpx.wp {P:Program} {c:Code} {Q:Exit->Act->World->Prop} (h:wpx P c Q a w):c.wp P Q a w:=by
 cases c <;> first | exact k0U.wp h | exact h
theorem l0M {α c:Type} {f:α->Option c}:∀ {l:List α} {r:List c},l.mapM f=some r->∀ (i:Nat) (y:c),r[i]? = some y->∃ x,l[i]? = some x/\f x=some y
 | [],r,h,i,y,hi=>by simp at h;subst h;simp at hi
 | x :: l,r,h,i,y,hi=>by
  rw [O1M] at h
  simp only [M1S,M1P,M1T,M1Q] at h
  obtain ⟨b,j,bs,k,rfl⟩:=h
  cases i with
  | zero=>simp at hi;subst hi;exact ⟨x,rfl,j⟩
  | succ i=>obtain ⟨u,q,s⟩:=l0M k i y (by simpa using hi);exact ⟨u,by simpa using q,s⟩
theorem j0T {α c:Type} {f:α->Option c}:∀ {l:List α} {r:List c},l.mapM f=some r->r.length=l.length
 | [],r,h=>by simp at h;subst h;rfl
 | x :: l,r,h=>by
  rw [O1M] at h
  simp only [M1S,M1P,M1T,M1Q] at h
  obtain ⟨b,k,bs,j,rfl⟩:=h
  simp [j0T j]
theorem d0h (hcall:b0x X call) (j:q0y X call) {D:List Deferred}:∀ (n:Nat) (c:Code) (c':SCode) (fl:Nat) (t:a0U) (H:a0c) (φ:Inj) (w:World) (a:Act),d0f X.P c=some c'->Rel X φ H w ->
  CR X φ (shq w) t a.tmps.toList->fl<=H.size->a.defers=D->a0K call fl n c' t H ≠ .bad->wpx X.P c (y0a X D fl φ H w (a0K call fl n c' t H)) a w
 | 0,c,c',fl,t,H,φ,w,a,_,_,_,_,_,hne=>N1i rfl hne
 | n + 1,c,c',fl,t,H,φ,w,a,hc,hR,hT,hfl,hd,hne=>by
  cases c with
  | skip =>
   simp only [d0f,M1Q] at hc;subst hc
   exact wp_skip ⟨rfl,hd,φ,hT,b0R.refl hR⟩
  | label l =>
   simp only [d0f,M1Q] at hc;subst hc
   exact wp_label ⟨rfl,hd,φ,hT,b0R.refl hR⟩
  | exit id =>
   simp only [d0f,M1Q] at hc;subst hc
   exact wp_exit ⟨rfl,hd,φ,hT,b0R.refl hR⟩
  | ret =>
   simp only [d0f,M1Q] at hc;subst hc
   exact wp_ret ⟨rfl,hd,φ,hT,b0R.refl hR⟩
  | seq x y =>
   simp only [d0f,M1S,M1P,M1T,M1Q] at hc
   obtain ⟨G,N,y',hy,rfl⟩:=hc
   have I:a0K call fl n G t H ≠ .bad:=fun e=>hne (by simp [a0K,e])
   have M:=(d0h hcall j n x G fl t H φ w a N hR hT hfl hd I).wp
   refine wp_seq (wp_mono M ?_)
   intro e S U hp
   simp only [a0K]
   cases hr:a0K call fl n G t H with
   | bad=>exact N1i hr I
   | pan v =>
    rw [hr] at hp
    obtain ⟨⟨ty,u,rfl⟩,J,O⟩:=hp
    exact ⟨⟨ty,u,rfl⟩,J,O⟩
   | fin xx t1 H1 =>
    rw [hr] at hp
    obtain ⟨rfl,z,F,r,q⟩:=hp
    cases xx with
    | normal =>
     have L:a0K call fl n y' t1 H1 ≠ .bad:=fun e=>hne (by simp [a0K,hr,e])
     have R:=(d0h hcall j n y y' fl t1 H1 F U S hy q.rel r (N1n hfl q.hsz) z L).wp
     exact wp_mono R (fun e a2 w2 J=>y0a.after q hR J)
    | exit id=>exact ⟨rfl,z,F,r,q⟩
    | ret=>exact ⟨rfl,z,F,r,q⟩
  | cond c x y =>
   simp only [d0f,M1S,M1P,M1T,M1Q] at hc
   obtain ⟨c',a3,hc⟩:=hc
   split at hc
   ·rename_i Q
    simp only [M1P,M1Q] at hc
    obtain ⟨G,N,y',hy,rfl⟩:=hc
    have hv:=a0V hT a3 Q
    simp only [a0K] at hne ⊢
    generalize hg:a.eval c=g at hv
    split at hne
    ·rename_i hb
     rw [hb] at hv;cases hv
     exact wp_cond_true hg (d0h hcall j n x G fl t H φ w a N hR hT hfl hd hne).wp
    ·rename_i hb
     rw [hb] at hv;cases hv
     exact wp_cond_false hg (d0h hcall j n y y' fl t H φ w a hy hR hT hfl hd hne).wp
    ·exact N1i rfl hne
   ·cases hc
  | block id c =>
   simp only [d0f,M1S,M1P,M1T,M1Q] at hc
   obtain ⟨G,N,rfl⟩:=hc
   have I:a0K call fl n G t H ≠ .bad:=fun e=>hne (by simp [a0K,e])
   have M:=(d0h hcall j n c G fl t H φ w a N hR hT hfl hd I).wp
   refine wp_block (wp_mono M ?_)
   intro e S U hp
   simp only [a0K]
   cases hr:a0K call fl n G t H with
   | bad=>exact N1i hr I
   | pan v =>
    rw [hr] at hp
    obtain ⟨⟨ty,u,rfl⟩,J,O⟩:=hp
    exact ⟨⟨ty,u,rfl⟩,J,O⟩
   | fin xx t1 H1 =>
    rw [hr] at hp
    obtain ⟨rfl,z,F,r,q⟩:=hp
    cases xx with
    | normal=>exact ⟨rfl,z,F,r,q⟩
    | ret=>exact ⟨rfl,z,F,r,q⟩
    | exit id' =>
     show Exit.inBlock id _ (.exit id') S U
     unfold Exit.inBlock
     by_cases Y:id' = id
     ·simp only [Y,N1E];exact ⟨rfl,z,F,r,q⟩
     ·simp only [Y,N1G];exact ⟨rfl,z,F,r,q⟩
  | scope c =>
   simp only [d0f,M1S,M1P,M1T,M1Q] at hc
   obtain ⟨G,N,rfl⟩:=hc
   have e1:a0K call fl (n + 1) (.seq .skip G) t H=a0K call fl n G t H:=by
    cases n with
    | zero=>exact N1i rfl hne
    | succ m=>rfl
   rw [e1] at hne ⊢
   refine wp_scope_straight (wp_mono (d0h hcall j n c G fl t H φ w a N hR hT hfl hd hne).wp ?_)
   intro e S U hp
   cases e with
   | goto l =>
    exfalso
    cases hr:a0K call fl n G t H with
    | bad=>exact hne hr
    | pan v=>rw [hr] at hp;exact N1i hp (by simp [y0a])
    | fin xx t1 H1=>rw [hr] at hp;obtain ⟨h,_⟩:=hp;cases xx <;> cases h
   | _=>exact hp
  | loop c =>
   simp only [d0f,M1S,M1P,M1T,M1Q] at hc
   obtain ⟨G,N,rfl⟩:=hc
   have I:a0K call fl n G t H ≠ .bad:=fun e=>hne (by simp [a0K,e])
   have M:=(d0h hcall j n c G fl t H φ w a N hR hT hfl hd I).wp
   refine k0U.round (wp_mono M ?_)
   intro e S U hp
   simp only [a0K]
   cases hr:a0K call fl n G t H with
   | bad=>exact N1i hr I
   | pan v =>
    rw [hr] at hp
    obtain ⟨⟨ty,u,rfl⟩,J,O⟩:=hp
    exact ⟨⟨ty,u,rfl⟩,J,O⟩
   | fin xx t1 H1 =>
    rw [hr] at hp
    obtain ⟨rfl,z,F,r,q⟩:=hp
    cases xx with
    | normal =>
     have L:a0K call fl n (.loop G) t1 H1 ≠ .bad:=fun e=>hne (by simp [a0K,hr,e])
     have R:=d0h hcall j n (.loop c) (.loop G) fl t1 H1 F U S (by simp [d0f,N]) q.rel r (N1n hfl q.hsz) z L
     intro b k cs
     obtain ⟨e,a2,w2,J,O⟩:=R b k cs
     exact ⟨e,a2,w2,y0a.after q hR J,O⟩
    | exit id=>exact ⟨rfl,z,F,r,q⟩
    | ret=>exact ⟨rfl,z,F,r,q⟩
  | region id ops d =>
   cases d with
   | true =>
    simp only [d0f] at hc
    have a0:=hc
    unfold y0j at hc
    simp only [M1S,M1P] at hc
    obtain ⟨l,_,hc⟩:=hc
    split at hc
    ·simp only [M1T,M1Q] at hc
     subst hc
     simp only [a0K] at hne ⊢
     exact j ops _ _ _ a0 D fl t H φ w a hR hT hfl hd hne id
    ·cases hc
   | false =>
    simp only [d0f,M1S,M1P,M1T,M1Q] at hc
    obtain ⟨l,hl,rfl⟩:=hc
    simp only [a0K] at hne ⊢
    refine wp_region ?_
    have Z:ops.size=l.length:=by rw [j0T hl];simp
    rw [List.range_eq_range',Z]
    exact q0i hcall l 0 t H φ w a (fun i s hi=>by
     obtain ⟨x,h1,J⟩:=l0M hl i s hi
     exact ⟨x,by simpa using h1,J⟩) hR hT hfl hd hne
  | _=>simp [d0f] at hc
end
theorem z0q (hR:Rel X φ H w) {J:TypeId} {n:Nat} {b:Bool} (L:c0E X.P J=some n) (hb:l0c X.P J=some b) {v v' r:Value} (O:VR X φ (shq w) v v') (c:b0w H b n v=some r) :
  ∃ q I,v' = .pointer (some q)/\(loadVar J q).run X.P w=.ok I w/\VR X φ (shq w) r I:=by
 unfold b0w at c
 split at c
 ·rename_i p
  cases O with
  | ptr _ q B o' h1 h2 h3 hs4 =>
   subst h3
   split at c
   ·rename_i F;cases c
    obtain ⟨rfl,rfl⟩:=F
    exact ⟨_,.agg #[],rfl,by simp [loadVar,h0J hb,c0R L,loadCells,loadCellsFrom],VR.agg_iff.2 CR.nil⟩
   ·split at c
    ·cases c
    ·split at c
     ·rename_i cs G
      obtain ⟨j,s,k,y,h⟩:=hR.cells h2 hs4 G
      cases b with
      | true =>
       simp only [N1E] at c j k;cases c
       have z:=run_loadCells_list (P:=X.P) w ⟨B,o' + p.off,none⟩ s (m0h h)
       rw [k] at z
       exact ⟨_,.agg s.toArray,rfl,by simp [loadVar,h0J hb,c0R L,z],VR.agg_iff.2 (by simpa using y)⟩
      | false =>
       simp only [N1g,N1G] at c j k
       cases cs with
       | nil=>simp at j
       | cons u I =>
        simp only [List.head?_cons,M1Q] at c;subst c
        obtain ⟨M,r2,rfl,N,_⟩:=y.cons_left
        have x:=h 0 M rfl
        simp only [N1O] at x
        exact ⟨_,M,rfl,by simp [loadVar,h0J hb,x],N⟩
     ·cases c
 ·cases c
def m0X (tmps:Array Value):ResultVar->Sem Value
 | .tmp t=>pure (tmps.getD t undef)
 | .cell a t=>do loadVar t (<- asAddr (tmps.getD a undef))
theorem E0H {I:List SRes}:∀ {y:List ResultVar} {vs:List Value},y.mapM (v1i X.P)=some I->c0N H t I=some vs->Rel X φ H w->CR X φ (shq w) t a.tmps.toList ->
  ∃ j,CR X φ (shq w) vs j/\(y.mapM (m0X a.tmps)).run X.P w=.ok j w:=by
 induction I with
 | nil =>
  intro y vs h u hR hT
  have:y=[]:=by have:=j0T h;exact N1r.1 this.symm
  subst this
  simp [c0N] at u;subst u
  exact ⟨[],CR.nil,by simp⟩
 | cons s I ih =>
  intro y vs h u hR hT
  cases y with
  | nil=>simp at h
  | cons r y =>
   rw [O1M] at h
   simp only [M1S,M1P,M1T,M1Q] at h
   obtain ⟨Z,F,U,O,Q⟩:=h
   cases Q
   simp only [c0N] at u
   split at u
   ·rename_i v Y G R
    cases u
    obtain ⟨j,z,k⟩:=ih O R hR hT
    rw [O1M,Sem.run_bind]
    cases r with
    | tmp i =>
     simp only [v1i,M1Q] at F;subst F
     simp only [q0j,M1Q] at G;subst G
     refine ⟨a.tmps.getD i undef :: j,CR.cons ?_ z,by simp only [m0X,Sem.run_pure,Result.andThen_ok,Sem.run_bind,k]⟩
     rw [a0E];exact hT.get i
    | cell c ty =>
     simp only [v1i,M1S,M1P,M1T,M1Q] at F
     obtain ⟨b,hb,n,S,rfl⟩:=F
     simp only [q0j] at G
     obtain ⟨q,M,N,x,L⟩:=z0q hR S hb (hT.get c) G
     rw [<- a0E] at N
     exact ⟨M :: j,CR.cons L z,by
      have J:(asAddr (a.tmps.getD c undef)).run X.P w=.ok q w:=by rw [N];rfl
      simp only [m0X,J,x,Result.andThen_ok,Sem.run_bind,k,Sem.run_pure]⟩
   ·cases u
theorem v0x {vs c:List Value} (h:CR X φ S vs c):VR X φ S (b0K vs) (if h:c.toArray.size=1 then c.toArray[0] else .tuple c.toArray):=by
 cases vs with
 | nil=>rw [h.nil_left];exact VR.tuple_iff.2 CR.nil
 | cons v r =>
  obtain ⟨v',q,rfl,k,j⟩:=h.cons_left
  cases r with
  | nil=>rw [j.nil_left];simpa [b0K] using k
  | cons u r2 =>
   obtain ⟨w,s,rfl,_,_⟩:=j.cons_left
   simp only [b0K]
   rw [dif_neg (by simp)]
   exact VR.tuple_iff.2 (by simpa using h)
def u0S (call:Nat->FuncId->List Value->a0c->Res (Value × a0c)):Prop:=∀ fl f args H v,call fl f args H=.pan v->∃ ty u,v=.iface ty u
section
variable {call:Nat->FuncId->List Value->a0c->Res (Value × a0c)} (hp:u0S call)
include hp
theorem i0r {so:SOp} {v:Value} (h:b0i call fl t H so=.pan v):∃ j u,v=.iface j u:=by
 unfold b0i at h
 split at h
 ·cases h
 ·rename_i k c;simp only [Res.pan.injEq] at h;subst h;exact (g0j c).1
 ·cases h
 ·exact hp _ _ _ _ _ h
theorem f0G:∀ (r:List a0v) (t:a0U) (H:a0c) {v:Value},f0h call fl r t H=.pan v->∃ c u,v=.iface c u
 | [],t,H,v,h=>by simp [f0h] at h
 | s :: r,t,H,v,h=>by
  simp only [f0h] at h
  split at h
  ·split at h
   ·cases h
   ·rename_i j hs;simp only [Out.pan.injEq] at h;subst h;exact i0r hp hs
   ·exact f0G r _ _ h
  ·exact f0G r _ _ h
theorem c0y (bef:List Nat) (pairs:List (Nat × Nat)):∀ (r:List a0v) (i:Nat) (t:a0U) (H:a0c) (p:Option (Nat × Value)) (c:List (List Nat × List Nat)) {v:Value},
  (∀ j u,p=some (j,u)->∃ q x,u=.iface q x)->b0T call fl bef pairs i r t H p c=.pan v->∃ q u,v=.iface q u
 | [],i,t,H,p,c,v,hpp,h=>by
  simp only [b0T] at h
  split at h
  ·split at h
   ·cases h
   ·rename_i j u;simp only [Out.pan.injEq] at h;subst h;exact hpp _ _ rfl
  ·cases h
 | s :: r,i,t,H,p,c,v,hpp,h=>by
  simp only [b0T] at h
  split at h
  ·exact c0y bef pairs r _ _ _ _ _ hpp h
  ·split at h
   ·split at h
    ·cases h
    ·rename_i w hs
     split at h
     ·refine c0y bef pairs r _ _ _ _ _ ?_ h
      intro j u k;cases k;exact i0r hp hs
     ·cases h
    ·exact c0y bef pairs r _ _ _ _ _ hpp h
   ·exact c0y bef pairs r _ _ _ _ _ hpp h
theorem b0P:∀ (n:Nat) (c:SCode) (t:a0U) (H:a0c) {v:Value},a0K call fl n c t H=.pan v->∃ j u,v=.iface j u
 | 0,c,t,H,v,h=>by simp [a0K] at h
 | n + 1,c,t,H,v,h=>by
  cases c <;> simp only [a0K] at h
  case skip=>cases h
  case exit=>cases h
  case ret=>cases h
  case seq a b =>
   split at h
   ·exact b0P n b _ _ h
   ·exact b0P n a _ _ h
  case cond c a b =>
   split at h
   ·exact b0P n a _ _ h
   ·exact b0P n b _ _ h
   ·cases h
  case block id c =>
   split at h
   ·split at h <;> cases h
   ·exact b0P n c _ _ h
  case loop c =>
   split at h
   ·exact b0P n (.loop c) _ _ h
   ·exact b0P n c _ _ h
  case reg ops=>exact f0G hp _ _ _ h
  case draw ops bef pairs=>exact c0y hp bef pairs _ _ _ _ _ _ (fun _ _ e=>by cases e) h
end
theorem h0K (E:Env):∀ n,u0S (a0M E n)
 | 0=>fun _ _ _ _ _ h=>by simp [a0M] at h
 | n + 1=>fun fl f args H v h=>by
  simp only [a0M] at h
  split at h
  ·split at h
   ·cases h
   split at h
   ·split at h
    ·split at h
     ·split at h
      case isFalse=>cases h
      unfold d0I at h
      split at h
      ·cases h
      ·cases h
      ·cases h
      ·split at h
       ·split at h <;> cases h
       ·cases h
      ·cases h
     ·cases h
    ·cases h
   ·cases h
  ·split at h
   ·split at h
    ·cases h
    ·rename_i j c
     simp only [Res.pan.injEq] at h;subst h
     exact b0P (h0K E n) n _ _ _ c
    ·split at h
     ·cases h
     ·split at h <;> cases h
   ·cases h
structure x0Z (X:Cx) (E:Env):Prop where
 code:∀ f sf,E.code f=some sf->a0o X.P f=some sf
 mixed:X.P.follows .mixedOrders=true
def i0D (E:Env):Nat->FuncId->List Value->a0c->Res (Value × a0c):=fun _ f args H =>
 match E.prim f args H.bk H.size with | some (v,bs)=>.ok (v,pushes H bs) | none=>.bad
def u0T (X:Cx) (E:Env):Prop:=b0x X (i0D E)
def s0u (X:Cx) (E:Env):Prop :=
 ∀ q,E.quick=some q->∀ call,b0x X call->i0t call->b0x X fun fl f args H =>
  if f=q.f then match args with | [.agg p,.agg s]=>(if p.size=q.np/\s.size=q.ns then d0I q.zero H (call (max fl H.size) q.solved [.agg #[],.agg p,.agg s] H) else .bad) | _=>.bad else .bad
theorem j0M (E:Env) (hE:x0Z X E) (N:u0T X E) (hq:s0u X E) (z:∀ call,b0x X call->i0t call->q0y X call):∀ n,b0x X (a0M E n)
 | 0=>fun _ _ _ _ _ _ _ _ _ _=>⟨fun _ _ h=>by simp [a0M] at h,fun _ h=>by simp [a0M] at h⟩
 | n + 1=>fun fl f args H φ w j hR Z L=>by
  have S:=j0M E hE N hq z n
  have hk:=i0v E n
  cases hcode:E.code f with
  | none =>
   cases hkw:E.prim f args H.bk H.size with
   | some r =>
    have G:=N fl f args H φ w j hR Z L
    simp only [a0M,hcode,hkw]
    simp only [i0D,hkw] at G
    exact G
   | none =>
   cases hqk:E.quick with
   | none=>exact ⟨fun _ _ h=>by simp [a0M,hcode,hkw,hqk] at h,fun _ h=>by simp [a0M,hcode,hkw,hqk] at h⟩
   | some q =>
    have G:=hq q hqk (a0M E n) S hk fl f args H φ w j hR Z L
    simp only [a0M,hcode,hkw,hqk]
    exact G
  | some sf =>
   have k:=hE.code f sf hcode
   unfold a0o at k
   cases hfn:X.P.funcs[f]? with
   | none=>simp [hfn] at k
   | some y =>
    simp only [hfn] at k
    cases hb:y.body with
    | none=>simp [hb] at k
    | some c =>
     simp only [hb] at k
     split at k
     ·cases k
     rename_i x
     have x:s0q X.P f=true:=by simpa using x
     simp only [M1S,M1P] at k
     obtain ⟨res,O,body,J,k⟩:=k
     split at k
     ·rename_i a3
      simp only [M1T,M1Q] at k;subst k
      by_cases s:args.length=y.params.size + y.nfree
      ·have M:j.size=args.length:=by have:=Z.1;simpa using this.symm
       -- the frame at the call's entry
       have hT:CR X φ (shq w) (args ++ List.replicate (y.ntmps - args.length) undef) (j ++ Array.replicate (y.ntmps - j.size) undef).toList:=by
        rw [M]
        have:(j ++ Array.replicate (y.ntmps - args.length) undef).toList=j.toList ++ List.replicate (y.ntmps - args.length) undef:=by simp
        rw [this]
        refine Z.append ?_
        generalize y.ntmps - args.length=m
        induction m with
        | zero=>exact CR.nil
        | succ m S=>exact CR.cons VR.undef S
       have I:=fun a2=>(d0h S (z _ S hk) n c body fl _ H φ w { tmps:=j ++ Array.replicate (y.ntmps - j.size) undef,defers:=[] } J hR hT L rfl a2).wp
       cases hr:a0K (a0M E n) fl n body (args ++ List.replicate (y.ntmps - args.length) undef) H with
       | bad =>
        refine ⟨fun _ _ h=>?_,fun _ h=>?_⟩
        ·simp only [a0M,hcode] at h;rw [M1Z s,hr] at h;cases h
        ·simp only [a0M,hcode] at h;rw [M1Z s,hr] at h;cases h
       | pan v0 =>
        rw [hr] at I
        have I:=I (by simp)
        refine ⟨fun _ _ h=>?_,fun v h=>?_⟩
        ·simp only [a0M,hcode] at h;rw [M1Z s,hr] at h;cases h
        ·simp only [a0M,hcode] at h;rw [M1Z s,hr] at h
         simp only [Res.pan.injEq] at h;subst h
         refine ⟨b0P (h0K E n) n body _ H hr,x,calls_of_wp hfn hb (wp_mono I ?_)⟩
         rintro e Y w' ⟨⟨ty,u,rfl⟩,hd,hp⟩
         exact ⟨hd,⟨ty,u,rfl⟩,hp⟩
       | fin e t1 H1 =>
        rw [hr] at I
        have I:=I (by simp)
        refine ⟨fun v H' h=>?_,fun v h=>?_⟩
        ·simp only [a0M,hcode] at h;rw [M1Z s,hr] at h
         refine ⟨x,calls_of_wp hfn hb (wp_mono I ?_)⟩
         rintro e2 Y w' ⟨rfl,hd,φ',a0,R⟩
         have U:∀ vs,c0N H1 t1 res=some vs->v=b0K vs->H' = H1->∃ v',(results y Y.tmps).run X.P w' = .ok v' w' /\
           ∃ v2 φ',Ending.returned v' = .returned v2/\VR X φ' (shq w') v v2/\b0R X fl φ H w φ' H' w':=by
          intro vs F hv hH
          subst hv hH
          obtain ⟨a4,a1,Q⟩:=E0H O F R.rel a0
          refine ⟨_,?_,_,φ',rfl,v0x a1,R⟩
          have e1:results y Y.tmps=(do let vs <- y.results.mapM (m0X Y.tmps);pure (if h:vs.size=1 then vs[0] else .tuple vs)):=rfl
          rw [e1,O1Y]
          simp only [Sem.run_bind,Sem.run_map,Q]
          rfl
         cases e with
         | exit id=>cases h
         | normal =>
          simp only [] at h
          split at h
          ·rename_i vs F
           simp only [Res.ok.injEq,N1V] at h
           obtain ⟨v',G,h2⟩:=U vs F h.1.symm h.2.symm
           exact ⟨hd,v',G,h2⟩
          ·cases h
         | ret =>
          simp only [] at h
          split at h
          ·rename_i vs F
           simp only [Res.ok.injEq,N1V] at h
           obtain ⟨v',G,h2⟩:=U vs F h.1.symm h.2.symm
           exact ⟨hd,v',G,h2⟩
          ·cases h
        ·simp only [a0M,hcode] at h;rw [M1Z s,hr] at h
         cases e with
         | exit id=>cases h
         | normal=>simp only [] at h;split at h <;> cases h
         | ret=>simp only [] at h;split at h <;> cases h
      ·exact ⟨fun _ _ h=>by simp [a0M,hcode,s] at h,fun _ h=>by simp [a0M,hcode,s] at h⟩
     ·cases k
