/- Part 2 of the proof. -/
import Derived.Orders
import Derived.Test.YtilekhkgobmolaaGreatM00
set_option linter.unusedVariables false
set_option linter.unusedSimpArgs false
set_option linter.unusedSectionVars false
namespace Go.Proofs.YtilekhkgobmolaaGreat.AI
open Go
section
variable {X:Cx} {φ φ':Inj} {S:Shp} {H H':a0f} {w w':World} {fl:Nat} {t:b0c} {a:Act} {o:Oper}
theorem Rel.drew (hR:Rel X φ H w):Rel X φ H w.drew:=⟨hR.bs,hR.lt,hR.row,hR.sep⟩
theorem d0v.drew (hR:Rel X φ H w):d0v X fl φ H w φ H w.drew :=
 { ext := fun _ _ h => h, rel := hR.drew, shp := fun _ _ h => h, wsz := k1x _, os := rfl, tape := rfl, out := rfl, hsz := k1x _, keep := fun _ _ => rfl,
   kind:=fun _ _ cs _ h=>⟨cs,h⟩,fresh:=(fun b x h c=>by rw [h] at c;cases c),newB:=(fun b B o h c=>by rw [h] at c;cases c),frame:=fun _ _ _=>rfl }
theorem d0v.kill (hR:Rel X φ H w) {b:Nat} (k:b < H.size) (F:fl<=b):d0v X fl φ H w φ (H.setIfInBounds b .dead) w:=by
 have c:∀ j ro e cs,a0f.bk (H.setIfInBounds b .dead) j=.row ro e cs->j ≠ b/\H.bk j=.row ro e cs:=fun j ro e cs h=>by
  rw [b0a _ _ _ _ k] at h
  split at h
  ·cases h
  ·rename_i q;exact ⟨q,h⟩
 refine
  { ext := fun _ _ h => h
    rel:=?_
    shp:=fun _ _ h=>h
    wsz:=k1x _
    os:=rfl
    tape:=rfl
    out:=rfl
    hsz:=by simp
    keep:=fun j z=>by rw [b0a _ _ _ _ k,k1y (by omega)]
    kind:=fun j e cs _ h=>⟨cs,(c _ _ _ _ h).2⟩
    fresh:=fun b x h s=>by rw [h] at s;cases s
    newB:=fun b B o h s=>by rw [h] at s;cases s
    frame:=fun _ _ _=>rfl }
 refine { bs:=hR.bs,lt:=fun b x h=>by simpa using hR.lt b x h,row:=fun j B o ro e cs h u=>hR.row j B o ro e cs h (c _ _ _ _ u).2,sep:=?_ }
 intro j b2 B o G e cs v y q u
 have:=hR.sep j b2 B o G e cs v y q (c _ _ _ _ u).2
 rw [b0a _ _ _ _ k]
 split
 ·rfl
 ·exact this
theorem o0K (z:Array Value) (n:Nat) (c:0 < z.size):(Builtin.zeroCells z n).toList=e0M z.toList n:=k0A z n c
theorem t0Q (z:List Value):∀ (m n:Nat),m<=n->(e0M z n).take (m * z.length)=e0M z m
 | 0,n,_=>by simp [e0M]
 | m + 1,0,h=>by omega
 | m + 1,n + 1,h=>by
  simp only [e0M]
  rw [Nat.succ_mul,Nat.add_comm (m * z.length),List.take_append]
  simp [t0Q z m n (by omega),k1J]
theorem d0v.moved (hR:Rel X φ H w) {b B o off:Nat} {e:TypeId} {y cs:List Value} (hb:φ b=some (B,o)) (J:H.bk b=.row false e y) (N:fl<=b) (a4:fl<=H.size)
  (c:Array Value) (c':Array Value) (h1:w.heap[B]? = some (.cells c e (0,0))) (hsz:c'.size=c.size) (a1:off + cs.length<=c'.size) (hc:CR X φ w.shape? cs ((c'.toList.drop off).take cs.length)) :
  d0v X fl φ H w (fun q=>if q=H.size then some (B,off) else φ q) ((H.setIfInBounds b .dead).push (.row false e cs)) (w.setRow B c'):=by
 have a0:=a0k J
 obtain ⟨c0,g1,g2,g3,g4⟩:=hR.blkT hb J
 have R:=h0M w B c c' e (0,0) h1 hsz
 have U:(w.setRow B c').shape? = w.shape?:=funext R
 have a5:B < w.heap.size:=(l1j.1 h1).1
 have z:∀ q x,φ q=some x->(fun q=>if q=H.size then some (B,off) else φ q) q=some x:=fun q x hx=>by
  have:=hR.lt q x hx
  show (if _ then _ else _)=_
  rw [k1y (by omega)];exact hx
 have F:(H.setIfInBounds b .dead).size=H.size:=by simp
 have s:∀ q,a0f.bk ((H.setIfInBounds b .dead).push (.row false e cs)) q=if q=H.size then .row false e cs else if q=b then .dead else H.bk q:=fun q=>by
  rw [a0L,F]
  split
  ·rfl
  ·exact b0a _ _ _ _ a0
 refine
  { ext := z
    rel:=?_
    shp:=fun G x h=>by rw [R];exact h
    wsz:=by simp [World.setRow]
    os:=rfl
    tape:=rfl
    out:=rfl
    hsz:=by simp
    keep:=fun q k=>by rw [s,k1y (by omega),k1y (by omega)]
    kind:=fun q M u k j=>by
     rw [s,k1y (by omega)] at j
     split at j
     ·cases j
     ·exact ⟨u,j⟩
    fresh:=fun q x k O=>by
     by_cases h:q=H.size
     ·omega
     ·simp only [k1y h] at k;rw [k] at O;cases O
    newB:=fun q G L k O=>by
     by_cases h:q=H.size
     ·simp only [k1B h,k1z,m1t] at k
      exact .inr ⟨b,o,e,y,by rw [hb,k.1],N,J⟩
     ·simp only [k1y h] at k;rw [k] at O;cases O
    frame:=fun G _ a3=>setRow_other w B G _ (fun h=>by subst h;exact a3 b o e y hb N J) }
 refine { bs:=by have:=hR.bs;simpa [World.setRow] using this,lt:=?_,row:=?_,sep:=?_ }
 ·intro q x k
  simp only [l1X,F]
  by_cases h:q=H.size
  ·omega
  ·simp only [k1y h] at k;have:=hR.lt q x k;omega
 ·intro q G L ro M u k j
  rw [s] at j
  rw [U]
  by_cases h:q=H.size
  ·simp only [k1B h] at k j
   cases k;cases j
   exact ⟨c',e,(0,0),setRow_heap w B c c' e (0,0) h1,a1,hc.mo z (fun _ _ h=>h),fun _=>⟨g2,rfl,rfl⟩,fun h=>by cases h⟩
  ·simp only [k1y h] at k j
   split at j
   ·cases j
   ·rename_i I
    by_cases hB:G=B
    ·subst hB
     have:=hR.sep b q G o L e y hb k (fun e=>I e.symm) J
     rw [this] at j;cases j
    ·obtain ⟨c1,el,fz,h6,h7,h8,h9⟩:=hR.row q G L ro M u k j
     exact ⟨c1,el,fz,by rw [setRow_other w B G _ hB];exact h6,h7,h8.mo z (fun _ _ h=>h),h9⟩
 ·intro q b2 G L o2 M u k v I j
  rw [s] at j ⊢
  by_cases h:q=H.size
  ·have Z:b2 ≠ H.size:=fun e=>I (h.trans e.symm)
   simp only [k1B h] at k j
   simp only [k1y Z] at v ⊢
   cases k
   by_cases h2:b2=b
   ·rw [k1B h2]
   ·rw [k1y h2]
    exact hR.sep b b2 _ o o2 e y hb v (fun e=>h2 e.symm) J
  ·simp only [k1y h] at k j
   split at j
   ·cases j
   ·rename_i a2
    by_cases Z:b2=H.size
    ·simp only [k1B Z] at v
     cases v
     have:=hR.sep q b _ L o M u k hb a2 j
     rw [this] at J;cases J
    ·simp only [k1y Z] at v ⊢
     split
     ·rfl
     ·exact hR.sep q b2 G L o2 M u k v I j
section
variable (hR:Rel X φ H w) (hT:CR X φ w.shape? t a.tmps.toList)
include hR hT
theorem c1S (L:fl<=H.size) {Z e:TypeId} {z:List Value} {size bytes:Nat} {x y:Operand} {x' y':Opd} (ho:o.op=.makeSlice Z x y) (he:h0o X.P Z=some e) (hs:d0k X.P e=some size)
  (hb:j0y X.P e=some bytes) (hz:l0c X.P e=some z) (hsz:size=z.length) (a0:0 < size) (hx:c0B x=some x') (hy:c0B y=some y') (fx:a0U x' = true) (fy:a0U y' = true)
  {v:Value} (h:opA fl t H (.mk e bytes z x' y')=.val v H'):b0l X fl φ H w o a v H':=by
 have hu:=f0v he
 obtain ⟨hf,G,i,hi,U,_,u,a1⟩:=i0j hz
 have F:G.cells.size=size:=by rw [hsz,<- u];simp
 have j:=b0J hT hx fx
 have k:=b0J hT hy fy
 have a2:i.bytes=bytes:=by simpa [j0y,hi] using hb
 have s:i.size=size:=by simpa [d0k,hi] using hs
 simp only [opA] at h
 split at h
 ·rename_i k1 l k2 c e1 e2
  split at h
  ·rename_i hc
   obtain ⟨h0,h1,h2,h3⟩:=hc
   simp only [OpRes.val.injEq] at h
   obtain ⟨rfl,rfl⟩:=h
   rw [e1] at j;rw [e2] at k
   generalize M:a.eval x=g1 at j
   generalize N:a.eval y=g2 at k
   cases j;cases k
   have I:(i.bytes:Int) * c<=281474976710656:=by
    have h4:i.bytes * c.toNat<=1024 * 1073741824:=l1u (by omega) (by omega)
    have h5:((i.bytes * c.toNat:Nat):Int)=(i.bytes:Int) * c:=by rw [l1Y,m1P (by omega)]
    omega
   have R:=run_make (P:=X.P) w Z e i G hu hi U k1 k2 l c h0 h1 I (by omega)
   have J:(madeCells G.cells (c.toNat * i.size)).toList=e0M z c.toNat:=by
    have:=k0A G.cells c.toNat (by omega)
    rw [F,u] at this
    rw [s];simpa [madeCells,F] using this
   have q:(madeCells G.cells (c.toNat * i.size)).size=c.toNat * size:=by rw [size_madeCells,s]
   have O:l.toNat * size<=c.toNat * size:=k1E _ (by omega)
   refine b0l.made hR hT L e _ _ (by rw [e0w,q,<- hsz];exact O) ?_ _ (.slice (some ⟨w.heap.size,0,none⟩) l.toNat c.toNat) (by simp [execOp,ho,M,N,R])
    (j0L hR _ e _ _ _ size (e0J hs) (fun _=>rfl) (by omega) (by rw [q];exact k1x _))
   rw [J,e0w,t0Q _ _ _ (by omega)]
   exact f0S (k0d hf _)
  ·cases h
 ·cases h
theorem K0s {I:TypeId} {n:Nat} {x y:Operand} {G u:Opd} (ho:o.op=.store I x y) (N:d0k X.P I=some n) (R:c0B x=some G) (U:c0B y=some u) (L:a0U G = true) (M:a0U u = true)
  {v:Value} (h:opA fl t H (.store n G u)=.val v H'):b0l X fl φ H w o a v H':=by
 have j:=b0J hT R L
 have s:=(b0J hT U M).cells
 simp only [opA] at h
 split at h
 ·rename_i p J
  split at h
  ·cases h
  ·rename_i hc
   split at h
   ·rename_i Z O
    simp only [OpRes.val.injEq] at h
    obtain ⟨rfl,rfl⟩:=h
    rw [J] at j
    generalize z:a.eval x=g1 at j
    cases j with
    | ptr _ q B o' h1 h2 h3 =>
     subst h3
     obtain ⟨w',F,c⟩:=d0v.store hR h2 O s
     have k:=s.1
     have hsz:(a.eval y).cells.size=n:=by
      have:¬ (a0W (ev t u)).length ≠ n:=fun e=>hc (.inr e)
      simp only [n1t] at k;omega
     refine ⟨φ,w',undef,.inr ⟨rfl,?_⟩,VR.undef,c⟩
     simp [execOp,ho,z,Instr.storeAt,Instr.sureAddr,storeVar,d0K N,hsz,F]
   ·cases h
 ·cases h
omit hR hT in
theorem n0L (w:World) (t u H e:TypeId) (i:TypeInfo) (z:Value) (k k':IntKind) (y:X.P.underlying t=some (.slice e)) (v:X.P.underlying u=some (.int k)) (hi:X.P.info? e=some i) (F:i.zero=some z) (n:Int) (J:0 < n) (L:n<=1073741824) (hb:i.bytes<=1024) (hs:0 < i.size) :
  (Builtin.append_ #[t,u] H #[.slice none 0 0,.int k' n]).run X.P w=.ok (.slice (some ⟨w.heap.size,0,none⟩) n.toNat (grownCap w n.toNat 0 e))
   (w.drew.alloc (.cells (Builtin.zeroCells z.cells n.toNat ++ Builtin.zeroCells z.cells (grownCap w n.toNat 0 e - n.toNat)) e)):=by
 have I:IntKind.i64.wrap n=n:=by rw [IntKind.wrap_i64];omega
 obtain ⟨m,rfl⟩:∃ m:Nat,n=m:=⟨n.toNat,by omega⟩
 have n1:¬ (m:Int) < 0:=by omega
 have q:m ≠ 0:=by omega
 have x:m * i.bytes<=1073741824 * 1024:=l1u (by omega) hb
 have G:¬ (281474976710656 < (m:Int) * (i.bytes:Int)):=by
  have:((m * i.bytes:Nat):Int)=(m:Int) * (i.bytes:Int):=l1Y _ _
  omega
 have s:m * i.size ≠ 0:=by have:=Nat.mul_pos (show 0 < m by omega) hs;omega
 have j:¬ (9223372036854775807 < (m:Int)):=by omega
 have h:¬ (281474976710656 < Builtin.nextslicecap m 0 * i.bytes):=by rw [nextslicecap_zero (by omega)];omega
 have c:¬ (m=0 ∨ i.size=0):=by omega
 simp [Builtin.append_,run_underlying y,run_underlying v,sizeOf,typeInfo,zeroValue,hi,F,asInt,asIntOf,I,n1,G,q,s,c,j,h,Question.forced,run_firstCells_none,newRow,grownCap]
theorem N0D (a3:fl<=H.size) {ty u e a0:TypeId} {z:List Value} {size bytes:Nat} {as:Array Operand} {j:Array TypeId} {x y:Operand} {x' y':Opd}
  (ho:o.op=.call { callee:=.builtin .append,args:=as,argTypes:=j }) (R:o.type=a0) (a1:as.toList=[x,y]) (M:j.toList=[ty,u]) (he:h0o X.P ty=some e) (hs:d0k X.P e=some size)
  (hb:j0y X.P e=some bytes) (hz:l0c X.P e=some z) (hsz:size=z.length) (b1:0 < size) (G:B0V X.P u=true) (hx:c0B x=some x') (hy:c0B y=some y') (fx:a0U x' = true) (fy:a0U y' = true)
  {v:Value} (h:opA fl t H (.appz e bytes z x' y')=.val v H'):b0l X fl φ H w o a v H':=by
 have hu:=f0v he
 obtain ⟨hf,c,i,hi,a9,_,U,b4⟩:=i0j hz
 have Z:c.cells.size=size:=by rw [hsz,<- U];simp
 have I:=b0J hT hx fx
 have J:=b0J hT hy fy
 have b5:i.bytes=bytes:=by simpa [j0y,hi] using hb
 have b8:i.size=size:=by simpa [d0k,hi] using hs
 have a2:=e0J hs
 have L:as = #[x,y]:=by rw [<- l1B (xs:=as),a1]
 have s:j = #[ty,u]:=by rw [<- l1B (xs:=j),M]
 subst L s
 obtain ⟨k,hk⟩:∃ k,X.P.underlying u=some (.int k):=by
  unfold B0V at G;split at G
  ·rename_i k hk;exact ⟨k,hk⟩
  ·cases G
 simp only [opA] at h
 split at h
 ·rename_i m F
  simp only [OpRes.val.injEq] at h
  obtain ⟨rfl,rfl⟩:=h
  unfold z0C at F
  split at F
  ·rename_i k' n e1 e2
   split at F
   ·rename_i hc
    obtain ⟨c0,c1,c2⟩:=hc
    simp only [k1z] at F
    subst F
    rw [e1] at I;rw [e2] at J
    generalize a4:a.eval x=g1 at I
    generalize a5:a.eval y=g2 at J
    cases I;cases J
    have hr:=n0L (X:=X) w ty u a0 e i c k k' hu hk hi a9 n c0 c1 (by omega) (by omega)
    have N:(execOp a.eval o).run X.P w=.ok (.value (.slice (some ⟨w.heap.size,0,none⟩) n.toNat (grownCap w n.toNat 0 e))) (w.drew.alloc (.cells (Builtin.zeroCells c.cells n.toNat ++ Builtin.zeroCells c.cells (grownCap w n.toNat 0 e - n.toNat)) e)):=by
     simp [execOp,ho,a4,a5,resolve,invoke,builtin,R,hr]
    have O:=grownCap_ge w n.toNat 0 e
    obtain ⟨m,hm⟩:∃ m,m=n.toNat:=⟨_,rfl⟩
    rw [<- hm] at N O ⊢
    have a8:(Builtin.zeroCells c.cells m).toList=e0M z m:=by rw [o0K _ _ (by omega),U]
    have q:(Builtin.zeroCells c.cells m).size=m * size:=by rw [size_zeroCells,Z]
    have a6:(e0M z m).length=m * size:=by rw [e0w,<- hsz]
    have a7:=d0v.alloc (fl:=fl) (hR.drew) e (e0M z m) (Builtin.zeroCells c.cells m ++ Builtin.zeroCells c.cells (grownCap w m 0 e - m))
     (by rw [a6,Array.size_append,q];omega)
     (by
      have:(Builtin.zeroCells c.cells m ++ Builtin.zeroCells c.cells (grownCap w m 0 e - m)).toList.take (e0M z m).length=e0M z m:=by
       rw [m1M,a8];exact List.take_left
      rw [this];exact f0S (k0d hf _)) a3
    refine ⟨_,_,_,.inl N,?_,(d0v.drew hR).trans a7 (k1x _) hR⟩
    exact j0L (X:=X) (φ:=φ) (H:=H) (w:=w.drew) hR.drew (Builtin.zeroCells c.cells m ++ Builtin.zeroCells c.cells (grownCap w m 0 e - m)) e m unk (grownCap w m 0 e) size a2 (fun h=>k1Q rfl h) O (by
     rw [Array.size_append,q,size_zeroCells,Z,<- k1R]
     exact k1E _ (by omega))
   ·cases F
  ·cases F
 ·cases h
theorem Y0v (g4:fl<=H.size) {ty e a9:TypeId} {z:List Value} {size bytes:Nat} {as:Array Operand} {c4:Array TypeId} {x y:Operand} {x' y':Opd}
  (ho:o.op=.call { callee:=.builtin .append,args:=as,argTypes:=c4 }) (f6:o.type=a9) (f8:as.toList=[x,y]) (f2:c4.toList=[ty,ty]) (he:h0o X.P ty=some e) (hs:d0k X.P e=some size)
  (hb:j0y X.P e=some bytes) (hz:l0c X.P e=some z) (hsz:size=z.length) (_:0 < size) (hx:c0B x=some x') (hy:c0B y=some y') (fx:a0U x' = true) (fy:a0U y' = true)
  {v:Value} (h:opA fl t H (.app e size bytes x' y')=.val v H'):b0l X fl φ H w o a v H':=by
 have hu:=f0v he
 obtain ⟨hf,zv,i,hi,e8,_,h4,h7⟩:=i0j hz
 have h6:zv.cells.size=size:=by rw [hsz,<- h4];simp
 have a3:=b0J hT hx fx
 have a8:=b0J hT hy fy
 have i2:i.bytes=bytes:=by simpa [j0y,hi] using hb
 have a7:i.size=size:=by simpa [d0k,hi] using hs
 have d7:=e0J hs
 have f1:as = #[x,y]:=by rw [<- l1B (xs:=as),f8]
 have d6:c4 = #[ty,ty]:=by rw [<- l1B (xs:=c4),f2]
 subst f1 d6
 have M:∀ (g1 g2 v':Value) (w1:World),a.eval x=g1->a.eval y=g2->(Builtin.append_ #[ty,ty] a9 #[g1,g2]).run X.P w=.ok v' w1->(execOp a.eval o).run X.P w=.ok (.value v') w1:=by
  intro g1 g2 v' w1 e1 e2 e3
  simp [execOp,ho,e1,e2,resolve,invoke,builtin,f6,e3]
 simp only [opA] at h
 cases hap:i0H fl H e size bytes (ev t x') (ev t y') with
 | none=>simp [hap,g0Q] at h
 | some r =>
  obtain ⟨rv,rH⟩:=r
  simp only [hap,g0Q,OpRes.val.injEq] at h
  obtain ⟨rfl,rfl⟩:=h
  generalize b1:a.eval x=g1 at a3
  generalize b4:a.eval y=g2 at a8
  unfold i0H at hap
  split at hap
  ·rename_i base len cap xb n xc e1 e2
   rw [e1] at a3;rw [e2] at a8
   split at hap
   ·-- nothing appended
    rename_i e0;cases hap
    subst e0
    have U:∀ (q:Option Addr) (c':Nat) (q':Option Addr) (d':Nat),g1=.slice q len c'->g2=.slice q' 0 d'->len<=c'->b0l X fl φ H w o a (.slice base len cap) H:=by
     intro q c' q' d' h1 h2 g7
     subst h1 h2
     refine b0l.same hR (v':=.slice q len c') (M _ _ _ _ b1 b4 ?_) a3
     have c2:(Builtin.firstCells size 0 (.slice q' 0 d')).run X.P w=.ok #[] w:=by cases q' <;> simp [Builtin.firstCells,loadCells,loadCellsFrom]
     cases q <;> simp [Builtin.append_,run_underlying hu,sizeOf,typeInfo,hi,Builtin.lenOf,g7,a7,c2,storeCells]
    cases a3 with
    | sle _ q =>
     cases a8 with
     | snil=>exact U _ _ _ _ rfl rfl (k1x _)
     | sle _ q'=>exact U _ _ _ _ rfl rfl (k1x _)
     | sl _ q' _ _ d' B2 o2 _ _ _ _ _ _ _ _=>exact U _ _ _ _ rfl rfl (k1x _)
    | snil =>
     cases a8 with
     | snil=>exact U _ _ _ _ rfl rfl (k1x _)
     | sle _ q'=>exact U _ _ _ _ rfl rfl (k1x _)
     | sl _ q' _ _ d' B2 o2 _ _ _ _ _ _ _ _=>exact U _ _ _ _ rfl rfl (k1x _)
    | sl _ q _ _ c' B o' k1 k2 k3 k4 k5 k6 k7 k8 =>
     cases a8 with
     | snil=>exact U _ _ _ _ rfl rfl k7
     | sle _ q'=>exact U _ _ _ _ rfl rfl k7
     | sl _ q' _ _ d' B2 o2 _ _ _ _ _ _ _ _=>exact U _ _ _ _ rfl rfl k7
   ·rename_i e0
    split at hap
    ·rename_i g0
     obtain ⟨f9,i1,_⟩:=g0
     split at hap
     ·cases hap
     ·rename_i xp
      split at hap
      ·cases hap
      ·rename_i new c2
       cases a8 with
       | sle _ q'=>exact k1Q rfl e0
       | sl _ q' _ _ d' B2 o2 k1 k2 k3 k4 k5 k6 k7 k8 =>
        have g8:=k5 (by omega)
        have hq:q' = ⟨B2,o2 + xp.off,none⟩:=by cases q';simp_all
        subst hq
        obtain ⟨f4,k,Z,c1,c7⟩:=hR.cells k2 c2
        have F:=m0o c7
        have R:(len + n) * i.bytes<=140737488355328:=by
         have:(len + n) * i.bytes<=1073741824 * 1024:=l1u f9 (by omega)
         omega
        -- the new row of a grown slice
        have J:∀ (G:a0f),Rel X φ G w->G.size=H.size->∀ (N s:List Value) (m:Nat),N.length=m * size->CR X φ w.shape? N s->∀ L,
          (execOp a.eval o).run X.P w=.ok (.value (.slice (some ⟨w.heap.size,0,none⟩) (m + n) (grownCap w (m + n) L e)))
           (w.drew.alloc (.cells (s.toArray ++ k.toArray ++ Builtin.zeroCells zv.cells (grownCap w (m + n) L e - (m + n))) e)) ->
          ∃ φ' w' v',(execOp a.eval o).run X.P w=.ok (.value v') w'/\VR X φ' w'.shape? (.slice (some ⟨G.size,0,none⟩) (m + n) unk) v'/\d0v X fl φ G w φ' (G.push (.row false e (N ++ new))) w':=by
         intro G hG e9 N s m c9 a5 L g3
         have g5:=grownCap_ge w (m + n) L e
         have b9:(N ++ new).length=(m + n) * size:=by rw [k1S,c9,f4,k1R]
         have c5:=a5.append c1
         have O:(s ++ k).length=(m + n) * size:=by rw [<- c5.1,b9]
         have h3:=d0v.alloc (fl:=fl) (hG.drew) e (N ++ new) (s.toArray ++ k.toArray ++ Builtin.zeroCells zv.cells (grownCap w (m + n) L e - (m + n)))
          (by simp only [Array.size_append,List.size_toArray,b9];simp only [k1S] at O;omega)
          (by
           have:(s.toArray ++ k.toArray ++ Builtin.zeroCells zv.cells (grownCap w (m + n) L e - (m + n))).toList.take (N ++ new).length=s ++ k:=by
            rw [b9,<- O,m1M,m1M]
            exact List.take_left
           rw [this];exact c5) (by omega)
         refine ⟨_,_,_,g3,?_,(d0v.drew hG).trans h3 (k1x _) hG⟩
         exact j0L (X:=X) (φ:=φ) (H:=G) (w:=w.drew) hG.drew (s.toArray ++ k.toArray ++ Builtin.zeroCells zv.cells (grownCap w (m + n) L e - (m + n))) e (m + n) unk (grownCap w (m + n) L e) size d7 (fun h=>k1Q rfl h) g5 (by
          simp only [Array.size_append,List.size_toArray,size_zeroCells,h6]
          simp only [k1S] at O
          rw [O,<- k1R]
          exact k1E _ (by omega))
        split at hap
        ·cases hap
        rename_i d0
        split at hap
        ·-- onto nil
         split at hap
         ·rename_i h5;cases hap
          obtain ⟨rfl,rfl⟩:=h5
          cases a3
          have hr:=run_append_nil (P:=X.P) w ty a9 e i zv hu hi e8 ⟨B2,o2 + xp.off,none⟩ n d' k (by rw [Z,a7]) F (by omega) (by omega) (by simp only [l1e] at R;omega)
          obtain ⟨a4,w2,v2,q1,q2,q3⟩:=J H hR rfl [] [] 0 (by simp) CR.nil 0 (by simpa using M _ _ _ _ b1 b4 hr)
          exact ⟨a4,w2,v2,.inl q1,by simpa using q2,by simpa using q3⟩
         ·cases hap
        ·rename_i sp
         split at hap
         ·rename_i d5;cases hap
          obtain ⟨rfl,rfl⟩:=d5
          have gg:∃ q,g1=.slice (some q) 0 0:=by
           cases a3 with
           | sle _ q=>exact ⟨_,rfl⟩
           | sl _ q _ _ c' B o' j1 j2 j3 j4 j5 j6 j7 j8=>have:=j6 (by simp [unk]);subst this;exact ⟨_,rfl⟩
          obtain ⟨q,g6⟩:=gg
          have hr:=run_append_grow (P:=X.P) w ty a9 e i zv hu hi e8 q 0 0 [] (by simp) (fun j v hj=>by simp at hj) ⟨B2,o2 + xp.off,none⟩ n d' k (by rw [Z,a7]) F (by omega) (by omega) (growslice_fits (by omega) R)
          rw [<- g6] at hr
          obtain ⟨a4,w2,v2,q1,q2,q3⟩:=J H hR rfl [] [] 0 (by simp) CR.nil 0 (by simpa using M _ _ _ _ b1 b4 hr)
          exact ⟨a4,w2,v2,.inl q1,by simpa using q2,by simpa using q3⟩
         rename_i d5
         split at hap
         ·cases hap
         ·rename_i old f5
          cases a3 with
          | sle _ q=>exact k1Q ⟨rfl,rfl⟩ d5
          | sl _ q _ _ c' B o' j1 j2 j3 j4 j5 j6 j7 j8 =>
           obtain ⟨c9,I,d4,a5,c8⟩:=hR.cells j2 f5
           have a0:∀ j v,I[j]? = some v->w.cell? (q.add j)=some v:=by
            intro j v hj
            have c0:j < I.length:=(l1b.1 hj).1
            have d9:0 < len:=by
             rcases m1E len with h0 | h0
             ·subst h0;rw [d4] at c0;simp at c0
             ·exact h0
            have:=c8 j v hj
            rw [e0d j3,j4,j5 d9];exact this
           have b5:c' < len + n->∀ (G:a0f),Rel X φ G w->G.size=H.size ->
             ∃ φ' w' v',(execOp a.eval o).run X.P w=.ok (.value v') w'/\VR X φ' w'.shape? (.slice (some ⟨G.size,0,none⟩) (len + n) unk) v'/\d0v X fl φ G w φ' (G.push (.row false e (old ++ new))) w':=by
            intro f3 G hG e9
            have hr:=run_append_grow (P:=X.P) w ty a9 e i zv hu hi e8 q len c' I (by rw [d4,a7]) a0 ⟨B2,o2 + xp.off,none⟩ n d' k (by rw [Z,a7]) F f3 (by omega) (growslice_fits f3 R)
            exact J G hG e9 old I len c9 a5 c' (M _ _ _ _ b1 b4 hr)
           split at hap
           ·rename_i d1;cases hap
            obtain ⟨a4,w2,v2,q1,q2,q3⟩:=b5 (by rw [j6 d1.1];exact d1.2) H hR rfl
            exact ⟨a4,w2,v2,.inl q1,q2,q3⟩
           ·split at hap
            ·rename_i e' h8 hk
             split at hap
             ·rename_i d8;cases hap
              obtain ⟨rfl,d3⟩:=d8
              obtain ⟨c,a6,f7,h9,i0⟩:=hR.blkT j2 hk
              by_cases a2:len + n<=c'
              ·-- in place
               obtain ⟨e3,nn,q1,q2⟩:=j8 (by rw [j4];exact f7)
               rw [j4] at q1
               simp only [World.shape?,a6,k1z,m1t] at q1
               obtain ⟨rfl,rfl⟩:=q1
               rw [d7] at q2
               have d2:q.off + len * size + k.length<=c.size:=by
                rw [Z]
                have:len * size + n * size<=c' * size:=by rw [<- k1R];exact k1E _ a2
                omega
               have g9:∀ u ∈ k,u.oneCell' = true:=c1.plain (by simpa using d0)
               have c3:=run_storeCells_at X.P B (q.off + len * size) e' k 0 c w a6 (by simpa using d2) g9
               simp only [l1A] at c3
               rw [<- h0T k c.toList (q.off + len * size) (by simpa using d2)] at c3
               have i3:q = ⟨B,q.off,none⟩:=by cases q;simp_all
               have c6:=run_firstCells_some (P:=X.P) w size n ⟨B2,o2 + xp.off,none⟩ n d' k Z F
               have e6:(Builtin.append_ #[ty,ty] a9 #[.slice (some q) len c',.slice (some ⟨B2,o2 + xp.off,none⟩) n d']).run X.P w =
                 .ok (.slice (some q) (len + n) c') (w.setRow B (b0x c.toList (q.off + len * size) k).toArray):=by
                have f0:q.add (len * size) = ⟨B,q.off + len * size,none⟩:=by rw [e0d j3,j4]
                simp [Builtin.append_,run_underlying hu,sizeOf,typeInfo,hi,a7,Builtin.lenOf,a2,c6,f0,c3]
               have a1:(b0x c.toList (q.off + len * size) k).toArray.size=c.size:=by simp [c0K]
               have c5:CR X φ w.shape? (old ++ new) (((b0x c.toList (q.off + len * size) k).toArray.toList.drop q.off).take (old ++ new).length):=by
                have e4:((b0x c.toList (q.off + len * size) k).drop q.off).take (old ++ new).length=I ++ k:=by
                 rw [j0q]
                 rw [h0T k (c.toList.drop q.off) (len * size) (by simp;omega)]
                 have e5:(c.toList.drop q.off).take (len * size)=I:=by
                  apply m1J
                  intro j
                  by_cases hj:j < len * size
                  ·have c0:j < I.length:=by omega
                   have:=a0 j I[j] (k1A c0)
                   rw [e0d j3] at this
                   simp only [World.cell?,j4,a6,Option.isSome_none,k1W,l1y] at this
                   rw [List.getElem?_take_of_lt hj,l1Q,k1A c0]
                   rw [m1e];exact this
                  ·rw [k1G (by simp;omega),k1G (by omega)]
                 rw [e5]
                 have:(old ++ new).length=(I ++ k).length:=by simp;omega
                 rw [this]
                 exact List.take_left
                simp only []
                rw [e4];exact a5.append c1
               have e7:=d0v.moved (fl:=fl) (off:=q.off) hR j2 hk d3 g4 c _ a6 a1 (by rw [a1];simp only [k1S,c9,f4];omega) c5
               refine ⟨_,_,_,.inl (M _ _ _ _ b1 b4 e6),?_,e7⟩
               refine .sl _ _ _ _ _ B q.off rfl (by simp) j3 j4 (fun _=>by simp) (fun h=>k1Q rfl h) a2 (fun _=>⟨e',c.size,?_,by rw [d7];exact q2⟩)
               rw [j4,h0M w B c _ e' (0,0) a6 a1]
               simp [World.shape?,a6]
              ·-- grown,and the old row forgotten
               have b8:=d0v.kill (fl:=fl) hR (a0k hk) d3
               obtain ⟨a4,w2,v2,q1,q2,q3⟩:=b5 (by omega) _ b8.rel (by simp)
               exact ⟨a4,w2,v2,.inl q1,by simpa using q2,b8.trans q3 (k1x _) hR⟩
             ·cases hap
            ·cases hap
    ·cases hap
  ·cases hap
end
end
section
variable {X:Cx} {φ φ':Inj} {S:Shp} {H H':a0f} {w w':World} {fl:Nat} {t:b0c} {a:Act} {o:Oper} {so:SOp} {lone:Bool}
theorem b1I (hc:cOp X.P lone o.op=some so) (F:(a0B so).all a0U=true) (hR:Rel X φ H w) (hT:CR X φ w.shape? t a.tmps.toList) (O:fl<=H.size) {v:Value} (h:opA fl t H so=.val v H') :
  b0l X fl φ H w o a v H':=by
 cases ho:o.op
 case move x =>
  simp only [cOp,ho,m1A] at hc
  obtain ⟨L,hx,rfl⟩:=hc
  simp only [opA,OpRes.val.injEq] at h;obtain ⟨rfl,rfl⟩:=h
  exact W0a hR hT (.inl ho) hx (by simpa [a0B] using F)
 case assign x =>
  simp only [cOp,ho,m1A] at hc
  obtain ⟨L,hx,rfl⟩:=hc
  simp only [opA,OpRes.val.injEq] at h;obtain ⟨rfl,rfl⟩:=h
  exact W0a hR hT (.inr ho) hx (by simpa [a0B] using F)
 case pick c x y =>
  simp only [cOp,ho,k1C,k1w,k1F,k1z] at hc
  obtain ⟨c',j,L,I,y',J,rfl⟩:=hc
  simp only [a0B,l1E,k1L,n1a] at F
  exact N0H hR hT ho j I J F.1 F.2.1 F.2.2.1 h
 case alloc e =>
  simp only [cOp,ho,k1C,k1w,k1F,k1z] at hc
  obtain ⟨z,j,rfl⟩:=hc
  simp only [opA,OpRes.val.injEq] at h;obtain ⟨rfl,rfl⟩:=h
  exact K0o hR hT O ho j
 case box e x =>
  simp only [cOp,ho,k1C,k1w,k1F,k1z] at hc
  obtain ⟨L,j,rfl⟩:=hc
  simp only [opA,OpRes.val.injEq] at h;obtain ⟨rfl,rfl⟩:=h
  exact Y0x hR hT O ho j (by simpa [a0B] using F)
 case build ty ps =>
  simp only [cOp,ho,k1C,k1w,k1F,k1z] at hc
  obtain ⟨fs,j,hc⟩:=hc
  split at hc
  ·rename_i q
   simp only [k1w,k1z] at hc
   obtain ⟨z,I,qs,J,rfl⟩:=hc
   exact K0p hR hT ho j q I J (by simpa [a0B] using F) h
  ·cases hc
 case buildSlice ty n ps =>
  simp only [cOp,ho,k1C,k1w,k1F,k1z] at hc
  obtain ⟨e,j,size,I,z,J,hc⟩:=hc
  split at hc
  ·rename_i q
   simp only [k1w,k1z] at hc
   obtain ⟨qs,N,rfl⟩:=hc
   exact Y0E hR hT O ho j I J q.1 q.2.1 q.2.2 N (by simpa [a0B] using F) h
  ·cases hc
 case load ty x =>
  simp only [cOp,ho,k1C,k1w,k1F,k1z] at hc
  obtain ⟨b,j,n,I,L,J,rfl⟩:=hc
  exact N0F hR hT ho I j J (by simpa [a0B] using F) h
 case store ty x y =>
  simp only [cOp,ho,k1C,k1w,k1F,k1z] at hc
  obtain ⟨n,j,L,I,y',J,rfl⟩:=hc
  simp only [a0B,l1E,k1L,n1a] at F
  exact K0s hR hT ho j I J F.1 F.2.1 h
 case nilCheck x =>
  simp only [cOp,ho,k1C,k1w,k1F,k1z] at hc
  obtain ⟨L,j,rfl⟩:=hc
  exact Y0z hR hT ho j (by simpa [a0B] using F) h
 case binOp b ty x y ty2 =>
  simp only [cOp,ho,k1C,k1w,k1F,k1z] at hc
  obtain ⟨d,j,L,I,y',J,rfl⟩:=hc
  simp only [a0B,l1E,k1L,n1a] at F
  exact Y0w hR hT ho j I J F.1 F.2.1 h
 case unOp u ty x =>
  simp only [cOp,ho,k1C,k1w,k1F,k1z] at hc
  obtain ⟨L,j,rfl⟩:=hc
  exact c1U hR hT ho j (by simpa [a0B] using F) h
 case convert s d x =>
  simp only [cOp,ho,k1C,k1w,k1F,k1z] at hc
  obtain ⟨k0,j,k,I,L,J,rfl⟩:=hc
  exact N0E hR hT ho j I J (by simpa [a0B] using F) h
 case makeInterface ty x =>
  simp only [cOp,ho] at hc
  split at hc
  ·cases hc
  ·cases hc
  ·rename_i d a6 hu
   simp only [k1C,k1w,k1F,k1z] at hc
   obtain ⟨L,j,rfl⟩:=hc
   simp only [opA,OpRes.val.injEq] at h;obtain ⟨rfl,rfl⟩:=h
   exact K0q hR hT ho hu (fun m hm=>a6 m hm) j (by simpa [a0B] using F)
 case makeFunc f xs ys =>
  simp only [cOp,ho] at hc
  split at hc
  ·simp only [k1C,k1w,k1F,k1z] at hc
   obtain ⟨a3,j,a4,I,rfl⟩:=hc
   simp only [opA,OpRes.val.injEq] at h;obtain ⟨rfl,rfl⟩:=h
   simp only [a0B,m1Z,k1L] at F
   exact N0G hR hT ho j I F.1 F.2
  ·cases hc
 case makeSlice ty x y =>
  simp only [cOp,ho,k1C,k1w,k1F,k1z] at hc
  obtain ⟨e,j,size,I,z,J,hc⟩:=hc
  split at hc
  ·rename_i q
   simp only [k1w,k1z] at hc
   obtain ⟨a2,N,L,U,y',Z,rfl⟩:=hc
   simp only [a0B,l1E,k1L,n1a] at F
   exact c1S hR hT O ho j I N J q.1 q.2 U Z F.1 F.2.1 h
  ·cases hc
 case slice ty x lo hi mx =>
  simp only [cOp,ho,k1C,k1w,k1F,k1z] at hc
  obtain ⟨e,j,size,I,L,J,a9,N,a8,U,b1,Z,rfl⟩:=hc
  simp only [a0B,m1Z,k1L,l1E,n1a] at F
  exact c1T hR hT ho j I J N U Z F.1.1.1.1 F.1.1.2 F.1.2 F.2 h
 case fieldAddr ty x i =>
  simp only [cOp,ho,k1C,k1w,k1F,k1z] at hc
  obtain ⟨fs,j,f,I,n,J,hc⟩:=hc
  split at hc
  ·rename_i hn;subst hn
   split at hc
   ·rename_i q
    simp only [k1w,k1z] at hc
    obtain ⟨L,N,rfl⟩:=hc
    exact Y0B hR hT ho j I J q.1 q.2.1 q.2.2.1 q.2.2.2 N (by simpa [a0B] using F) h
   ·cases hc
  ·rename_i hn
   simp only [k1w,k1z] at hc
   obtain ⟨L,N,rfl⟩:=hc
   exact c1Q hR hT ho j I J hn N (by simpa [a0B] using F) h
 case field ty x i =>
  simp only [cOp,ho,k1C,k1w,k1F,k1z] at hc
  obtain ⟨fs,j,f,I,b,J,n,N,L,U,rfl⟩:=hc
  exact Y0C hR hT ho j I N J U (by simpa [a0B] using F) h
 case indexAddr ty x y =>
  simp only [cOp,ho,k1C,k1w,k1F,k1z] at hc
  obtain ⟨e,j,n,I,L,J,y',N,rfl⟩:=hc
  simp only [a0B,l1E,k1L,n1a] at F
  exact c1R hR hT ho j I J N F.1 F.2.1 h
 case extract x i =>
  simp only [cOp,ho,k1C,k1w,k1F,k1z] at hc
  obtain ⟨L,j,rfl⟩:=hc
  exact Y0A hR hT ho j (by simpa [a0B] using F) h
 case call c =>
  obtain ⟨R,args,a7⟩:=c
  simp only [cOp,ho] at hc
  cases R with
  | value f =>
   cases f with
   | func f =>
    simp only [] at hc
    split at hc
    ·simp only [k1C,k1w,k1F,k1z] at hc
     obtain ⟨L,j,rfl⟩:=hc
     simp [opA] at h
    ·cases hc
   | _ =>
    simp only [k1C,k1w,k1F,k1z] at hc
    obtain ⟨L,j,a3,I,rfl⟩:=hc
    simp only [opA] at h
    split at h <;> cases h
  | invoke r name =>
   simp only [k1C,k1w,k1F,k1z] at hc
   obtain ⟨L,j,a3,I,rfl⟩:=hc
   simp only [opA] at h
   split at h
   ·split at h <;> cases h
   ·cases h
  | builtin b =>
   simp only [] at hc
   split at hc
   ·rename_i x t1 G M
    simp only [k1C,k1w,k1F,k1z] at hc
    obtain ⟨e,j,L,I,rfl⟩:=hc
    exact Y0D hR hT ho G M j I (by simpa [a0B] using F) h
   ·rename_i x t1 G M
    simp only [k1C,k1w,k1F,k1z] at hc
    obtain ⟨e,j,L,I,rfl⟩:=hc
    exact Y0y hR hT ho G M j I (by simpa [a0B] using F) h
   ·rename_i x ys _ G
    simp only [k1C,k1w,k1F,k1z] at hc
    obtain ⟨L,j,a4,I,rfl⟩:=hc
    simp only [a0B,l1E,k1L] at F
    exact K0r hR hT ho rfl G j I F.1 F.2 h
   ·rename_i x ys _ G
    simp only [k1C,k1w,k1F,k1z] at hc
    obtain ⟨L,j,a4,I,rfl⟩:=hc
    simp only [a0B,l1E,k1L] at F
    exact K0r hR hT ho rfl G j I F.1 F.2 h
   ·rename_i s x t1 u1 G M
    simp only [k1C,k1w,k1F,k1z] at hc
    obtain ⟨e,j,size,I,z,J,hc⟩:=hc
    split at hc
    ·rename_i q
     obtain ⟨a0,a1,rfl⟩:=q
     simp only [k1w,k1z] at hc
     obtain ⟨a2,N,s',U,L,Z,rfl⟩:=hc
     simp only [a0B,l1E,k1L,n1a] at F
     exact Y0v hR hT O ho rfl G M j I N J a0 a1 U Z F.1 F.2.1 h
    ·split at hc
     ·rename_i q
      obtain ⟨a0,a1,a5⟩:=q
      simp only [k1w,k1z] at hc
      obtain ⟨a2,N,s',U,L,Z,rfl⟩:=hc
      simp only [a0B,l1E,k1L,n1a] at F
      exact N0D hR hT O ho rfl G M j I N J a0 a1 a5 U Z F.1 F.2.1 h
     ·cases hc
   ·cases hc
 case panic x =>
  simp only [cOp,ho,k1C,k1w,k1F,k1z] at hc
  obtain ⟨L,j,rfl⟩:=hc
  simp only [opA] at h
  split at h <;> cases h
 all_goals (simp [cOp,ho] at hc)
theorem d0U {P:Program} {f:FuncId} (h:A0z P f=true) (args:Array Value) (w:World):(callFunc f args).run P w=.ok (.enter f args) w:=by
 unfold A0z at h
 cases hf:P.funcs[f]? with
 | none=>simp [hf] at h
 | some fn =>
  simp only [hf,k1L,m1k] at h
  obtain ⟨e,j⟩:=h
  cases hb:fn.body with
  | none=>simp [hb] at j
  | some c=>simp [callFunc,hf,hb];simpa using e
theorem p0a {α:Type} {k:Nat} {v:α}:∀ {l:List (Nat × α)},l.lookup k=some v->(k,v) ∈ l
 | [],h=>by simp at h
 | (k',v') :: r,h=>by
  rw [List.lookup_cons] at h
  split at h
  ·rename_i c
   have:k=k':=by simpa using c
   subst this
   simp only [k1z] at h
   subst h
   exact n1B
  ·exact m1I _ (p0a h)
def x0l:SOp->Bool
 | .call _ _ _ | .callv _ _ _ | .inv _ _ _ _=>true
 | _=>false
theorem m0M {f:FuncId} {args:List Value} {l:Bool} (h:opA fl t H so=.call f args l):x0l so=true:=by
 cases so <;> simp only [opA] at h <;> first
  | rfl
  | (simp at h;done)
  | (unfold b0H at h;split at h <;> cases h)
  | (unfold g0Q at h;split at h <;> cases h)
  | (split at h <;> first | (cases h;done) | (split at h <;> first | (cases h;done) | (split at h <;> first | (cases h;done) | (unfold b0H at h;split at h <;> cases h))) | (unfold b0H at h;split at h <;> cases h))
theorem u0q (hc:cOp X.P lone o.op=some so) (hs:x0l so=true):∃ c,o.op=.call c:=by
 cases ho:o.op
 case call c=>exact ⟨c,rfl⟩
 all_goals
  exfalso
  cases so <;> simp only [x0l,k1W] at hs
  all_goals
   simp only [cOp,ho,m1A,k1C,k1w,k1F,k1z,reduceCtorEq,and_false,exists_const,exists_false] at hc
   try (repeat' (first | (simp only [k1w,k1z,reduceCtorEq,and_false,exists_const,exists_false] at hc;done) | (obtain ⟨_,_,hc⟩:=hc) | (split at hc)))
theorem C0o (hc:cOp X.P lone o.op=some so) (G:(a0B so).all a0U=true) (hT:CR X φ w.shape? t a.tmps.toList) {f:FuncId} {args:List Value} {l:Bool} (h:opA fl t H so=.call f args l) :
  ∃ q:Array Value,CR X φ w.shape? args q.toList/\(execOp a.eval o).run X.P w=(callFunc f q).run X.P w:=by
 cases ho:o.op
 case call c =>
  obtain ⟨y,j,a7⟩:=c
  simp only [cOp,ho] at hc
  cases y with
  | value g =>
   cases g with
   | func g =>
    simp only [] at hc
    split at hc
    ·simp only [k1C,k1w,k1F,k1z] at hc
     obtain ⟨a1,u,rfl⟩:=hc
     simp only [opA,OpRes.call.injEq] at h
     obtain ⟨rfl,rfl,rfl⟩:=h
     refine ⟨j.map a.eval,by simpa using j0a hT u (by simpa [a0B] using G),?_⟩
     simp [execOp,ho,resolve,Deferred.ofValue,Act.eval,invoke]
    ·cases hc
   | _ =>
    simp only [k1C,k1w,k1F,k1z] at hc
    obtain ⟨N,u,a1,F,rfl⟩:=hc
    simp only [a0B,l1E,k1L] at G
    have hv:=b0J hT u G.1
    have M:=j0a hT F G.2
    simp only [opA] at h
    split at h
    ·rename_i g first captured e1
     simp only [OpRes.call.injEq] at h
     obtain ⟨rfl,rfl,rfl⟩:=h
     rw [e1] at hv
     generalize hg:a.eval _=gg at hv
     cases hv with
     | func _ _ _ f' c' k1 k2 k3 k4 =>
      have c1:CR X φ w.shape? first.toList f'.toList:=VR.agg_iff.1 (.agg _ _ k1 k2)
      have c2:CR X φ w.shape? captured.toList c'.toList:=VR.agg_iff.1 (.agg _ _ k3 k4)
      refine ⟨f' ++ j.map a.eval ++ c',by simpa using (c1.append M).append c2,?_⟩
      simp [execOp,ho,resolve,Deferred.ofValue,hg,invoke]
    ·cases h
  | invoke r name =>
   simp only [k1C,k1w,k1F,k1z] at hc
   obtain ⟨N,u,a1,F,rfl⟩:=hc
   simp only [a0B,l1E,k1L] at G
   have hv:=b0J hT u G.1
   have M:=j0a hT F G.2
   simp only [opA] at h
   split at h
   ·rename_i ty v e1
    split at h
    ·rename_i g a5
     simp only [OpRes.call.injEq] at h
     obtain ⟨rfl,rfl,rfl⟩:=h
     rw [e1] at hv
     generalize hg:a.eval r=gg at hv
     cases hv with
     | iface _ _ v' k1 =>
      refine ⟨#[v'] ++ j.map a.eval,by simpa using k1.cons_cr M,?_⟩
      -- the method is found, direct, of a value
      have s:(ty,g) ∈ u0O X.P name:=p0a a5
      unfold u0O at s
      rw [List.mem_filterMap] at s
      obtain ⟨t0,Z,x⟩:=s
      have Z:=l1G.1 Z
      split at x
      ·rename_i i hi
       split at x
       ·rename_i m I
        split at x
        ·rename_i g0 fs a4 a0
         split at x
         ·rename_i U
          simp only [k1z,m1t] at x
          obtain ⟨rfl,rfl⟩:=x
          simp only [k1L] at U
          have L:m.path.toList=[]:=by simpa using U.1
          have R:∃ k,X.P.types.size + Made.depth=k + 1:=⟨X.P.types.size + Made.depth - 1,by omega⟩
          obtain ⟨k,hk⟩:=R
          have J:(method (X.P.types.size + Made.depth) t0 v' name).run X.P w=.ok (g0,v') w:=by
           rw [hk,method]
           simp [typeInfo,hi,I,L,follow,a4,receiverAt,run_underlying a0,Place.get]
          have hz:(#[Value.iface t0 v'] ++ j.map a.eval)[0]? = some (.iface t0 v'):=by simp [Array.getElem?_append]
          have a3:(#[Value.iface t0 v'] ++ j.map a.eval).extract 1 (#[Value.iface t0 v'] ++ j.map a.eval).size=j.map a.eval:=by
           apply Array.ext';simp [k1J]
          simp only [execOp,ho,resolve,Sem.run_bind,Sem.run_pure,Result.andThen_ok,hg,invoke,hz,a3,callMethod,run_program,J]
         ·cases x
        ·cases x
       ·cases x
      ·cases x
    ·cases h
   ·cases h
  | builtin b =>
   simp only [] at hc
   split at hc
   ·simp only [k1C,k1w,k1F,k1z] at hc
    obtain ⟨e,u,N,F,rfl⟩:=hc
    simp only [opA] at h;split at h <;> cases h
   ·simp only [k1C,k1w,k1F,k1z] at hc
    obtain ⟨e,u,N,F,rfl⟩:=hc
    simp only [opA] at h;unfold b0H at h;split at h <;> cases h
   ·simp only [k1C,k1w,k1F,k1z] at hc
    obtain ⟨N,u,a6,F,rfl⟩:=hc
    simp only [opA] at h;unfold b0H at h;split at h <;> cases h
   ·simp only [k1C,k1w,k1F,k1z] at hc
    obtain ⟨N,u,a6,F,rfl⟩:=hc
    simp only [opA] at h;unfold b0H at h;split at h <;> cases h
   ·simp only [k1C,k1w,k1F,k1z] at hc
    obtain ⟨e,u,size,F,z,h3,hc⟩:=hc
    split at hc
    ·simp only [k1w,k1z] at hc
     obtain ⟨a2,h4,s',h5,N,h6,rfl⟩:=hc
     simp only [opA] at h;unfold g0Q at h;split at h <;> cases h
    ·split at hc
     ·simp only [k1w,k1z] at hc
      obtain ⟨a2,h4,s',h5,N,h6,rfl⟩:=hc
      simp only [opA] at h;split at h <;> cases h
     ·cases hc
   ·cases hc
 all_goals
  obtain ⟨c,O⟩:=u0q hc (m0M h)
  rw [ho] at O;cases O
end
section
variable {H H' H1:a0f} {fl:Nat} {t:b0c} {so:SOp}
inductive Turn (fl:Nat) (ws:List Nat) (H:a0f):a0f->Prop
 | same:Turn fl ws H H
 | push (r:Blk):Turn fl ws H (H.push r)
 | set (b:Nat) (e:TypeId) (cs cs':List Value) (h:H.bk b=.row false e cs) (hb:b ∈ ws) (hf:fl<=b):Turn fl ws H (H.setIfInBounds b (.row false e cs'))
 | move (b:Nat) (e:TypeId) (cs:List Value) (r:Blk) (h:H.bk b=.row false e cs) (hb:b ∈ ws) (hf:fl<=b):Turn fl ws H ((H.setIfInBounds b .dead).push r)
theorem q0O {v:Value} (h:opA fl t H so=.val v H1):Turn fl (d0m t so).2 H H1:=by
 have opt:∀ {x:Option Value},b0H H x=.val v H1->Turn fl (d0m t so).2 H H1:=fun {x} q=>by
  cases x with
  | none=>simp [b0H] at q
  | some u=>simp [b0H] at q;rw [<- q.2];exact .same
 cases so <;> simp only [opA] at h
 case mv=>simp at h;rw [<- h.2];exact .same
 case pick=>split at h <;> simp at h <;> (rw [<- h.2];exact .same)
 case alloc=>simp at h;rw [<- h.2];exact .push _
 case box=>simp at h;rw [<- h.2];exact .push _
 case build=>exact opt h
 case lit=>split at h <;> simp at h;rw [<- h.2];exact .push _
 case load=>exact opt h
 case store n a x =>
  split at h
  ·rename_i p hp
   split at h
   ·cases h
   ·split at h
    ·rename_i z c
     simp at h;rw [<- h.2]
     unfold a0f.write? at c
     split at c
     ·rename_i e cs k
      split at c
      ·rename_i hc;cases c
       exact .set _ _ _ _ k (by simp [d0m,hp,blkOf]) hc.1
      ·cases c
     ·cases c
    ·cases h
  ·cases h
 case chk=>split at h <;> simp at h <;> (rw [<- h.2];exact .same)
 case bin=>exact opt h
 case un=>exact opt h
 case conv=>split at h <;> simp at h;rw [<- h.2];exact .same
 case iface=>simp at h;rw [<- h.2];exact .same
 case mkfn=>simp at h;rw [<- h.2];exact .same
 case mk =>
  split at h
  ·split at h <;> simp at h;rw [<- h.2];exact .push _
  ·cases h
 case sl => split at h; · cases h
            ·exact opt h
 case fa => split at h
            ·split at h <;> simp at h;rw [<- h.2];exact .same
            ·cases h
 case fa0 =>
  split at h
  ·split at h
   ·split at h <;> simp at h;rw [<- h.2];exact .same
   ·cases h
  ·cases h
 case fld=>exact opt h
 case ia =>
  split at h
  ·split at h <;> simp at h;rw [<- h.2];exact .same
  ·cases h
 case ext =>
  split at h
  ·exact opt h
  ·cases h
 case call=>cases h
 case callv=>split at h <;> cases h
 case inv =>
  split at h
  ·split at h <;> cases h
  ·cases h
 case len=>split at h <;> simp at h;rw [<- h.2];exact .same
 case cap=>exact opt h
 case appz=>split at h <;> simp at h;rw [<- h.2];exact .push _
 case mnx=>exact opt h
 case app e size bytes s x =>
  cases hap:i0H fl H e size bytes (ev t s) (ev t x) with
  | none=>simp [hap,g0Q] at h
  | some r =>
   obtain ⟨G,F⟩:=r
   simp only [hap,g0Q,OpRes.val.injEq] at h
   obtain ⟨rfl,rfl⟩:=h
   unfold i0H at hap
   split at hap
   ·rename_i base len cap J n L y e2
    split at hap
    ·cases hap;exact .same
    ·split at hap
     ·split at hap
      ·cases hap
      ·split at hap
       ·cases hap
       ·split at hap
        ·cases hap
        split at hap
        ·split at hap
         ·cases hap;exact .push _
         ·cases hap
        ·rename_i I
         split at hap
         ·cases hap;exact .push _
         rename_i j
         split at hap
         ·cases hap
         ·split at hap
          ·cases hap;exact .push _
          ·split at hap
           ·rename_i e' cs k
            split at hap
            ·rename_i hc;cases hap
             exact .move _ _ _ _ k (by simp only [d0m,y,blkW];rw [k1y j];simp) hc.2
            ·cases hap
           ·cases hap
     ·cases hap
   ·cases hap
 case pan=>split at h <;> cases h
structure g0d (fl:Nat) (H H1:a0f):Prop where
 size:H.size<=H1.size
 low:∀ b,b < fl->H1.bk b=H.bk b
 kind:∀ b e cs,b < H.size->H1.bk b=.row false e cs->∃ cs0,H.bk b=.row false e cs0
 kindR:∀ b e cs,b < H.size->H1.bk b=.row true e cs->H.bk b=.row true e cs
theorem g0d.refl:g0d fl H H:=⟨k1x _,fun _ _=>rfl,fun _ _ cs _ h=>⟨cs,h⟩,fun _ _ _ _ h=>h⟩
theorem g0d.trans {c:Nat} {q:a0f} (h:g0d fl H H1) (k:g0d c H1 q) (v:fl<=c):g0d fl H q :=
 ⟨k1H h.size k.size,fun b hb=>(k.low b (by omega)).trans (h.low b hb),fun b e cs hb j=>by
  obtain ⟨s,u⟩:=k.kind b e cs (k1P hb h.size) j
  exact h.kind b e s hb u,fun b e cs hb j=>h.kindR b e cs hb (k.kindR b e cs (k1P hb h.size) j)⟩
theorem Turn.keep {x:List Nat} (v:fl<=H.size) (h:Turn fl x H H1):g0d fl H H1:=by
 cases h with
 | same=>exact g0d.refl
 | push r=>exact ⟨by simp,fun b hb=>by rw [a0L,k1y (by omega)],fun b e cs hb j=>by rw [a0L,k1y (by omega)] at j;exact ⟨cs,j⟩,fun b e cs hb j=>by rw [a0L,k1y (by omega)] at j;exact j⟩
 | set b e cs cs' h hb hf =>
  have q:=a0k h
  exact ⟨by simp,fun c hc=>by rw [b0a _ _ _ _ q,k1y (by omega)],fun c s k hc j=>by
   rw [b0a _ _ _ _ q] at j
   split at j
   ·rename_i u;subst u;cases j;exact ⟨cs,h⟩
   ·exact ⟨k,j⟩,fun c s k hc j=>by
   rw [b0a _ _ _ _ q] at j
   split at j
   ·cases j
   ·exact j⟩
 | move b e cs r h hb hf =>
  have q:=a0k h
  exact ⟨by simp,fun c hc=>by rw [a0L,k1y (by simp;omega),b0a _ _ _ _ q,k1y (by omega)],fun c s k hc j=>by
   rw [a0L,k1y (by simp;omega),b0a _ _ _ _ q] at j
   split at j
   ·cases j
   ·exact ⟨k,j⟩,fun c s k hc j=>by
   rw [a0L,k1y (by simp;omega),b0a _ _ _ _ q] at j
   split at j
   ·cases j
   ·exact j⟩
theorem Turn.changed {q:List Nat} (h:Turn fl q H H1) {b:Nat} (hb:b < H.size) (j:H1.bk b ≠ H.bk b):b ∈ q:=by
 cases h with
 | same=>exact k1Q rfl j
 | push r=>rw [a0L,k1y (by omega)] at j;exact k1Q rfl j
 | set c e cs cs' h hc hf =>
  by_cases k:b=c
  ·subst k;exact hc
  ·rw [b0a _ _ _ _ (a0k h),k1y k] at j;exact k1Q rfl j
 | move c e cs r h hc hf =>
  by_cases k:b=c
  ·subst k;exact hc
  ·rw [a0L,k1y (by simp;omega),b0a _ _ _ _ (a0k h),k1y k] at j;exact k1Q rfl j
def h0U (call:Nat->FuncId->List Value->a0f->Res (Value × a0f)):Prop :=
 ∀ fl f args H v H1,call fl f args H=.ok (v,H1)->fl<=H.size->g0d fl H H1
section
variable {call:Nat->FuncId->List Value->a0f->Res (Value × a0f)} (hcall:h0U call)
include hcall
theorem k0U {v:Value} (e:fl<=H.size) (h:b0E call fl t H so=.ok (v,H1)):g0d fl H H1:=by
 unfold b0E at h
 split at h
 ·cases h
 ·cases h
 ·rename_i v' j hv
  simp at h;obtain ⟨rfl,rfl⟩:=h
  exact (q0O hv).keep e
 ·rename_i f args lone hc
  have c:=hcall _ _ _ _ _ _ h (by split <;> omega)
  exact ⟨c.size,fun b hb=>c.low b (by split <;> omega),c.kind,c.kindR⟩
theorem n0I:∀ (ops:List a0J) (t:b0c) (H:a0f),fl<=H.size->∀ {e c H1},f0s call fl ops t H=.fin e c H1->g0d fl H H1/\e=.normal
 | [],t,H,_,e,c,H1,h=>by simp [f0s] at h;obtain ⟨rfl,rfl,rfl⟩:=h;exact ⟨g0d.refl,rfl⟩
 | o :: r,t,H,hfl,e,c,H1,h=>by
  simp only [f0s] at h
  split at h
  ·split at h
   ·cases h
   ·cases h
   ·rename_i v j hs
    have k:=k0U hcall hfl hs
    obtain ⟨s,q⟩:=n0I r _ j (k1H hfl k.size) h
    exact ⟨k.trans s (k1x _),q⟩
  ·exact n0I r _ H hfl h
theorem f0R (bef:List Nat) (pairs:List (Nat × Nat)):∀ (ops:List a0J) (i:Nat) (t:b0c) (H:a0f) (p:Option (Nat × Value)) (c:List (List Nat × List Nat)),fl<=H.size ->
  ∀ {e j H1},b0V call fl bef pairs i ops t H p c=.fin e j H1->g0d fl H H1/\e=.normal
 | [],i,t,H,p,c,_,e,j,H1,h=>by
  simp only [b0V] at h
  split at h
  ·split at h
   ·cases h;exact ⟨g0d.refl,rfl⟩
   ·cases h
  ·cases h
 | o :: r,i,t,H,p,c,hfl,e,j,H1,h=>by
  simp only [b0V] at h
  split at h
  ·exact f0R bef pairs r _ _ H _ _ hfl h
  ·split at h
   ·split at h
    ·cases h
    ·split at h
     ·exact f0R bef pairs r _ _ H _ _ hfl h
     ·cases h
    ·rename_i v q hs
     have k:=k0U hcall hfl hs
     obtain ⟨u,s⟩:=f0R bef pairs r _ _ q _ _ (k1H hfl k.size) h
     exact ⟨k.trans u (k1x _),s⟩
   ·exact f0R bef pairs r _ _ H _ _ hfl h
theorem c0u:∀ (n:Nat) (c:SCode) (t:b0c) (H:a0f),fl<=H.size->∀ {e s H1},b0h call fl n c t H=.fin e s H1->g0d fl H H1
 | 0,_,_,_,_,_,_,_,h=>by simp [b0h] at h
 | n + 1,c,t,H,hfl,e,s,H1,h=>by
  cases c <;> simp only [b0h] at h
  case skip=>cases h;exact g0d.refl
  case exit=>cases h;exact g0d.refl
  case ret=>cases h;exact g0d.refl
  case seq a b =>
   split at h
   ·rename_i q j u
    have k:=c0u n a t H hfl u
    exact k.trans (c0u n b q j (k1H hfl k.size) h) (k1x _)
   ·exact c0u n a t H hfl h
  case cond c a b =>
   split at h
   ·exact c0u n a t H hfl h
   ·exact c0u n b t H hfl h
   ·cases h
  case block id c =>
   split at h
   ·rename_i v q j hc
    have k:=c0u n c t H hfl hc
    split at h <;> (cases h;exact k)
   ·exact c0u n c t H hfl h
  case loop c =>
   split at h
   ·rename_i q j hc
    have k:=c0u n c t H hfl hc
    exact k.trans (c0u n (.loop c) q j (k1H hfl k.size) h) (k1x _)
   ·exact c0u n c t H hfl h
  case reg ops=>exact (n0I hcall ops t H hfl h).1
  case draw ops bef pairs=>exact (f0R hcall bef pairs ops 0 t H none [] hfl h).1
end
theorem h0Y (E:Env):∀ n,h0U (b0q E n)
 | 0=>fun _ _ _ _ _ _ h=>by simp [b0q] at h
 | n + 1=>fun fl f args H v H1 h c=>by
  simp only [b0q] at h
  split at h
  ·split at h
   ·simp at h;obtain ⟨_,rfl⟩:=h;exact g0d.refl
   split at h
   ·split at h
    ·split at h
     ·rename_i q y u p s
      split at h
      case isFalse=>cases h
      unfold e0e at h
      split at h
      ·cases h
      ·simp at h;obtain ⟨_,rfl⟩:=h;exact g0d.refl
      ·cases h
      ·rename_i vs j hc
       split at h
       ·split at h
        case isFalse=>cases h
        simp at h;obtain ⟨_,rfl⟩:=h
        have k:=h0Y E n _ _ _ _ _ _ hc (by omega)
        exact ⟨k.size,fun b hb=>k.low b (by omega),k.kind,k.kindR⟩
       ·cases h
      ·cases h
     ·cases h
    ·cases h
   ·cases h
  ·split at h
   ·split at h
    ·cases h
    ·cases h
    ·rename_i e z j x
     have k:=c0u (h0Y E n) n _ _ H c x
     split at h
     ·cases h
     ·split at h
      ·simp at h;obtain ⟨_,rfl⟩:=h;exact k
      ·cases h
   ·cases h
end
section
variable {H H' H1 G G1:a0f} {fl:Nat} {t:b0c} {so:SOp}
structure Par (H H1 G G1:a0f):Prop where
 size:G1.size=H1.size
 same:∀ b,b < H.size->H1.bk b=H.bk b->G1.bk b=G.bk b
 diff:∀ b,b < H.size->H1.bk b ≠ H.bk b->G1.bk b=H1.bk b
 more:∀ b,H.size<=b->G1.bk b=H1.bk b
theorem i0I {H:a0f} {b:Nat} (h:H.size<=b):H.bk b=.dead:=by
 simp only [a0f.bk,k1I]
 rw [m1z h];rfl
theorem Par.refl (hs:G.size=H.size):Par H H G G :=
 ⟨hs,fun _ _ _=>rfl,fun _ _ h=>k1Q rfl h,fun b hb=>by rw [i0I hb,i0I (by omega)]⟩
theorem Par.push (hs:G.size=H.size) (r:Blk):Par H (H.push r) G (G.push r) :=
 ⟨by simp [hs],fun b hb _=>by rw [a0L,k1y (by omega)],fun b hb h=>by rw [a0L,k1y (by omega)] at h;exact k1Q rfl h,fun b hb=>by
  rw [a0L,a0L,hs]
  split
  ·rfl
  ·rw [i0I (show G.size<=b by omega),i0I hb]⟩
theorem Par.set (hs:G.size=H.size) {c:Nat} (hc:c < H.size) (j:G.bk c=H.bk c) (r:Blk):Par H (H.setIfInBounds c r) G (G.setIfInBounds c r) :=
 ⟨by simp [hs],fun b hb h=>by
  rw [b0a _ _ _ _ hc] at h;rw [b0a _ _ _ _ (by omega)]
  split at h
  ·rename_i e;subst e;rw [k1B rfl,h,j]
  ·rename_i e;rw [k1y e],fun b hb h=>by
  rw [b0a _ _ _ _ hc] at h ⊢;rw [b0a _ _ _ _ (by omega)]
  split at h
  ·rename_i e;rw [k1B e,k1B e]
  ·exact k1Q rfl h,fun b hb=>by
  rw [b0a _ _ _ _ hc,b0a _ _ _ _ (by omega),k1y (by omega),k1y (by omega),i0I hb,i0I (by omega)]⟩
theorem Par.move (hs:G.size=H.size) {c:Nat} (hc:c < H.size) (k:G.bk c=H.bk c) (r s:Blk):Par H ((H.setIfInBounds c r).push s) G ((G.setIfInBounds c r).push s):=by
 have p:=Par.set hs hc k r
 have e:(H.setIfInBounds c r).size=H.size:=by simp
 have j:(G.setIfInBounds c r).size=G.size:=by simp
 refine ⟨by simp [hs],fun b hb h=>?_,fun b hb h=>?_,fun b hb=>?_⟩
 ·rw [a0L,k1y (by omega)] at h ⊢;exact p.same b hb h
 ·rw [a0L,k1y (by omega)] at h ⊢;rw [a0L,k1y (by omega)];exact p.diff b hb h
 ·rw [a0L,a0L,e,j,hs]
  split
  ·rfl
  ·exact p.more b hb
theorem i0Y {b off n:Nat} (h:G.bk b=H.bk b):G.cells? b off n=H.cells? b off n:=by unfold a0f.cells?;rw [h]
theorem C0n {v:Value} (h:opA fl t H so=.val v H1) (hs:G.size=H.size) (c:∀ b,b ∈ (d0m t so).1 ∨ b ∈ (d0m t so).2->G.bk b=H.bk b) :
  ∃ G1,opA fl t G so=.val v G1/\Par H H1 G G1:=by
 have opt:∀ {x y:Option Value},b0H H x=.val v H1->y=x->∃ G1,b0H G y=.val v G1/\Par H H1 G G1:=fun {x y} N O=>by
  subst O
  cases y with
  | none=>simp [b0H] at N
  | some u=>simp [b0H] at N;obtain ⟨rfl,rfl⟩:=N;exact ⟨G,rfl,Par.refl hs⟩
 cases so <;> simp only [opA] at h ⊢
 case mv=>simp at h;obtain ⟨rfl,rfl⟩:=h;exact ⟨G,rfl,Par.refl hs⟩
 case pick=>split at h <;> simp at h <;> (obtain ⟨rfl,rfl⟩:=h;exact ⟨G,rfl,Par.refl hs⟩)
 case alloc=>simp at h;obtain ⟨rfl,rfl⟩:=h;rw [hs];exact ⟨_,rfl,Par.push hs _⟩
 case box=>simp at h;obtain ⟨rfl,rfl⟩:=h;rw [hs];exact ⟨_,rfl,Par.push hs _⟩
 case build=>exact opt h rfl
 case lit=>split at h <;> simp at h;obtain ⟨rfl,rfl⟩:=h;rw [hs];exact ⟨_,rfl,Par.push hs _⟩
 case load agg n a =>
  refine opt h ?_
  unfold b0v
  split
  ·rename_i p hp
   have hb:G.bk p.block=H.bk p.block:=c _ (.inl (by simp [d0m,hp,blkOf]))
   rw [i0Y hb]
  ·rfl
 case store n a x =>
  split at h
  ·rename_i p hp
   have hb:G.bk p.block=H.bk p.block:=c _ (.inr (by simp [d0m,hp,blkOf]))
   split at h
   ·cases h
   ·rename_i hc
    rw [k1y hc]
    split at h
    ·rename_i H2 z
     simp at h;obtain ⟨rfl,rfl⟩:=h
     unfold a0f.write? at z ⊢
     rw [hb]
     split at z
     ·rename_i e cs J
      split at z
      ·rename_i q;cases z
       rw [k1B q]
       exact ⟨_,rfl,Par.set hs (a0k J) hb _⟩
      ·cases z
     ·cases z
    ·cases h
  ·cases h
 case chk=>split at h <;> simp at h <;> (obtain ⟨rfl,rfl⟩:=h;exact ⟨G,rfl,Par.refl hs⟩)
 case bin=>exact opt h rfl
 case un=>exact opt h rfl
 case conv=>split at h <;> simp at h;obtain ⟨rfl,rfl⟩:=h;exact ⟨G,rfl,Par.refl hs⟩
 case iface=>simp at h;obtain ⟨rfl,rfl⟩:=h;exact ⟨G,rfl,Par.refl hs⟩
 case mkfn=>simp at h;obtain ⟨rfl,rfl⟩:=h;exact ⟨G,rfl,Par.refl hs⟩
 case mk =>
  split at h
  ·split at h
   ·rename_i hc;simp at h;obtain ⟨rfl,rfl⟩:=h;rw [k1B hc,hs];exact ⟨_,rfl,Par.push hs _⟩
   ·cases h
  ·cases h
 case sl e size x lo hi mx =>
  have he:elemOk G e (ev t x)=elemOk H e (ev t x):=by
   unfold elemOk
   split
   ·rename_i p _ _ hp
    have hb:G.bk p.block=H.bk p.block:=c _ (.inl (by simp [d0m,hp,blkOf]))
    rw [hb]
   ·rfl
  rw [he]
  split at h
  ·cases h
  ·rename_i hc;rw [k1y hc];exact opt h rfl
 case fa =>
  split at h
  ·split at h
   ·cases h
   ·rename_i hc;simp at h;obtain ⟨rfl,rfl⟩:=h;rw [k1y hc];exact ⟨G,rfl,Par.refl hs⟩
  ·cases h
 case fa0 e x =>
  split at h
  ·rename_i p hp
   have hb:G.bk p.block=H.bk p.block:=c _ (.inl (by simp [d0m,hp,blkOf]))
   rw [hb]
   split at h
   ·split at h
    ·rename_i hc;simp at h;obtain ⟨rfl,rfl⟩:=h;rw [k1B hc];exact ⟨G,rfl,Par.refl hs⟩
    ·cases h
   ·cases h
  ·cases h
 case fld=>exact opt h rfl
 case ia =>
  split at h
  ·split at h
   ·rename_i hc;simp at h;obtain ⟨rfl,rfl⟩:=h;rw [k1B hc];exact ⟨G,rfl,Par.refl hs⟩
   ·cases h
  ·cases h
 case ext =>
  split at h
  ·exact opt h rfl
  ·cases h
 case call=>cases h
 case callv=>split at h <;> cases h
 case inv =>
  split at h
  ·split at h <;> cases h
  ·cases h
 case len=>split at h <;> simp at h;obtain ⟨rfl,rfl⟩:=h;exact ⟨G,rfl,Par.refl hs⟩
 case cap=>exact opt h rfl
 case appz=>split at h <;> simp at h;obtain ⟨rfl,rfl⟩:=h;rw [hs];exact ⟨_,rfl,Par.push hs _⟩
 case mnx=>exact opt h rfl
 case app e size bytes s x =>
  cases hap:i0H fl H e size bytes (ev t s) (ev t x) with
  | none=>simp [hap,g0Q] at h
  | some r =>
   obtain ⟨rv,rH⟩:=r
   simp only [hap,g0Q,OpRes.val.injEq] at h
   obtain ⟨rfl,rfl⟩:=h
   unfold i0H at hap ⊢
   split at hap
   ·rename_i base len cap xb n xc e1 e2
    split at hap
    ·rename_i L;cases hap;rw [k1B L];exact ⟨G,rfl,Par.refl hs⟩
    ·rename_i L;rw [k1y L]
     split at hap
     ·rename_i F;rw [k1B F]
      split at hap
      ·cases hap
      ·rename_i xp
       have I:G.bk xp.block=H.bk xp.block:=c _ (.inl (by simp [d0m,e2,blkOf]))
       simp only [i0Y I]
       split at hap
       ·cases hap
       ·rename_i new R
        try simp only []
        split at hap
        ·cases hap
        rename_i M;rw [k1y M]
        split at hap
        ·split at hap
         ·rename_i hz;cases hap;rw [k1B hz,hs];exact ⟨_,rfl,Par.push hs _⟩
         ·cases hap
        ·rename_i Z
         split at hap
         ·rename_i j;cases hap;rw [k1B j,hs];exact ⟨_,rfl,Par.push hs _⟩
         rename_i j;rw [k1y j]
         have k:G.bk Z.block=H.bk Z.block:=c _ (.inr (by simp only [d0m,e1,blkW];rw [k1y j];simp))
         simp only [i0Y k]
         split at hap
         ·cases hap
         ·rename_i old U
          try simp only []
          split at hap
          ·rename_i hc;cases hap;rw [k1B hc,hs];exact ⟨_,rfl,Par.push hs _⟩
          ·rename_i hc;rw [k1y hc,k]
           split at hap
           ·rename_i e' cs J
            try simp only []
            split at hap
            ·rename_i q;cases hap;rw [k1B q,hs];exact ⟨_,rfl,Par.move hs (a0k J) k _ _⟩
            ·cases hap
           ·cases hap
     ·cases hap
   ·cases hap
 case pan=>split at h <;> cases h
theorem i0M {f:FuncId} {args:List Value} {l:Bool} (h:opA fl t H so=.call f args l):∀ fl G,opA fl t G so=.call f args l:=by
 intro fl' G
 cases so <;> simp only [opA] at h ⊢
 case call=>simpa using h
 case callv=>split at h <;> simp_all
 case inv =>
  split at h
  ·split at h <;> simp_all
  ·cases h
 case ext=>split at h;(unfold b0H at h;split at h <;> cases h);cases h
 case app=>unfold g0Q at h;split at h <;> cases h
 case store=>split at h;(split at h;cases h;(split at h <;> cases h));cases h
 case fa0=>split at h;(split at h;(split at h <;> cases h);cases h);cases h
 case sl=>split at h;cases h;(unfold b0H at h;split at h <;> cases h)
 all_goals first
  | (simp at h;done)
  | (unfold b0H at h;split at h <;> cases h)
  | (split at h <;> first | (cases h;done) | (split at h <;> cases h))
theorem g0s {v:Value} (h:opA fl t H so=.pan v):(∃ c u,v=.iface c u)/\∃ x,so=.pan x/\ev t x=v:=by
 cases so <;> simp only [opA] at h
 case pan x=>split at h <;> cases h;rename_i c u e;exact ⟨⟨_,_,rfl⟩,x,rfl,e⟩
 case call=>cases h
 case callv=>split at h <;> cases h
 case inv =>
  split at h
  ·split at h <;> cases h
  ·cases h
 case ext=>split at h;(unfold b0H at h;split at h <;> cases h);cases h
 case app=>unfold g0Q at h;split at h <;> cases h
 case store=>split at h;(split at h;cases h;(split at h <;> cases h));cases h
 case fa0=>split at h;(split at h;(split at h <;> cases h);cases h);cases h
 case sl=>split at h;cases h;(unfold b0H at h;split at h <;> cases h)
 all_goals first
  | (simp at h;done)
  | (unfold b0H at h;split at h <;> cases h)
  | (split at h <;> first | (cases h;done) | (split at h <;> cases h))
end
section
variable {X:Cx} {φ φ':Inj} {S:Shp} {H H':a0f} {w w':World} {fl:Nat} {t:b0c} {a:Act} {o:Oper} {so:SOp} {lone:Bool}
structure Pan (X:Cx) (fl:Nat) (φ:Inj) (H:a0f) (w:World) (w':World):Prop where
 shp:∀ B x,w.shape? B=some x->w'.shape? B=some x
 wsz:w.heap.size<=w'.heap.size
 os:w'.os=w.os
 tape:w'.tape=w.tape
 out:w'.output=w.output
 frame:∀ B,B < w.heap.size->(∀ b o e cs,φ b=some (B,o)->fl<=b->H.bk b ≠ .row false e cs)->w'.heap[B]? = w.heap[B]?
theorem Pan.after {q:Nat} {u:Inj} {H1:a0f} {z F:World} (h:d0v X fl φ H w u H1 z) (k:Pan X q u H1 z F) (R:fl<=q) (N:Rel X φ H w):Pan X fl φ H w F :=
 { shp := fun B x hb => k.shp _ _ (h.shp _ _ hb)
   wsz:=k1H h.wsz k.wsz
   os:=k.os.trans h.os
   tape:=k.tape.trans h.tape
   out:=k.out.trans h.out
   frame:=fun B hB j=>by
    rw [k.frame B (k1P hB h.wsz) ?_,h.frame B hB j]
    intro b o e cs hb M s
    cases h1:φ b with
    | none =>
     rcases h.newB b B o hb h1 with v | ⟨b0,O,G,c,v,I,J⟩
     ·omega
     ·exact j b0 O G c v I J
    | some y =>
     have:=h.ext b y h1
     rw [hb] at this;cases this
     obtain ⟨c,L⟩:=h.kind b e cs (N.lt b _ h1) s
     exact j b o e c h1 (by omega) L }
theorem d0v.lower {c:Nat} (h:d0v X c φ H w φ' H' w') (y:fl<=c):d0v X fl φ H w φ' H' w' :=
 { h with
   keep:=fun b hb=>h.keep b (by omega)
   newB:=fun b B o hb u=>by
    rcases h.newB b B o hb u with j | ⟨b0,v,e,cs,j,x,q⟩
    ·exact .inl j
    ·exact .inr ⟨b0,v,e,cs,j,by omega,q⟩
   frame:=fun B hB k=>h.frame B hB (fun b o e cs hb s=>k b o e cs hb (by omega)) }
theorem Pan.lower {c:Nat} (h:Pan X c φ H w w') (q:fl<=c):Pan X fl φ H w w' :=
 { h with frame:=fun B hB j=>h.frame B hB (fun b o e cs hb k=>j b o e cs hb (by omega)) }
theorem Pan.same:Pan X fl φ H w w:=⟨fun _ _ h=>h,k1x _,rfl,rfl,rfl,fun _ _ _=>rfl⟩
def g1p:XA->Exit
 | .normal=>.normal
 | .exit id=>.exit id
 | .ret=>.ret
def K0F (X:Cx) (D:List Deferred) (fl:Nat) (φ:Inj) (H:a0f) (w:World):Out->Exit->Act->World->Prop
 | .bad,_,_,_=>False
 | .pan _,e,a',w'=>(∃ ty u,e=.panic [{ v:=.iface ty u,recovered:=false }])/\a'.defers=D/\Pan X fl φ H w w'
 | .fin x t' H',e,a',w'=>e=g1p x/\a'.defers=D/\∃ φ',CR X φ' w'.shape? t' a'.tmps.toList/\d0v X fl φ H w φ' H' w'
theorem K0F.after {D:List Deferred} {c:Inj} {H1:a0f} {s u:World} {out:Out} {e:Exit} {j:Act} (h:d0v X fl φ H w c H1 s) (q:Rel X φ H w) (k:K0F X D fl c H1 s out e j u):K0F X D fl φ H w out e j u:=by
 cases out with
 | bad=>exact k
 | pan v=>exact ⟨k.1,k.2.1,Pan.after h k.2.2 (k1x _) q⟩
 | fin x t' H' =>
  obtain ⟨y,z,φ',F,G⟩:=k
  exact ⟨y,z,φ',F,h.trans G (k1x _) q⟩
def e0l (X:Cx) (call:Nat->FuncId->List Value->a0f->Res (Value × a0f)):Prop :=
 ∀ (fl:Nat) (f:FuncId) (args:List Value) (H:a0f) (φ:Inj) (w:World) (args':Array Value),Rel X φ H w->CR X φ w.shape? args args'.toList->fl<=H.size ->
  (∀ v H',call fl f args H=.ok (v,H')->A0z X.P f=true/\Calls X.P f args' w fun e w'=>∃ v' φ',e=.returned v'/\VR X φ' w'.shape? v v'/\d0v X fl φ H w φ' H' w') /\
  (∀ v,call fl f args H=.pan v->(∃ ty u,v=.iface ty u)/\A0z X.P f=true /\
   Calls X.P f args' w fun e w'=>(∃ ty u,e=.panicked [{ v:=.iface ty u,recovered:=false }])/\Pan X fl φ H w w')
section
variable {call:Nat->FuncId->List Value->a0f->Res (Value × a0f)}
theorem z0f {P:Program} {op:Op} {x:Opd} (hc:cOp P lone op=some (.pan x)):∃ h,op=.panic h/\c0B h=some x:=by
 cases op
 case panic h =>
  simp only [cOp,k1C,k1w,k1F,k1z,SOp.pan.injEq] at hc
  obtain ⟨q,k,rfl⟩:=hc
  exact ⟨h,rfl,k⟩
 case call c =>
  exfalso
  obtain ⟨e,args,j⟩:=c
  cases e with
  | value f=>cases f <;> simp only [cOp] at hc <;> (try split at hc) <;> simp [k1w] at hc
  | invoke r n=>simp [cOp,k1w] at hc
  | builtin b =>
   simp only [cOp] at hc
   split at hc
   ·simp [k1w] at hc
   ·simp [k1w] at hc
   ·simp [k1w] at hc
   ·simp [k1w] at hc
   ·simp only [k1C,k1w] at hc
    obtain ⟨_,_,_,_,_,_,hc⟩:=hc
    split at hc
    ·simp [k1w] at hc
    ·split at hc
     ·simp [k1w] at hc
     ·cases hc
   ·cases hc
 all_goals
  exfalso
  simp only [cOp,m1A,k1C,k1w,k1F,k1z,reduceCtorEq,and_false,exists_const,exists_false] at hc
  try (repeat' (first | (simp only [k1w,k1z,reduceCtorEq,and_false,exists_const,exists_false] at hc;done) | (obtain ⟨_,_,hc⟩:=hc) | (split at hc)))
theorem w0D {P:Program} {K K':Act->World->Prop} {Q Q':Exit->Act->World->Prop} (j:∀ a w,K a w->K' a w) (k:∀ e a w,Q e a w->Q' e a w) (h:o.wp P a w K Q):o.wp P a w K' Q':=by
 unfold Oper.wp at *
 generalize (execOp a.eval o).run P w=r at *
 cases r with
 | ok n w' =>
  cases n <;> simp only [Oper.upon] at h ⊢ <;>
   first
    | exact j _ _ h
    | exact Calls.mono h (fun e u c=>by cases e <;> first | exact j _ _ c | exact k _ _ _ c | (obtain ⟨q,v,s⟩:=c;exact ⟨q,v,k _ _ _ s⟩))
    | exact Rows.mono h (fun _ _ c=>j _ _ c)
 | halt x w'=>cases x <;> simp only [Oper.upon] at h ⊢ <;> exact k _ _ _ h
theorem LetsOut.mo {Q Q':Exit->Act->World->Prop} (k:∀ e a w,Q e a w->Q' e a w) (h:LetsOut Q):LetsOut Q':=by
 obtain ⟨c,q,j⟩:=h;exact ⟨c,q,k _ _ _ j⟩
theorem d0n {P:Program} {ops:Array Oper} {Q Q':Exit->Act->World->Prop} (c:∀ e a w,Q e a w->Q' e a w):∀ {l:List Nat} {a:Act} {w:World},wpOps P ops Q l a w->wpOps P ops Q' l a w
 | [],_,_,h=>c _ _ _ h
 | i :: r,a,w,h=>by
  unfold wpOps at h ⊢
  split at h
  ·exact d0n c h
  ·split at h
   ·rename_i j
    rw [k1B j]
    rcases h with h | ⟨k,q⟩
    ·exact .inl (w0D (fun _ _ h=>d0n c h) c h)
    ·exact .inr ⟨k,LetsOut.mo c q⟩
   ·rename_i j
    rw [k1y j]
    exact d0n c h
theorem l0V (hcall:e0l X call) (hc:cOp X.P lone o.op=some so) (I:(a0B so).all a0U=true) (hR:Rel X φ H w) (hT:CR X φ w.shape? t a.tmps.toList) (G:fl<=H.size)
  {v:Value} (h:b0E call fl t H so=.ok (v,H')) {K:Act->World->Prop} {Q:Exit->Act->World->Prop} (y:Act) (J:execOp y.eval o=execOp a.eval o)
  (z:∀ φ' v' w',VR X φ' w'.shape? v v'->d0v X fl φ H w φ' H' w'->K (y.put o.dst v') w'):o.wp X.P y w K Q:=by
 unfold b0E at h
 unfold Oper.wp
 rw [J]
 split at h
 ·cases h
 ·cases h
 ·rename_i L H1 hv
  simp only [Res.ok.injEq,m1t] at h;obtain ⟨rfl,rfl⟩:=h
  obtain ⟨φ',w',v',u,k,j⟩:=b1I hc I hR hT G hv
  rcases u with u | ⟨rfl,u⟩
  ·rw [u];exact z φ' v' w' k j
  ·rw [u];exact z φ' _ w' k j
 ·rename_i f args l hv
  obtain ⟨q,F,x⟩:=C0o hc I hT hv
  obtain ⟨s,c⟩:=(hcall _ f args H φ w q hR F (show (if l=true then fl else max fl H.size)<=H.size by split <;> omega)).1 v H' h
  rw [x,d0U s]
  refine Calls.mono c ?_
  rintro e w' ⟨v',φ',rfl,k,j⟩
  exact z φ' v' w' k (j.lower (by split <;> omega))
theorem t0V (hcall:e0l X call) (hc:cOp X.P lone o.op=some so) (G:(a0B so).all a0U=true) (hR:Rel X φ H w) (hT:CR X φ w.shape? t a.tmps.toList) (L:fl<=H.size)
  {v:Value} (h:b0E call fl t H so=.pan v) {K:Act->World->Prop} {Q:Exit->Act->World->Prop} (y:Act) (J:execOp y.eval o=execOp a.eval o)
  (F:∀ q u w',Pan X fl φ H w w'->Q (.panic [{ v:=.iface q u,recovered:=false }]) y w'):o.wp X.P y w K Q:=by
 unfold b0E at h
 unfold Oper.wp
 rw [J]
 split at h
 ·cases h
 ·rename_i R hv
  obtain ⟨⟨q,u,rfl⟩,x,rfl,N⟩:=g0s hv
  obtain ⟨O,ho,I⟩:=z0f hc
  have hv:=b0J hT I (by simpa [a0B] using G)
  rw [N] at hv
  generalize M:a.eval O=g at hv
  cases hv with
  | iface _ _ u' hu =>
   have:(execOp a.eval o).run X.P w=.halt (.panic (.iface q u')) w:=by simp [execOp,ho,M,Instr.panic,goPanic]
   rw [this]
   exact F q u' w Pan.same
 ·cases h
 ·rename_i f args l hv
  obtain ⟨j,z,s⟩:=C0o hc G hT hv
  obtain ⟨_,k,c⟩:=(hcall _ f args H φ w j hR z (show (if l=true then fl else max fl H.size)<=H.size by split <;> omega)).2 v h
  rw [s,d0U k]
  refine Calls.mono c ?_
  rintro e w' ⟨⟨q,u,rfl⟩,hp⟩
  exact F q u w' (hp.lower (by split <;> omega))
theorem n0W {ops:Array Oper} {e:a0J} (hc:g0V X.P ops lone o=some e) (hT:∀ d c,e.g=some (d,c)->VR X φ S (get t d) (a.tmps.getD d undef)):Region.wanted o (yielded ops a.tmps)=b0k t e.g:=by
 unfold g0V at hc
 simp only [k1C,k1w] at hc
 obtain ⟨op,_,hc⟩:=hc
 split at hc
 ·split at hc
  ·rename_i h
   simp only [k1F,k1z] at hc;subst hc
   simp [Region.wanted,h,b0k]
  ·rename_i j c h
   simp only [k1C,k1w,k1F,k1z] at hc
   obtain ⟨x,s,d,v,rfl⟩:=hc
   have hv:=hT d c rfl
   simp only [Region.wanted,h,b0k,yielded,s,Option.bind_some,v,get]
   simp only [get] at hv
   have k:a.tmps.getD d undef=(a.tmps[d]?).getD undef:=by simp
   rw [k] at hv
   cases hd:a.tmps[d]? with
   | none =>
    rw [hd] at hv
    simp only [Option.getD_none] at hv
    generalize t.getD d undef=q at hv ⊢
    cases hv;rfl
   | some u =>
    rw [hd] at hv
    simp only [l1d] at hv
    generalize t.getD d undef=q at hv ⊢
    cases hv <;> first | rfl | simp
 ·cases hc
theorem q0b {ops:Array Oper} {c:a0J} (hc:g0V X.P ops lone o=some c) (hT:CR X φ w.shape? t a.tmps.toList):Region.wanted o (yielded ops a.tmps)=b0k t c.g :=
 n0W hc (fun d _ _=>by rw [a0V];exact hT.get d)
theorem e0o {ops:Array Oper} {c:a0J} (hc:g0V X.P ops lone o=some c):cOp X.P lone o.op=some c.op/\(a0B c.op).all a0U=true/\c.dst=o.dst:=by
 unfold g0V at hc
 simp only [k1C,k1w] at hc
 obtain ⟨op,e,hc⟩:=hc
 split at hc
 ·rename_i h
  split at hc
  ·simp only [k1F,k1z] at hc;subst hc;exact ⟨e,h,rfl⟩
  ·simp only [k1C,k1w,k1F,k1z] at hc
   obtain ⟨j,_,d,_,rfl⟩:=hc
   exact ⟨e,h,rfl⟩
 ·cases hc
theorem r0H (hcall:e0l X call) {D:List Deferred} {ops:Array Oper}:∀ (r:List a0J) (k:Nat) (t:b0c) (H:a0f) (φ:Inj) (w:World) (a:Act),
  (∀ i s,r[i]? = some s->∃ o,ops[k + i]? = some o/\g0V X.P ops true o=some s)->Rel X φ H w->CR X φ w.shape? t a.tmps.toList->fl<=H.size->a.defers=D->f0s call fl r t H ≠ .bad ->
  wpOps X.P ops (K0F X D fl φ H w (f0s call fl r t H)) (List.range' k r.length) a w
 | [],k,t,H,φ,w,a,_,hR,hT,_,hd,_=>⟨rfl,hd,φ,hT,d0v.refl hR⟩
 | s :: r,k,t,H,φ,w,a,hops,hR,hT,hfl,hd,hne=>by
  obtain ⟨o,ho,x⟩:=hops 0 s rfl
  simp only [l1A] at ho
  obtain ⟨hc,I,q⟩:=e0o x
  have J:=q0b x hT
  have c:∀ i y,r[i]? = some y->∃ o,ops[k + 1 + i]? = some o/\g0V X.P ops true o=some y:=fun i y hi=>by
   obtain ⟨N,L,z⟩:=hops (i + 1) y (by simpa using hi)
   exact ⟨N,by rw [<- L];congr 1;omega,z⟩
  rw [l1p,n1r]
  unfold wpOps
  simp only [ho]
  simp only [f0s] at hne ⊢
  by_cases j:b0k t s.g=true
  ·rw [J,k1B j]
   simp only [j,l1o] at hne ⊢
   refine .inl ?_
   cases hs:b0E call fl t H s.op with
   | bad=>simp [hs] at hne
   | pan v =>
    simp only [hs] at hne ⊢
    exact t0V hcall hc I hR hT hfl hs a rfl (fun O u w' hp=>⟨⟨O,u,rfl⟩,hd,hp⟩)
   | ok vH =>
    obtain ⟨v,H1⟩:=vH
    simp only [hs] at hne ⊢
    refine l0V hcall hc I hR hT hfl hs a rfl (fun φ' v' w' G h=>?_)
    have F:CR X φ' w'.shape? t a.tmps.toList:=hT.mo h.ext h.shp
    have M:=r0H hcall (D:=D) r (k + 1) (put t s.dst v) H1 φ' w' (a.put o.dst v') c h.rel (by rw [q];exact j0g F G o.dst) (k1H hfl h.hsz) (by rw [c0Q];exact hd) hne
    exact d0n (fun e R U z=>K0F.after h hR z) M
  ·rw [J,k1y j]
   simp only [n1p] at j
   simp only [j,k1W,l1y] at hne ⊢
   exact r0H hcall (D:=D) r (k + 1) (put t s.dst undef) H φ w (a.put o.dst undef) c hR (by rw [q];exact j0g hT VR.undef o.dst) hfl (by rw [c0Q];exact hd) hne
end
end
section
variable {X:Cx} {φ φ':Inj} {S:Shp} {H H':a0f} {w w':World} {fl:Nat} {t:b0c} {a:Act}
section
variable {call:Nat->FuncId->List Value->a0f->Res (Value × a0f)}
def s0a (X:Cx) (call:Nat->FuncId->List Value->a0f->Res (Value × a0f)):Prop :=
 ∀ (ops:Array Oper) (l:List a0J) (bef:List Nat) (pairs:List (Nat × Nat)),B0c X.P ops=some (.draw l bef pairs) ->
  ∀ (D:List Deferred) (fl:Nat) (t:b0c) (H:a0f) (φ:Inj) (w:World) (a:Act),Rel X φ H w->CR X φ w.shape? t a.tmps.toList->fl<=H.size->a.defers=D ->
   b0V call fl bef pairs 0 l t H none [] ≠ .bad->∀ id,(Code.region id ops true).wp X.P (K0F X D fl φ H w (b0V call fl bef pairs 0 l t H none [])) a w
def l0d (P:Program) (c:Code) (Q:Exit->Act->World->Prop) (a:Act) (w:World):Prop :=
 ∀ (b:Frame) (k:List Item) (cs:List Frame),∃ e a' w',Q e a' w'/\Arrives P (lone (b.at a (.code c :: .inLoop c :: k)) cs w) b k cs e a' w'
theorem l0d.wp {P:Program} {c:Code} {Q:Exit->Act->World->Prop} (h:l0d P c Q a w):(Code.loop c).wp P Q a w :=
 fun b k cs=>let ⟨e,j,w',q,r⟩:=h b k cs;⟨e,j,w',q,.of_steps (.one step_loop) r⟩
theorem l0d.round {P:Program} {c:Code} {Q:Exit->Act->World->Prop} (h:c.wp P (Exit.then (l0d P c Q) Q) a w):l0d P c Q a w:=by
 intro b k cs
 obtain ⟨e,q,s,y,j⟩:=h b (.inLoop c :: k) cs
 cases e with
 | normal =>
  obtain ⟨F,z,G,v,u⟩:=y b k cs
  exact ⟨F,z,G,v,.of_steps (Steps.trans j (.one step_inLoop)) u⟩
 | exit id=>exact ⟨_,q,s,y,.pass (x:=.inLoop c) rfl (fun _ _=>.inl (by simp)) j⟩
 | goto l=>exact ⟨_,q,s,y,.pass (x:=.inLoop c) rfl (fun _ _=>.inl (by simp)) j⟩
 | ret=>exact ⟨_,q,s,y,.pass (x:=.inLoop c) rfl (fun _ _=>.inl (by simp)) j⟩
 | panic ch=>exact ⟨_,q,s,y,.pass (x:=.inLoop c) rfl (fun _ _=>.inl (by simp)) j⟩
 | outgrown=>exact ⟨_,q,s,y,.pass (x:=.inLoop c) rfl (fun _ _=>.inl (by simp)) j⟩
def wpx (P:Program) (c:Code) (Q:Exit->Act->World->Prop) (a:Act) (w:World):Prop :=
 match c with
 | .loop d=>l0d P d Q a w
 | c=>c.wp P Q a w
theorem wpx.wp {P:Program} {c:Code} {Q:Exit->Act->World->Prop} (h:wpx P c Q a w):c.wp P Q a w:=by
 cases c <;> first | exact l0d.wp h | exact h
theorem l0R {α c:Type} {f:α->Option c}:∀ {l:List α} {r:List c},l.mapM f=some r->∀ (i:Nat) (y:c),r[i]? = some y->∃ x,l[i]? = some x/\f x=some y
 | [],r,h,i,y,hi=>by simp at h;subst h;simp at hi
 | x :: l,r,h,i,y,hi=>by
  rw [m1T] at h
  simp only [k1C,k1w,k1F,k1z] at h
  obtain ⟨b,e,bs,j,rfl⟩:=h
  cases i with
  | zero=>simp at hi;subst hi;exact ⟨x,rfl,e⟩
  | succ i=>obtain ⟨s,k,q⟩:=l0R j i y (by simpa using hi);exact ⟨s,by simpa using k,q⟩
theorem j0I {α c:Type} {f:α->Option c}:∀ {l:List α} {r:List c},l.mapM f=some r->r.length=l.length
 | [],r,h=>by simp at h;subst h;rfl
 | x :: l,r,h=>by
  rw [m1T] at h
  simp only [k1C,k1w,k1F,k1z] at h
  obtain ⟨b,j,bs,e,rfl⟩:=h
  simp [j0I e]
theorem e0y (hcall:e0l X call) (h:s0a X call) {D:List Deferred}:∀ (n:Nat) (c:Code) (c':SCode) (fl:Nat) (t:b0c) (H:a0f) (φ:Inj) (w:World) (a:Act),e0n X.P c=some c'->Rel X φ H w ->
  CR X φ w.shape? t a.tmps.toList->fl<=H.size->a.defers=D->b0h call fl n c' t H ≠ .bad->wpx X.P c (K0F X D fl φ H w (b0h call fl n c' t H)) a w
 | 0,c,c',fl,t,H,φ,w,a,_,_,_,_,_,hne=>k1Q rfl hne
 | n + 1,c,c',fl,t,H,φ,w,a,hc,hR,hT,hfl,hd,hne=>by
  cases c with
  | skip =>
   simp only [e0n,k1z] at hc;subst hc
   exact wp_skip ⟨rfl,hd,φ,hT,d0v.refl hR⟩
  | label l =>
   simp only [e0n,k1z] at hc;subst hc
   exact wp_label ⟨rfl,hd,φ,hT,d0v.refl hR⟩
  | exit id =>
   simp only [e0n,k1z] at hc;subst hc
   exact wp_exit ⟨rfl,hd,φ,hT,d0v.refl hR⟩
  | ret =>
   simp only [e0n,k1z] at hc;subst hc
   exact wp_ret ⟨rfl,hd,φ,hT,d0v.refl hR⟩
  | seq x y =>
   simp only [e0n,k1C,k1w,k1F,k1z] at hc
   obtain ⟨I,N,y',hy,rfl⟩:=hc
   have G:b0h call fl n I t H ≠ .bad:=fun e=>hne (by simp [b0h,e])
   have M:=(e0y hcall h n x I fl t H φ w a N hR hT hfl hd G).wp
   refine wp_seq (wp_mono M ?_)
   intro e Z w1 hp
   simp only [b0h]
   cases hr:b0h call fl n I t H with
   | bad=>exact k1Q hr G
   | pan v =>
    rw [hr] at hp
    obtain ⟨⟨ty,u,rfl⟩,J,O⟩:=hp
    exact ⟨⟨ty,u,rfl⟩,J,O⟩
   | fin xx t1 H1 =>
    rw [hr] at hp
    obtain ⟨rfl,z,F,q,j⟩:=hp
    cases xx with
    | normal =>
     have L:b0h call fl n y' t1 H1 ≠ .bad:=fun e=>hne (by simp [b0h,hr,e])
     have U:=(e0y hcall h n y y' fl t1 H1 F w1 Z hy j.rel q (k1H hfl j.hsz) z L).wp
     exact wp_mono U (fun e a2 w2 J=>K0F.after j hR J)
    | exit id=>exact ⟨rfl,z,F,q,j⟩
    | ret=>exact ⟨rfl,z,F,q,j⟩
  | cond c x y =>
   simp only [e0n,k1C,k1w,k1F,k1z] at hc
   obtain ⟨c',a5,hc⟩:=hc
   split at hc
   ·rename_i R
    simp only [k1w,k1z] at hc
    obtain ⟨I,N,y',hy,rfl⟩:=hc
    have hv:=b0J hT a5 R
    simp only [b0h] at hne ⊢
    generalize hg:a.eval c=g at hv
    split at hne
    ·rename_i hb
     rw [hb] at hv;cases hv
     exact wp_cond_true hg (e0y hcall h n x I fl t H φ w a N hR hT hfl hd hne).wp
    ·rename_i hb
     rw [hb] at hv;cases hv
     exact wp_cond_false hg (e0y hcall h n y y' fl t H φ w a hy hR hT hfl hd hne).wp
    ·exact k1Q rfl hne
   ·cases hc
  | block id c =>
   simp only [e0n,k1C,k1w,k1F,k1z] at hc
   obtain ⟨I,N,rfl⟩:=hc
   have G:b0h call fl n I t H ≠ .bad:=fun e=>hne (by simp [b0h,e])
   have M:=(e0y hcall h n c I fl t H φ w a N hR hT hfl hd G).wp
   refine wp_block (wp_mono M ?_)
   intro e Z w1 hp
   simp only [b0h]
   cases hr:b0h call fl n I t H with
   | bad=>exact k1Q hr G
   | pan v =>
    rw [hr] at hp
    obtain ⟨⟨ty,u,rfl⟩,J,O⟩:=hp
    exact ⟨⟨ty,u,rfl⟩,J,O⟩
   | fin xx t1 H1 =>
    rw [hr] at hp
    obtain ⟨rfl,z,F,q,j⟩:=hp
    cases xx with
    | normal=>exact ⟨rfl,z,F,q,j⟩
    | ret=>exact ⟨rfl,z,F,q,j⟩
    | exit id' =>
     show Exit.inBlock id _ (.exit id') Z w1
     unfold Exit.inBlock
     by_cases a0:id' = id
     ·simp only [a0,l1o];exact ⟨rfl,z,F,q,j⟩
     ·simp only [a0,l1y];exact ⟨rfl,z,F,q,j⟩
  | loop c =>
   simp only [e0n,k1C,k1w,k1F,k1z] at hc
   obtain ⟨I,N,rfl⟩:=hc
   have G:b0h call fl n I t H ≠ .bad:=fun e=>hne (by simp [b0h,e])
   have M:=(e0y hcall h n c I fl t H φ w a N hR hT hfl hd G).wp
   refine l0d.round (wp_mono M ?_)
   intro e Z w1 hp
   simp only [b0h]
   cases hr:b0h call fl n I t H with
   | bad=>exact k1Q hr G
   | pan v =>
    rw [hr] at hp
    obtain ⟨⟨ty,u,rfl⟩,J,O⟩:=hp
    exact ⟨⟨ty,u,rfl⟩,J,O⟩
   | fin xx t1 H1 =>
    rw [hr] at hp
    obtain ⟨rfl,z,F,q,j⟩:=hp
    cases xx with
    | normal =>
     have L:b0h call fl n (.loop I) t1 H1 ≠ .bad:=fun e=>hne (by simp [b0h,hr,e])
     have U:=e0y hcall h n (.loop c) (.loop I) fl t1 H1 F w1 Z (by simp [e0n,N]) j.rel q (k1H hfl j.hsz) z L
     intro b k cs
     obtain ⟨e,a2,w2,J,O⟩:=U b k cs
     exact ⟨e,a2,w2,K0F.after j hR J,O⟩
    | exit id=>exact ⟨rfl,z,F,q,j⟩
    | ret=>exact ⟨rfl,z,F,q,j⟩
  | region id ops d =>
   cases d with
   | true =>
    simp only [e0n] at hc
    have a4:=hc
    unfold B0c at hc
    simp only [k1C,k1w] at hc
    obtain ⟨l,_,hc⟩:=hc
    split at hc
    ·simp only [k1F,k1z] at hc
     subst hc
     simp only [b0h] at hne ⊢
     exact h ops _ _ _ a4 D fl t H φ w a hR hT hfl hd hne id
    ·cases hc
   | false =>
    simp only [e0n,k1C,k1w,k1F,k1z] at hc
    obtain ⟨l,hl,rfl⟩:=hc
    simp only [b0h] at hne ⊢
    refine wp_region ?_
    have a3:ops.size=l.length:=by rw [j0I hl];simp
    rw [List.range_eq_range',a3]
    exact r0H hcall l 0 t H φ w a (fun i s hi=>by
     obtain ⟨x,h1,J⟩:=l0R hl i s hi
     exact ⟨x,by simpa using h1,J⟩) hR hT hfl hd hne
  | _=>simp [e0n] at hc
end
theorem C0f (hR:Rel X φ H w) {I:TypeId} {n:Nat} {b:Bool} (J:d0k X.P I=some n) (hb:l0i X.P I=some b) {v v' r:Value} (hv:VR X φ w.shape? v v') (c:b0v H b n v=some r) :
  ∃ q G,v' = .pointer (some q)/\(loadVar I q).run X.P w=.ok G w/\VR X φ w.shape? r G:=by
 unfold b0v at c
 split at c
 ·rename_i p
  cases hv with
  | ptr _ q B o' h1 h2 h3 =>
   subst h3
   split at c
   ·rename_i z;cases c
    obtain ⟨rfl,rfl⟩:=z
    exact ⟨_,.agg #[],rfl,by simp [loadVar,h0l hb,d0K J,loadCells,loadCellsFrom],VR.agg_iff.2 CR.nil⟩
   ·split at c
    ·cases c
    ·split at c
     ·rename_i cs F
      obtain ⟨h,k,j,x,e⟩:=hR.cells h2 F
      cases b with
      | true =>
       simp only [l1o] at c h j;cases c
       have y:=run_loadCells_list (P:=X.P) w ⟨B,o' + p.off,none⟩ k (m0o e)
       rw [j] at y
       exact ⟨_,.agg k.toArray,rfl,by simp [loadVar,h0l hb,d0K J,y],VR.agg_iff.2 (by simpa using x)⟩
      | false =>
       simp only [k1W,l1y] at c h j
       cases cs with
       | nil=>simp at h
       | cons u G =>
        simp only [List.head?_cons,k1z] at c;subst c
        obtain ⟨L,r2,rfl,M,_⟩:=x.cons_left
        have s:=e 0 L rfl
        simp only [l1A] at s
        exact ⟨_,L,rfl,by simp [loadVar,h0l hb,s],M⟩
     ·cases c
 ·cases c
def n0J (tmps:Array Value):ResultVar->Sem Value
 | .tmp t=>pure (tmps.getD t undef)
 | .cell a t=>do loadVar t (<- asAddr (tmps.getD a undef))
theorem K0h {F:List SRes}:∀ {rs:List ResultVar} {vs:List Value},rs.mapM (a1r X.P)=some F->e0S H t F=some vs->Rel X φ H w->CR X φ w.shape? t a.tmps.toList ->
  ∃ e,CR X φ w.shape? vs e/\(rs.mapM (n0J a.tmps)).run X.P w=.ok e w:=by
 induction F with
 | nil =>
  intro rs vs h k hR hT
  have:rs=[]:=by have:=j0I h;exact k1U.1 this.symm
  subst this
  simp [e0S] at k;subst k
  exact ⟨[],CR.nil,by simp⟩
 | cons s F ih =>
  intro rs vs h k hR hT
  cases rs with
  | nil=>simp at h
  | cons r rs =>
   rw [m1T] at h
   simp only [k1C,k1w,k1F,k1z] at h
   obtain ⟨s',y,U,M,N⟩:=h
   cases N
   simp only [e0S] at k
   split at k
   ·rename_i v Z z O
    cases k
    obtain ⟨e,x,j⟩:=ih M O hR hT
    rw [m1T,Sem.run_bind]
    cases r with
    | tmp i =>
     simp only [a1r,k1z] at y;subst y
     simp only [r0Z,k1z] at z;subst z
     refine ⟨a.tmps.getD i undef :: e,CR.cons ?_ x,by simp only [n0J,Sem.run_pure,Result.andThen_ok,Sem.run_bind,j]⟩
     rw [a0V];exact hT.get i
    | cell c ty =>
     simp only [a1r,k1C,k1w,k1F,k1z] at y
     obtain ⟨b,hb,n,R,rfl⟩:=y
     simp only [r0Z] at z
     obtain ⟨q,J,L,u,I⟩:=C0f hR R hb (hT.get c) z
     rw [<- a0V] at L
     exact ⟨J :: e,CR.cons I x,by
      have G:(asAddr (a.tmps.getD c undef)).run X.P w=.ok q w:=by rw [L];rfl
      simp only [n0J,G,u,Result.andThen_ok,Sem.run_bind,j,Sem.run_pure]⟩
   ·cases k
theorem x0v {vs c:List Value} (h:CR X φ S vs c):VR X φ S (d0y vs) (if h:c.toArray.size=1 then c.toArray[0] else .tuple c.toArray):=by
 cases vs with
 | nil=>rw [h.nil_left];exact VR.tuple_iff.2 CR.nil
 | cons v r =>
  obtain ⟨v',j,rfl,hv,e⟩:=h.cons_left
  cases r with
  | nil=>rw [e.nil_left];simpa [d0y] using hv
  | cons u r2 =>
   obtain ⟨q,k,rfl,_,_⟩:=e.cons_left
   simp only [d0y]
   rw [dif_neg (by simp)]
   exact VR.tuple_iff.2 (by simpa using h)
def w0I (call:Nat->FuncId->List Value->a0f->Res (Value × a0f)):Prop:=∀ fl f args H v,call fl f args H=.pan v->∃ ty u,v=.iface ty u
section
variable {call:Nat->FuncId->List Value->a0f->Res (Value × a0f)} (hp:w0I call)
include hp
theorem h0O {so:SOp} {v:Value} (h:b0E call fl t H so=.pan v):∃ c u,v=.iface c u:=by
 unfold b0E at h
 split at h
 ·cases h
 ·rename_i e hv;simp only [Res.pan.injEq] at h;subst h;exact (g0s hv).1
 ·cases h
 ·exact hp _ _ _ _ _ h
theorem f0J:∀ (r:List a0J) (t:b0c) (H:a0f) {v:Value},f0s call fl r t H=.pan v->∃ c u,v=.iface c u
 | [],t,H,v,h=>by simp [f0s] at h
 | s :: r,t,H,v,h=>by
  simp only [f0s] at h
  split at h
  ·split at h
   ·cases h
   ·rename_i e hs;simp only [Out.pan.injEq] at h;subst h;exact h0O hp hs
   ·exact f0J r _ _ h
  ·exact f0J r _ _ h
theorem d0g (bef:List Nat) (pairs:List (Nat × Nat)):∀ (r:List a0J) (i:Nat) (t:b0c) (H:a0f) (p:Option (Nat × Value)) (c:List (List Nat × List Nat)) {v:Value},
  (∀ j u,p=some (j,u)->∃ k x,u=.iface k x)->b0V call fl bef pairs i r t H p c=.pan v->∃ k u,v=.iface k u
 | [],i,t,H,p,c,v,hpp,h=>by
  simp only [b0V] at h
  split at h
  ·split at h
   ·cases h
   ·rename_i j u;simp only [Out.pan.injEq] at h;subst h;exact hpp _ _ rfl
  ·cases h
 | s :: r,i,t,H,p,c,v,hpp,h=>by
  simp only [b0V] at h
  split at h
  ·exact d0g bef pairs r _ _ _ _ _ hpp h
  ·split at h
   ·split at h
    ·cases h
    ·rename_i q hs
     split at h
     ·refine d0g bef pairs r _ _ _ _ _ ?_ h
      intro j u e;cases e;exact h0O hp hs
     ·cases h
    ·exact d0g bef pairs r _ _ _ _ _ hpp h
   ·exact d0g bef pairs r _ _ _ _ _ hpp h
theorem c0l:∀ (n:Nat) (c:SCode) (t:b0c) (H:a0f) {v:Value},b0h call fl n c t H=.pan v->∃ j u,v=.iface j u
 | 0,c,t,H,v,h=>by simp [b0h] at h
 | n + 1,c,t,H,v,h=>by
  cases c <;> simp only [b0h] at h
  case skip=>cases h
  case exit=>cases h
  case ret=>cases h
  case seq a b =>
   split at h
   ·exact c0l n b _ _ h
   ·exact c0l n a _ _ h
  case cond c a b =>
   split at h
   ·exact c0l n a _ _ h
   ·exact c0l n b _ _ h
   ·cases h
  case block id c =>
   split at h
   ·split at h <;> cases h
   ·exact c0l n c _ _ h
  case loop c =>
   split at h
   ·exact c0l n (.loop c) _ _ h
   ·exact c0l n c _ _ h
  case reg ops=>exact f0J hp _ _ _ h
  case draw ops bef pairs=>exact d0g hp bef pairs _ _ _ _ _ _ (fun _ _ e=>by cases e) h
end
theorem h0m (E:Env):∀ n,w0I (b0q E n)
 | 0=>fun _ _ _ _ _ h=>by simp [b0q] at h
 | n + 1=>fun fl f args H v h=>by
  simp only [b0q] at h
  split at h
  ·split at h
   ·cases h
   split at h
   ·split at h
    ·split at h
     ·split at h
      case isFalse=>cases h
      unfold e0e at h
      split at h
      ·cases h
      ·cases h
      ·cases h
      ·split at h
       ·split at h <;> cases h
       ·cases h
      ·cases h
     ·cases h
    ·cases h
   ·cases h
  ·split at h
   ·split at h
    ·cases h
    ·rename_i e c
     simp only [Res.pan.injEq] at h;subst h
     exact c0l (h0m E n) n _ _ _ c
    ·split at h
     ·cases h
     ·split at h <;> cases h
   ·cases h
structure Z0H (X:Cx) (E:Env):Prop where
 code:∀ f sf,E.code f=some sf->b0e X.P f=some sf
 mixed:X.P.follows .mixedOrders=true
def W0h (X:Cx) (E:Env):Prop:=∀ f v,E.known.lookup f=some v->e0l X fun _ g args H=>if g=f/\args=[] then .ok (v,H) else .bad
def A0K (X:Cx) (E:Env):Prop :=
 ∀ q,E.quick=some q->∀ call,e0l X call->h0U call->e0l X fun fl f args H =>
  if f=q.f then match args with | [.agg p,.agg s]=>(if p.size=q.np/\s.size=q.ns then e0e q.zero H (call (max fl H.size) q.solved [.agg #[],.agg p,.agg s] H) else .bad) | _=>.bad else .bad
theorem w0W (E:Env) (hE:Z0H X E) (R:W0h X E) (hq:A0K X E) (G:∀ call,e0l X call->h0U call->s0a X call):∀ n,e0l X (b0q E n)
 | 0=>fun _ _ _ _ _ _ _ _ _ _=>⟨fun _ _ h=>by simp [b0q] at h,fun _ h=>by simp [b0q] at h⟩
 | n + 1=>fun fl f args H φ w j hR hA N=>by
  have ih:=w0W E hE R hq G n
  have hk:=h0Y E n
  cases hcode:E.code f with
  | none =>
   cases hkw:E.know f args with
   | some v =>
    have F:args=[]:=by
     cases args with
     | nil=>rfl
     | cons x r=>simp [Env.know] at hkw
    have hl:E.known.lookup f=some v:=by rw [F] at hkw;simpa [Env.know] using hkw
    have J:=R f v hl fl f args H φ w j hR hA N
    simp only [b0q,hcode,hkw]
    simp only [F,and_self,l1o] at J ⊢
    exact J
   | none =>
   cases hqk:E.quick with
   | none=>exact ⟨fun _ _ h=>by simp [b0q,hcode,hkw,hqk] at h,fun _ h=>by simp [b0q,hcode,hkw,hqk] at h⟩
   | some q =>
    have J:=hq q hqk (b0q E n) ih hk fl f args H φ w j hR hA N
    simp only [b0q,hcode,hkw,hqk]
    exact J
  | some sf =>
   have k:=hE.code f sf hcode
   unfold b0e at k
   cases hfn:X.P.funcs[f]? with
   | none=>simp [hfn] at k
   | some z =>
    simp only [hfn] at k
    cases hb:z.body with
    | none=>simp [hb] at k
    | some c =>
     simp only [hb] at k
     split at k
     ·cases k
     rename_i y
     have y:A0z X.P f=true:=by simpa using y
     simp only [k1C,k1w] at k
     obtain ⟨res,U,body,M,k⟩:=k
     split at k
     ·rename_i a5
      simp only [k1F,k1z] at k;subst k
      by_cases s:args.length=z.params.size + z.nfree
      ·have O:j.size=args.length:=by have:=hA.1;simpa using this.symm
       -- the frame at the call's entry
       have hT:CR X φ w.shape? (args ++ List.replicate (z.ntmps - args.length) undef) (j ++ Array.replicate (z.ntmps - j.size) undef).toList:=by
        rw [O]
        have:(j ++ Array.replicate (z.ntmps - args.length) undef).toList=j.toList ++ List.replicate (z.ntmps - args.length) undef:=by simp
        rw [this]
        refine hA.append ?_
        generalize z.ntmps - args.length=m
        induction m with
        | zero=>exact CR.nil
        | succ m ih=>exact CR.cons VR.undef ih
       have L:=fun a4=>(e0y ih (G _ ih hk) n c body fl _ H φ w { tmps:=j ++ Array.replicate (z.ntmps - j.size) undef,defers:=[] } M hR hT N rfl a4).wp
       cases hr:b0h (b0q E n) fl n body (args ++ List.replicate (z.ntmps - args.length) undef) H with
       | bad =>
        refine ⟨fun _ _ h=>?_,fun _ h=>?_⟩
        ·simp only [b0q,hcode] at h;rw [k1B s,hr] at h;cases h
        ·simp only [b0q,hcode] at h;rw [k1B s,hr] at h;cases h
       | pan v0 =>
        rw [hr] at L
        have L:=L (by simp)
        refine ⟨fun _ _ h=>?_,fun v h=>?_⟩
        ·simp only [b0q,hcode] at h;rw [k1B s,hr] at h;cases h
        ·simp only [b0q,hcode] at h;rw [k1B s,hr] at h
         simp only [Res.pan.injEq] at h;subst h
         refine ⟨c0l (h0m E n) n body _ H hr,y,calls_of_wp hfn hb (wp_mono L ?_)⟩
         rintro e a' w' ⟨⟨ty,u,rfl⟩,hd,hp⟩
         exact ⟨hd,⟨ty,u,rfl⟩,hp⟩
       | fin e t1 H1 =>
        rw [hr] at L
        have L:=L (by simp)
        refine ⟨fun v H' h=>?_,fun v h=>?_⟩
        ·simp only [b0q,hcode] at h;rw [k1B s,hr] at h
         refine ⟨y,calls_of_wp hfn hb (wp_mono L ?_)⟩
         rintro e2 a' w' ⟨rfl,hd,φ',a2,a0⟩
         have a1:∀ vs,e0S H1 t1 res=some vs->v=d0y vs->H' = H1->∃ v',(results z a'.tmps).run X.P w' = .ok v' w' /\
           ∃ v2 φ',Ending.returned v' = .returned v2/\VR X φ' w'.shape? v v2/\d0v X fl φ H w φ' H' w':=by
          intro vs I hv hH
          subst hv hH
          obtain ⟨a6,a3,Z⟩:=K0h U I a0.rel a2
          refine ⟨_,?_,_,φ',rfl,x0v a3,a0⟩
          have e1:results z a'.tmps=(do let vs <- z.results.mapM (n0J a'.tmps);pure (if h:vs.size=1 then vs[0] else .tuple vs)):=rfl
          rw [e1,n1m]
          simp only [Sem.run_bind,Sem.run_map,Z]
          rfl
         cases e with
         | exit id=>cases h
         | normal =>
          simp only [] at h
          split at h
          ·rename_i vs I
           simp only [Res.ok.injEq,m1t] at h
           obtain ⟨v',J,h2⟩:=a1 vs I h.1.symm h.2.symm
           exact ⟨hd,v',J,h2⟩
          ·cases h
         | ret =>
          simp only [] at h
          split at h
          ·rename_i vs I
           simp only [Res.ok.injEq,m1t] at h
           obtain ⟨v',J,h2⟩:=a1 vs I h.1.symm h.2.symm
           exact ⟨hd,v',J,h2⟩
          ·cases h
        ·simp only [b0q,hcode] at h;rw [k1B s,hr] at h
         cases e with
         | exit id=>cases h
         | normal=>simp only [] at h;split at h <;> cases h
         | ret=>simp only [] at h;split at h <;> cases h
      ·exact ⟨fun _ _ h=>by simp [b0q,hcode,s] at h,fun _ h=>by simp [b0q,hcode,s] at h⟩
     ·cases k
theorem x0h (bef:List Nat) (i:Nat):∀ (l:List Edge) (s:Nat),(l.foldl (fun s e=>if Region.binds .any e then s ||| 2 ^ e.on ||| bef.getD e.on 0 else s) s).testBit i=true <->
  s.testBit i=true ∨ ∃ e ∈ l,Region.binds .any e=true/\(i=e.on ∨ (bef.getD e.on 0).testBit i=true)
 | [],s=>by simp
 | e :: l,s=>by
  rw [List.foldl_cons,x0h bef i l]
  by_cases hb:Region.binds .any e=true
  ·simp only [hb,l1o,Nat.testBit_or,Bool.or_eq_true,Nat.testBit_two_pow,l1k,m1b]
   constructor
   ·rintro (((h | h) | h) | ⟨e',k,c⟩)
    ·exact .inl h
    ·exact .inr ⟨e,.inl rfl,hb,.inl h.symm⟩
    ·exact .inr ⟨e,.inl rfl,hb,.inr h⟩
    ·exact .inr ⟨e',.inr k,c⟩
   ·rintro (h | ⟨e',rfl | k,c,j⟩)
    ·exact .inl (.inl (.inl h))
    ·rcases j with j | j
     ·exact .inl (.inl (.inr j.symm))
     ·exact .inl (.inr j)
    ·exact .inr ⟨e',k,c,j⟩
  ·simp only [hb,l1y,m1b]
   constructor
   ·rintro (h | ⟨e',k,c⟩)
    ·exact .inl h
    ·exact .inr ⟨e',.inr k,c⟩
   ·rintro (h | ⟨e',rfl | k,c,j⟩)
    ·exact .inl h
    ·exact k1Q c hb
    ·exact .inr ⟨e',k,c,j⟩
structure z0c (X:Cx) (ops:Array Oper) (l:List a0J) (bef:List Nat) (pairs:List (Nat × Nat)):Prop where
 len:l.length=ops.size
 op:∀ (k:Nat) (s:a0J),l[k]? = some s->∃ o,ops[k]? = some o/\g0V X.P ops (x0n bef (ops.toList.map fun o=>o0I o.op) k) o=some s
 bit:∀ (i j:Nat) (o:Oper),ops[j]? = some o->(b0w bef i j=true <-> ∃ e ∈ o.after.toList,Region.binds .any e=true/\(i=e.on ∨ b0w bef i e.on=true))
 back:∀ (j:Nat) (o:Oper),ops[j]? = some o->∀ e ∈ o.after.toList,Region.binds .any e=true->e.on < j
 un:∀ (i j:Nat),i < j->j < ops.size->b0w bef i j=false->C0K ops l (i,j)=true/\(j0V l (i,j)=true->(i,j) ∈ pairs)
 nosel:∀ (j:Nat) (o:Oper) (cs:Array SelectCase) (b:Bool),ops[j]? = some o->o.op ≠ .select cs b
theorem o0P {P:Program} {ops:Array Oper} {bef c:List Nat}:∀ {os:List Oper} {k:Nat} {l:List a0J},s0p P ops bef c k os=some l ->
  l.length=os.length/\∀ i s,l[i]? = some s->∃ o,os[i]? = some o/\g0V P ops (x0n bef c (k + i)) o=some s
 | [],k,l,h=>by simp [s0p] at h;subst h;simp
 | o :: os,k,l,h=>by
  simp only [s0p] at h
  split at h
  ·rename_i x F e j
   cases h
   obtain ⟨q,u⟩:=o0P j
   refine ⟨by simp [q],fun i s hi=>?_⟩
   cases i with
   | zero=>simp at hi;subst hi;exact ⟨o,rfl,e⟩
   | succ i =>
    obtain ⟨z,v,y⟩:=u i s (by simpa using hi)
    exact ⟨z,by simpa using v,by rw [show k + (i + 1)=k + 1 + i by omega];exact y⟩
  ·cases h
theorem s0Z {n i j:Nat} (h:i < j) (c:j < n):(i,j) ∈ l0L n:=by
 unfold l0L
 rw [List.mem_flatMap]
 exact ⟨j,l1G.2 c,l1r.2 ⟨i,l1G.2 h,rfl⟩⟩
theorem N0I {ops:Array Oper} {l:List a0J} {bef:List Nat} {pairs:List (Nat × Nat)} (h:B0c X.P ops=some (.draw l bef pairs)):z0c X ops l bef pairs:=by
 unfold B0c at h
 simp only [k1C,k1w] at h
 obtain ⟨O,F,h⟩:=h
 split at h
 ·rename_i hc
  obtain ⟨I,M,L⟩:=hc
  simp only [k1F,k1z,SCode.draw.injEq] at h
  obtain ⟨rfl,rfl,rfl⟩:=h
  obtain ⟨y,z⟩:=o0P F
  have c:∀ j o,ops[j]? = some o->(o.after.toList.all fun e=>!Region.binds .any e || e.on < j)=true /\
    (Region.before ops).toList.getD j 0=(o.after.toList.foldl (fun s e=>if Region.binds .any e then s ||| 2 ^ e.on ||| (Region.before ops).toList.getD e.on 0 else s) 0):=by
   intro j o ho
   have x:j < ops.size:=(l1j.1 ho).1
   have:=l1a.1 I j (l1G.2 x)
   simp only [ho,k1L,beq_iff_eq] at this
   exact this
  refine ⟨by simpa using y,fun k s J=>?_,fun i j o ho=>?_,fun j o ho e u hb=>?_,fun i j v x q=>?_,fun j o cs b ho hs=>?_⟩
  ·obtain ⟨o,G,H⟩:=z k s J
   exact ⟨o,by simpa using G,by simpa using H⟩
  ·unfold b0w
   rw [(c j o ho).2,x0h]
   simp
  ·have:=l1a.1 (c j o ho).1 e u
   simpa [hb] using this
  ·have u:(i,j) ∈ (l0L ops.size).filter fun p=>!b0w (Region.before ops).toList p.1 p.2:=List.mem_filter.2 ⟨s0Z v x,by simp [q]⟩
   exact ⟨l1a.1 M _ u,fun N=>List.mem_filter.2 ⟨u,N⟩⟩
  ·have:=l1a.1 L o (by rw [<- m1e] at ho;exact List.mem_of_getElem? ho)
   simp [j0M,hs] at this
 ·cases h
section
variable {ops:Array Oper} {l:List a0J} {bef:List Nat} {pairs:List (Nat × Nat)} (hT:z0c X ops l bef pairs)
include hT
theorem z0c.lt:∀ j i,j < ops.size->b0w bef i j=true->i < j:=by
 intro j
 induction j using Nat.strongRecOn with
 | _ j ih =>
  intro i q ho
  have c:ops[j]? = some ops[j]:=l1h q
  obtain ⟨e,s,hb,h⟩:=(hT.bit i j _ c).1 ho
  have k:=hT.back j _ c e s hb
  rcases h with rfl | h
  ·exact k
  ·have:=ih e.on k i (by omega) h;omega
theorem z0c.ready {c:Array Bool} {j:Nat} (s:j ∈ Region.ready .any ops c) (k:∀ j,j < ops.size->c.getD j false=true->∀ i,b0w bef i j=true->c.getD i false=true) :
  j < ops.size/\c.getD j true=false/\∀ i,b0w bef i j=true->c.getD i false=true:=by
 unfold Region.ready at s
 rw [List.mem_filter] at s
 obtain ⟨v,s⟩:=s
 have v:=l1G.1 v
 simp only [k1L,m1k] at s
 have q:ops[j]? = some ops[j]:=l1h v
 refine ⟨v,s.1,fun i hi=>?_⟩
 have u:=s.2
 simp only [q,l1S,l1d] at u
 obtain ⟨e,y,hb,h⟩:=(hT.bit i j _ q).1 hi
 rw [Array.all_eq_true'] at u
 have x:=u e (by simpa using y)
 simp only [hb,Bool.not_true,n1i] at x
 rcases h with rfl | h
 ·exact x
 ·have:=hT.back j _ q e y hb
  exact k e.on (by omega) x i h
theorem z0c.two {i j:Nat} (M:i ≠ j) (hi:i < ops.size) (hj:j < ops.size) (h1:b0w bef i j=false) (h2:b0w bef j i=false) {oi oj:Oper} {x y:a0J} (F:ops[i]? = some oi) (G:ops[j]? = some oj)
  (hx:l[i]? = some x) (hy:l[j]? = some y) :
  (∀ d,x.dst=some d->d ∉ i0E oj y/\y.dst ≠ some d)/\(∀ d,y.dst=some d->d ∉ i0E oi x)/\¬ (way x.op=3/\way y.op=2)/\¬ (way x.op=2/\way y.op=3) /\
  ((way x.op=2/\way y.op ≠ 0)->(i,j) ∈ pairs ∨ (j,i) ∈ pairs):=by
 have H:∀ {p q:Nat} {op Z:Oper} {u v:a0J},p < q->q < ops.size->b0w bef p q=false->ops[p]? = some op->ops[q]? = some Z->l[p]? = some u->l[q]? = some v ->
   (∀ d,u.dst=some d->d ∉ i0E Z v/\v.dst ≠ some d)/\(∀ d,v.dst=some d->d ∉ i0E op u)/\¬ (way u.op=3/\way v.op=2)/\¬ (way u.op=2/\way v.op=3) /\
   ((way u.op=2/\way v.op ≠ 0)->(p,q) ∈ pairs)/\((way v.op=2/\way u.op ≠ 0)->(p,q) ∈ pairs):=by
  intro p q op Z u v N hq ho h3 h4 J L
  obtain ⟨h7,h8⟩:=hT.un p q N hq ho
  simp only [C0K,h3,h4,J,L,k1L,p0V,x0q] at h7
  obtain ⟨⟨h9,s⟩,z⟩:=h7
  refine ⟨fun d c=>?_,fun d c=>?_,?_,?_,fun h=>h8 ?_,fun h=>h8 ?_⟩
  ·rw [c] at h9;simpa using h9
  ·rw [c] at s;simpa using s
  ·intro ⟨a1,a2⟩;simp [a1,a2] at z
  ·intro ⟨a1,a2⟩;simp [a1,a2] at z
  ·simp [j0V,J,L,h.1,h.2]
  ·simp [j0V,J,L,h.1,h.2]
 rcases Nat.lt_or_gt_of_ne M with k | k
 ·obtain ⟨I,O,R,U,k5,k6⟩:=H k hj h1 F G hx hy
  exact ⟨I,O,R,U,fun h=>.inl (k5 h)⟩
 ·obtain ⟨I,O,R,U,k5,k6⟩:=H k hi h2 G F hy hx
  refine ⟨fun d c=>⟨O d c,fun e=>(I d e).2 c⟩,fun d c=>(I d c).1,fun h=>U ⟨h.2,h.1⟩,fun h=>R ⟨h.2,h.1⟩,fun h=>.inr (k6 h)⟩
end
section
variable (call:Nat->FuncId->List Value->a0f->Res (Value × a0f)) (fl:Nat) (bef:List Nat)
structure Run where
 T:Nat->b0c
 Hh:Nat->a0f
 Pn:Nat->Option (Nat × Value)
 val:Nat->Value
 tc:Nat->List Nat × List Nat
 st:Nat->Nat
 ds:List Deferred
def j0t (R:Run) (k:Nat) (s:a0J):Prop :=
 (R.st k=0/\h0r bef k (R.Pn k)=true/\R.T (k + 1)=R.T k/\R.Hh (k + 1)=R.Hh k/\R.Pn (k + 1)=R.Pn k/\R.tc k=([],[])) ∨
 (R.st k=1/\h0r bef k (R.Pn k)=false/\b0k (R.T k) s.g=false/\R.val k=undef/\R.T (k + 1)=put (R.T k) s.dst undef/\R.Hh (k + 1)=R.Hh k/\R.Pn (k + 1)=R.Pn k/\R.tc k=([],[])) ∨
 (R.st k=2/\h0r bef k (R.Pn k)=false/\b0k (R.T k) s.g=true/\b0E call fl (R.T k) (R.Hh k) s.op=.ok (R.val k,R.Hh (k + 1))/\R.T (k + 1)=put (R.T k) s.dst (R.val k)/\R.Pn (k + 1)=R.Pn k /\
  R.tc k=d0m (R.T k) s.op) ∨
 (R.st k=3/\h0r bef k (R.Pn k)=false/\b0k (R.T k) s.g=true/\b0E call fl (R.T k) (R.Hh k) s.op=.pan (R.val k)/\R.Pn k=none/\R.Pn (k + 1)=some (k,R.val k)/\R.T (k + 1)=R.T k/\R.Hh (k + 1)=R.Hh k /\
  R.tc k=([],[]))
def Run.cons (i:Nat) (t:b0c) (H:a0f) (p:Option (Nat × Value)) (v:Value) (c:List Nat × List Nat) (s:Nat) (R:Run):Run :=
 { T := fun k => if k = i then t else R.T k, Hh := fun k => if k = i then H else R.Hh k, Pn := fun k => if k = i then p else R.Pn k, val := fun k => if k = i then v else R.val k,
   tc:=fun k=>if k=i then c else R.tc k,st:=fun k=>if k=i then s else R.st k,ds:=R.ds }
variable {call fl bef}
theorem j0t.cons {R:Run} {i k:Nat} {t:b0c} {H:a0f} {p:Option (Nat × Value)} {v:Value} {c:List Nat × List Nat} {n:Nat} {s:a0J} (e:i < k) (h:j0t call fl bef R k s) :
  j0t call fl bef (R.cons i t H p v c n) k s:=by
 unfold j0t Run.cons at *
 simp only [k1y (show k ≠ i by omega),k1y (show k + 1 ≠ i by omega)]
 exact h
theorem V0Z {pairs:List (Nat × Nat)}:∀ (r:List a0J) (i:Nat) (t:b0c) (H:a0f) (p:Option (Nat × Value)) (j:List (List Nat × List Nat)),b0V call fl bef pairs i r t H p j ≠ .bad ->
  ∃ R:Run,R.T i=t/\R.Hh i=H/\R.Pn i=p/\(∀ m s,r[m]? = some s->j0t call fl bef R (i + m) s)/\d0a (j.reverse ++ (List.range' i r.length).map R.tc) pairs=true /\
   b0V call fl bef pairs i r t H p j=match R.Pn (i + r.length) with | none=>.fin .normal (R.T (i + r.length)) (R.Hh (i + r.length)) | some (_,v)=>.pan v
 | [],i,t,H,p,j,h=>by
  refine ⟨⟨fun _=>t,fun _=>H,fun _=>p,fun _=>undef,fun _=>([],[]),fun _=>0,[]⟩,rfl,rfl,rfl,fun m s J=>by simp at J,?_,?_⟩
  ·simp only [b0V] at h
   split at h
   ·rename_i O;simpa using O
   ·exact k1Q rfl h
  ·simp only [b0V] at h ⊢
   split at h
   ·rename_i O;rw [k1B O];rfl
   ·exact k1Q rfl h
 | s :: r,i,t,H,p,j,h=>by
  have q:∀ (N:b0c) (H1:a0f) (L:Option (Nat × Value)) (c:List Nat × List Nat) (v:Value) (n:Nat),b0V call fl bef pairs i (s :: r) t H p j=b0V call fl bef pairs (i + 1) r N H1 L (c :: j) ->
    (∀ R:Run,R.T (i + 1)=N->R.Hh (i + 1)=H1->R.Pn (i + 1)=L->j0t call fl bef (R.cons i t H p v c n) i s) ->
    ∃ R:Run,R.T i=t/\R.Hh i=H/\R.Pn i=p/\(∀ m M,(s :: r)[m]? = some M->j0t call fl bef R (i + m) M)/\d0a (j.reverse ++ (List.range' i (s :: r).length).map R.tc) pairs=true /\
     b0V call fl bef pairs i (s :: r) t H p j=match R.Pn (i + (s :: r).length) with | none=>.fin .normal (R.T (i + (s :: r).length)) (R.Hh (i + (s :: r).length)) | some (_,v)=>.pan v:=by
   intro N H1 L c v n I U
   rw [I] at h
   obtain ⟨R,y,z,F,Z,h5,h6⟩:=V0Z r (i + 1) N H1 L (c :: j) h
   refine ⟨R.cons i t H p v c n,by simp [Run.cons],by simp [Run.cons],by simp [Run.cons],fun m M J=>?_,?_,?_⟩
   ·cases m with
    | zero=>simp at J;subst J;exact U R y z F
    | succ m=>rw [show i + (m + 1)=i + 1 + m by omega];exact (Z m M (by simpa using J)).cons (by omega)
   ·have e:(List.range' i (s :: r).length).map (R.cons i t H p v c n).tc=c :: (List.range' (i + 1) r.length).map R.tc:=by
     rw [l1p,n1r,List.map_cons]
     congr 1
     ·simp [Run.cons]
     ·apply m1d
      intro x hx
      have:=(List.mem_range'_1.1 hx).1
      simp only [Run.cons]
      rw [k1y (by omega)]
    rw [e]
    simpa using h5
   ·rw [I,h6]
    simp only [Run.cons,l1p]
    rw [show i + (r.length + 1)=i + 1 + r.length by omega,k1y (by omega),k1y (by omega),k1y (by omega)]
  by_cases k:h0r bef i p=true
  ·refine q t H p ([],[]) undef 0 (by simp [b0V,k]) (fun R y z F=>.inl ?_)
   simp only [Run.cons,l1o,k1y (show i + 1 ≠ i by omega)]
   exact ⟨trivial,k,y,z,F,trivial⟩
  ·simp only [n1p] at k
   by_cases G:b0k t s.g=true
   ·cases hs:b0E call fl t H s.op with
    | bad=>exact k1Q (by simp [b0V,k,G,hs]) h
    | pan v =>
     cases hp:p with
     | some u=>subst hp;exact k1Q (by simp [b0V,k,G,hs]) h
     | none =>
      subst hp
      refine q t H (some (i,v)) ([],[]) v 3 (by simp [b0V,k,G,hs]) (fun R y z F=>.inr (.inr (.inr ?_)))
      simp only [Run.cons,l1o,k1y (show i + 1 ≠ i by omega)]
      exact ⟨trivial,k,G,hs,trivial,F,y,z,trivial⟩
    | ok vH =>
     obtain ⟨v,H1⟩:=vH
     refine q (put t s.dst v) H1 p (d0m t s.op) v 2 (by simp [b0V,k,G,hs]) (fun R y z F=>.inr (.inr (.inl ?_)))
     simp only [Run.cons,l1o,k1y (show i + 1 ≠ i by omega)]
     exact ⟨trivial,k,G,by rw [z];exact hs,y,F,trivial⟩
   ·simp only [n1p] at G
    refine q (put t s.dst undef) H p ([],[]) undef 1 (by simp [b0V,k,G]) (fun R y z F=>.inr (.inl ?_))
    simp only [Run.cons,l1o,k1y (show i + 1 ≠ i by omega)]
    exact ⟨trivial,k,G,trivial,y,z,F,trivial⟩
end
end
section
variable {X:Cx} {φ φ' ψ:Inj} {S S':Shp} {H H' H1:a0f} {w w':World} {fl:Nat} {t t':b0c} {a:Act} {so:SOp} {lone:Bool} {op:Op}
theorem j0O (h:∀ x ∈ a0B so,ev t x=ev t' x):opA fl t H so=opA fl t' H so:=by
 have q:∀ {xs:List Opd},(∀ x ∈ xs,x ∈ a0B so)->xs.map (ev t)=xs.map (ev t'):=fun F=>m1d (fun x j=>h x (F x j))
 have opt:∀ {x:Option Opd},(∀ y,x=some y->y ∈ a0B so)->x.map (ev t)=x.map (ev t'):=fun {x} F=>by cases x with | none=>rfl | some y=>simp [h y (F y rfl)]
 have s:∀ {v:List (Nat × Nat × Opd)},(∀ p ∈ v,p.2.2 ∈ a0B so)->b0D t v=b0D t' v:=fun hp=>m1d (fun p j=>by rw [h _ (hp p j)])
 cases so <;> simp only [opA]
 case build z v=>rw [s (fun p j=>by simp only [a0B,l1r];exact ⟨p,j,rfl⟩)]
 case lit e z n v=>rw [s (fun p j=>by simp only [a0B,l1r];exact ⟨p,j,rfl⟩)]
 case mkfn f xs ys=>rw [q (xs:=xs) (fun x j=>by simp [a0B,j]),q (xs:=ys) (fun x j=>by simp [a0B,j])]
 case sl e size x lo hi mx=>rw [h x (by simp [a0B]),opt (x:=lo) (fun y e=>by simp [a0B,e]),opt (x:=hi) (fun y e=>by simp [a0B,e]),opt (x:=mx) (fun y e=>by simp [a0B,e])]
 case call f xs l=>rw [q (xs:=xs) (fun x j=>by simp [a0B,j])]
 case callv x xs l=>rw [h x (by simp [a0B]),q (xs:=xs) (fun x j=>by simp [a0B,j])]
 case inv x tb xs l=>rw [h x (by simp [a0B]),q (xs:=xs) (fun x j=>by simp [a0B,j])]
 case mnx b x xs=>rw [h x (by simp [a0B]),q (xs:=xs) (fun x j=>by simp [a0B,j])]
 case pick c x y=>rw [h c (by simp [a0B]),h x (by simp [a0B]),h y (by simp [a0B])]
 case store n x y=>rw [h x (by simp [a0B]),h y (by simp [a0B])]
 case bin tg b x y=>rw [h x (by simp [a0B]),h y (by simp [a0B])]
 case appz e b z x y=>rw [h x (by simp [a0B]),h y (by simp [a0B])]
 case mk e b z x y=>rw [h x (by simp [a0B]),h y (by simp [a0B])]
 case ia n x y=>rw [h x (by simp [a0B]),h y (by simp [a0B])]
 case app e n b x y=>rw [h x (by simp [a0B]),h y (by simp [a0B])]
 case mv x=>rw [h x (by simp [a0B])]
 case box e x=>rw [h x (by simp [a0B])]
 case load g n x=>rw [h x (by simp [a0B])]
 case chk x=>rw [h x (by simp [a0B])]
 case un u x=>rw [h x (by simp [a0B])]
 case conv k x=>rw [h x (by simp [a0B])]
 case iface ty x=>rw [h x (by simp [a0B])]
 case fa o x=>rw [h x (by simp [a0B])]
 case fa0 e x=>rw [h x (by simp [a0B])]
 case fld g o n x=>rw [h x (by simp [a0B])]
 case ext x i=>rw [h x (by simp [a0B])]
 case len x=>rw [h x (by simp [a0B])]
 case cap x=>rw [h x (by simp [a0B])]
 case pan x=>rw [h x (by simp [a0B])]
theorem w0z (h:∀ x ∈ a0B so,ev t x=ev t' x):d0m t so=d0m t' so:=by
 cases so <;> simp only [d0m]
 case store n x y=>rw [h x (by simp [a0B])]
 case app e n b x y=>rw [h x (by simp [a0B]),h y (by simp [a0B])]
 case load g n x=>rw [h x (by simp [a0B])]
 case fa0 e x=>rw [h x (by simp [a0B])]
 case sl e size x lo hi mx=>rw [h x (by simp [a0B])]
theorem p0Y {b:Nat} (h:b ∈ (d0m t so).2):way so=2:=by cases so <;> simp [d0m] at h <;> rfl
theorem A0s {b:Nat} (h:b ∈ (d0m t so).1):way so=1 ∨ way so=2:=by cases so <;> simp [d0m] at h <;> simp [way]
def d0R:SOp->Bool
 | .call _ _ b | .callv _ _ b | .inv _ _ _ b=>b
 | _=>false
theorem f0A {f:FuncId} {args:List Value} {l:Bool} (h:opA fl t H so=.call f args l):way so=3/\d0R so=l:=by
 have hc:=m0M h
 cases so <;> simp only [x0l,k1W] at hc
 case call=>simp [opA] at h;simp [way,d0R,h.2.2]
 case callv=>simp only [opA] at h;split at h <;> simp at h;simp [way,d0R,h.2.2]
 case inv =>
  simp only [opA] at h
  split at h
  ·split at h <;> simp at h;simp [way,d0R,h.2.2]
  ·cases h
theorem K0C {v:Value} (c:way so=0) (h:opA fl t H so=.val v H1):H1=H:=by
 have e:=q0O h
 cases so <;> simp only [way] at c <;> first | (exact k1Q c (by decide)) | skip
 all_goals
  simp only [opA] at h
  first
   | (simp at h;exact h.2.symm)
   | (unfold b0H at h;split at h <;> simp at h;exact h.2.symm)
   | (split at h <;> first | (simp at h;exact h.2.symm) | (cases h;done) | (split at h <;> first | (simp at h;exact h.2.symm) | (cases h;done)) | (unfold b0H at h;split at h <;> simp at h;exact h.2.symm))
theorem s0q (hc:cOp X.P lone op=some so):(way so ≠ 0->o0I op ≠ 0)/\(d0R so=true->lone=true):=by
 cases op
 case call c =>
  obtain ⟨e,args,k⟩:=c
  cases e with
  | value f =>
   refine ⟨fun _=>by simp [o0I],fun j=>?_⟩
   cases f <;> simp only [cOp] at hc
   case func f =>
    split at hc
    ·simp only [k1C,k1w,k1F,k1z] at hc
     obtain ⟨_,_,rfl⟩:=hc;exact j
    ·cases hc
   all_goals
    simp only [k1C,k1w,k1F,k1z] at hc
    obtain ⟨_,_,_,_,rfl⟩:=hc;exact j
  | invoke r n =>
   refine ⟨fun _=>by simp [o0I],fun j=>?_⟩
   simp only [cOp,k1C,k1w,k1F,k1z] at hc
   obtain ⟨_,_,_,_,rfl⟩:=hc;exact j
  | builtin b =>
   simp only [cOp] at hc
   split at hc
   ·simp only [k1C,k1w,k1F,k1z] at hc
    obtain ⟨_,_,_,_,rfl⟩:=hc
    exact ⟨fun h=>by simp [way] at h,fun h=>by simp [d0R] at h⟩
   ·simp only [k1C,k1w,k1F,k1z] at hc
    obtain ⟨_,_,_,_,rfl⟩:=hc
    exact ⟨fun h=>by simp [way] at h,fun h=>by simp [d0R] at h⟩
   ·simp only [k1C,k1w,k1F,k1z] at hc
    obtain ⟨_,_,_,_,rfl⟩:=hc
    exact ⟨fun h=>by simp [way] at h,fun h=>by simp [d0R] at h⟩
   ·simp only [k1C,k1w,k1F,k1z] at hc
    obtain ⟨_,_,_,_,rfl⟩:=hc
    exact ⟨fun h=>by simp [way] at h,fun h=>by simp [d0R] at h⟩
   ·simp only [k1C,k1w] at hc
    obtain ⟨_,_,_,_,_,_,hc⟩:=hc
    split at hc
    ·simp only [k1w,k1F,k1z] at hc
     obtain ⟨_,_,_,_,_,_,rfl⟩:=hc
     exact ⟨fun _=>by simp [o0I],fun h=>by simp [d0R] at h⟩
    ·split at hc
     ·simp only [k1w,k1F,k1z] at hc
      obtain ⟨_,_,_,_,_,_,rfl⟩:=hc
      exact ⟨fun _=>by simp [o0I],fun h=>by simp [d0R] at h⟩
     ·cases hc
   ·cases hc
 all_goals
  simp only [cOp,m1A,k1C,k1w,k1F,k1z,reduceCtorEq] at hc
 all_goals (try (split at hc))
 all_goals (try (simp only [k1C,k1F,k1w,k1z,reduceCtorEq] at hc))
 case move=>obtain ⟨_,_,rfl⟩:=hc;exact ⟨fun h=>by simp [way] at h,fun h=>by simp [d0R] at h⟩
 case assign=>obtain ⟨_,_,rfl⟩:=hc;exact ⟨fun h=>by simp [way] at h,fun h=>by simp [d0R] at h⟩
 all_goals
  (repeat' (first | (obtain ⟨_,_,hc⟩:=hc) | (split at hc) | (simp only [k1w,k1F,k1z,reduceCtorEq] at hc)))
 all_goals (try subst hc)
 all_goals
  refine ⟨fun h=>?_,fun h=>?_⟩
  ·first
    | (simp [o0I];done)
    | (simp [way] at h;done)
  ·simp [d0R] at h
def cut (φ:Inj) (m:Nat):Inj:=fun b=>if b < m then φ b else none
theorem b0A {m b:Nat} {y:Nat × Nat}:cut φ m b=some y <-> b < m/\φ b=some y:=by
 unfold cut;split
 ·rename_i h;simp [h]
 ·rename_i h;simp [h]
theorem j0z {m k:Nat} (e:m<=k) (c:∀ b y,b < m->φ b=some y->φ' b=some y):∀ b y,cut φ m b=some y->cut φ' k b=some y:=fun b y h=>by
 rw [b0A] at h ⊢
 exact ⟨by omega,c b y h.1 h.2⟩
theorem VR.cut {m:Nat} (e:∀ b y,φ b=some y->b < m) {v u:Value} (h:VR X φ S v u):∀ {c},VR X ψ S' v c->VR X (cut ψ m) S' v c:=by
 induction h with
 | bool b=>intro c k;cases k;exact .bool _
 | int k n=>intro c k;cases k;exact .int _ _
 | str s=>intro c k;cases k;exact .str _
 | pnil=>intro c k;cases k;exact .pnil
 | ptr a a' B o h1 h2 h3=>intro c k;cases k with | ptr _ a2 B2 o2 g1 g2 g3=>exact .ptr _ _ B2 o2 g1 (b0A.2 ⟨e _ _ h2,g2⟩) g3
 | snil=>intro c k;cases k;exact .snil
 | sle a a' =>
  intro c k
  cases k with
  | sle _ a2=>exact .sle _ _
  | sl _ a2 _ _ c2 B2 o2 g1 g2 g3 g4 g5 g6 g7 g8=>rw [g6 (by simp [unk])];exact .sle _ _
 | sl a a' len cap cap' B o h1 h2 h3 h4 h5 h6 h7 h8 =>
  intro c k
  cases k with
  | sle _ a2=>exact .sle _ _
  | sl _ a2 _ _ c2 B2 o2 g1 g2 g3 g4 g5 g6 g7 g8=>exact .sl _ _ _ _ _ B2 o2 g1 (b0A.2 ⟨e _ _ h2,g2⟩) g3 g4 g5 g6 g7 g8
 | nilFunc=>intro c k;cases k;exact .nilFunc
 | nilIface=>intro c k;cases k;exact .nilIface
 | func f a b a' b' h1 _ h3 _ ih1 ih2 =>
  intro c k
  cases k with
  | func _ _ _ a2 b2 g1 g2 g3 g4=>exact .func _ _ _ _ _ g1 (fun i hi=>ih1 i hi (g2 i hi)) g3 (fun i hi=>ih2 i hi (g4 i hi))
 | iface ty v v' _ ih=>intro c k;cases k with | iface _ _ v2 g=>exact .iface _ _ _ (ih g)
 | agg a a' h1 _ ih=>intro c k;cases k with | agg _ a2 g1 g2=>exact .agg _ _ g1 (fun i hi=>ih i hi (g2 i hi))
 | tuple a a' h1 _ ih=>intro c k;cases k with | tuple _ a2 g1 g2=>exact .tuple _ _ g1 (fun i hi=>ih i hi (g2 i hi))
theorem CR.cut {m:Nat} (e:∀ b y,φ b=some y->b < m) {l u c:List Value} (h:CR X φ S l u) (k:CR X ψ S' l c):CR X (cut ψ m) S' l c :=
 ⟨k.1,fun i hi=>(h.2 i hi).cut e (k.2 i hi)⟩
def z0a (X:Cx) (φ:Inj) (w:World) (B o:Nat) (ro:Bool) (e:TypeId) (cs:List Value):Prop :=
 ∃ c el fz,w.heap[B]? = some (.cells c el fz)/\o + cs.length<=c.size/\CR X φ w.shape? cs ((c.toList.drop o).take cs.length)/\(ro=false->X.base<=B/\fz=(0,0)/\el=e)/\(ro=true->B < X.base)
theorem z0a.mo {B o:Nat} {ro:Bool} {e:TypeId} {cs:List Value} (h:z0a X φ w B o ro e cs) (j:∀ b x,φ b=some x->φ' b=some x) (F:∀ b x,w.shape? b=some x->w'.shape? b=some x) (G:w'.heap[B]? = w.heap[B]?) :
  z0a X φ' w' B o ro e cs:=by
 obtain ⟨c,k,q,s,u,v,y,z⟩:=h
 exact ⟨c,k,q,by rw [G];exact s,u,v.mo j F,y,z⟩
theorem z0a.lt {B o:Nat} {ro:Bool} {e:TypeId} {cs:List Value} (h:z0a X φ w B o ro e cs):B < w.heap.size:=by
 obtain ⟨c,k,q,j,_⟩:=h
 exact (l1j.1 j).1
