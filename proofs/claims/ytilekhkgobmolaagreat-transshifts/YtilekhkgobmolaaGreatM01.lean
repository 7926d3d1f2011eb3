/- Part 2 of the proof: AiSim7, AiSim8, AiKeep, AiLocal, AiSim9, AiSim10, AiDraw1, AiDraw2. -/
import Derived.Orders
import Derived.Test.YtilekhkgobmolaaGreatM00
set_option linter.unusedVariables false
set_option linter.unusedSimpArgs false
set_option linter.unusedSectionVars false
namespace Go.Proofs.YtilekhkgobmolaaGreat.AI
section
open Go
variable {X:Cx} {φ φ':Inj} {S:Shp} {H H':a0e} {w w':World} {fl:Nat} {t:a0W} {a:Act} {o:Oper}
theorem Rel.drew (hR:Rel X φ H w):Rel X φ H w.drew:=⟨hR.bs,hR.lt,hR.row,hR.sep⟩
theorem c0Z.drew (hR:Rel X φ H w):c0Z X fl φ H w φ H w.drew :=
 { ext := fun _ _ h => h, rel := hR.drew, shp := fun _ _ h => h, wsz := Z0E _, os := rfl, tape := rfl, out := rfl, hsz := Z0E _, keep := fun _ _ => rfl,
   kind:=fun _ _ cs _ h=>⟨cs,h⟩,fresh:=(fun b x h h'=>by rw [h] at h';cases h'),newB:=(fun b B o h h'=>by rw [h] at h';cases h'),frame:=fun _ _ _=>rfl }
theorem c0Z.kill (hR:Rel X φ H w) {b:Nat} (hbl:b < H.size) (hfl:fl≤b):c0Z X fl φ H w φ (H.setIfInBounds b .dead) w:=by
 have hsub:∀ b1 ro e cs,a0e.blk (H.setIfInBounds b .dead) b1=.row ro e cs→b1 ≠ b∧H.blk b1=.row ro e cs:=fun b1 ro e cs h=>by
  rw [a0T _ _ _ _ hbl] at h
  split at h
  ·cases h
  ·rename_i hne;exact ⟨hne,h⟩
 refine
  { ext := fun _ _ h => h
    rel:=?_
    shp:=fun _ _ h=>h
    wsz:=Z0E _
    os:=rfl
    tape:=rfl
    out:=rfl
    hsz:=by simp
    keep:=fun b1 hb1=>by rw [a0T _ _ _ _ hbl,Z0F (by omega)]
    kind:=fun b1 e cs _ h=>⟨cs,(hsub _ _ _ _ h).2⟩
    fresh:=fun b x h h'=>by rw [h] at h';cases h'
    newB:=fun b B o h h'=>by rw [h] at h';cases h'
    frame:=fun _ _ _=>rfl }
 refine { bs:=hR.bs,lt:=fun b x h=>by simpa using hR.lt b x h,row:=fun b1 B o ro e cs h hr=>hR.row b1 B o ro e cs h (hsub _ _ _ _ hr).2,sep:=?_ }
 intro b1 b2 B o o' e cs h1 h2 hne hr
 have:=hR.sep b1 b2 B o o' e cs h1 h2 hne (hsub _ _ _ _ hr).2
 rw [a0T _ _ _ _ hbl]
 split
 ·rfl
 ·exact this
theorem m0A (z:Array Value) (n:Nat) (hz:0 < z.size):(Builtin.zeroCells z n).toList=e0q z.toList n:=i0L z n hz
theorem r0j (z:List Value):∀ (m n:Nat),m≤n→(e0q z n).take (m * z.length)=e0q z m
 | 0,n,_=>by simp [e0q]
 | m + 1,0,h=>by omega
 | m + 1,n + 1,h=>by
  simp only [e0q]
  rw [Nat.succ_mul,Nat.add_comm (m * z.length),List.take_append]
  simp [r0j z m n (by omega),Z0R]
theorem c0Z.moved (hR:Rel X φ H w) {b B o off:Nat} {e:TypeId} {cs0 cs:List Value} (hb:φ b=some (B,o)) (hk:H.blk b=.row false e cs0) (hfl:fl≤b) (hflH:fl≤H.size)
  (c:Array Value) (c':Array Value) (h1:w.heap[B]? = some (.cells c e (0,0))) (hsz:c'.size=c.size) (hle:off + cs.length≤c'.size) (hc:CR X φ w.shape? cs ((c'.toList.drop off).take cs.length)) :
  c0Z X fl φ H w (fun b1=>if b1=H.size then some (B,off) else φ b1) ((H.setIfInBounds b .dead).push (.row false e cs)) (w.setRow B c'):=by
 have hbl:=a0g hk
 obtain ⟨c0,g1,g2,g3,g4⟩:=hR.blkT hb hk
 have hsh:=g0B w B c c' e (0,0) h1 hsz
 have hshp:(w.setRow B c').shape? = w.shape?:=funext hsh
 have hBl:B < w.heap.size:=(a1n.1 h1).1
 have hext:∀ b1 x,φ b1=some x→(fun b1=>if b1=H.size then some (B,off) else φ b1) b1=some x:=fun b1 x hx=>by
  have:=hR.lt b1 x hx
  show (if _ then _ else _)=_
  rw [Z0F (by omega)];exact hx
 have hsize:(H.setIfInBounds b .dead).size=H.size:=by simp
 have hblk:∀ b1,a0e.blk ((H.setIfInBounds b .dead).push (.row false e cs)) b1=if b1=H.size then .row false e cs else if b1=b then .dead else H.blk b1:=fun b1=>by
  rw [a0y,hsize]
  split
  ·rfl
  ·exact a0T _ _ _ _ hbl
 refine
  { ext := hext
    rel:=?_
    shp:=fun B1 x h=>by rw [hsh];exact h
    wsz:=by simp [World.setRow]
    os:=rfl
    tape:=rfl
    out:=rfl
    hsz:=by simp
    keep:=fun b1 hb1=>by rw [hblk,Z0F (by omega),Z0F (by omega)]
    kind:=fun b1 e1 cs1 hb1 hrow=>by
     rw [hblk,Z0F (by omega)] at hrow
     split at hrow
     ·cases hrow
     ·exact ⟨cs1,hrow⟩
    fresh:=fun b1 x hb1 hn=>by
     by_cases h:b1=H.size
     ·omega
     ·simp only [Z0F h] at hb1;rw [hb1] at hn;cases hn
    newB:=fun b1 B1 o1 hb1 hn=>by
     by_cases h:b1=H.size
     ·simp only [Z0I h,Z0G,b1s] at hb1
      exact .inr ⟨b,o,e,cs0,by rw [hb,hb1.1],hfl,hk⟩
     ·simp only [Z0F h] at hb1;rw [hb1] at hn;cases hn
    frame:=fun B1 _ hno=>setRow_other w B B1 _ (fun h=>by subst h;exact hno b o e cs0 hb hfl hk) }
 refine { bs:=by have:=hR.bs;simpa [World.setRow] using this,lt:=?_,row:=?_,sep:=?_ }
 ·intro b1 x hb1
  simp only [a1V,hsize]
  by_cases h:b1=H.size
  ·omega
  ·simp only [Z0F h] at hb1;have:=hR.lt b1 x hb1;omega
 ·intro b1 B1 o1 ro e1 cs1 hb1 hrow
  rw [hblk] at hrow
  rw [hshp]
  by_cases h:b1=H.size
  ·simp only [Z0I h] at hb1 hrow
   cases hb1;cases hrow
   exact ⟨c',e,(0,0),setRow_heap w B c c' e (0,0) h1,hle,hc.mono hext (fun _ _ h=>h),fun _=>⟨g2,rfl,rfl⟩,fun h=>by cases h⟩
  ·simp only [Z0F h] at hb1 hrow
   split at hrow
   ·cases hrow
   ·rename_i hne
    by_cases hB:B1=B
    ·subst hB
     have:=hR.sep b b1 B1 o o1 e cs0 hb hb1 (fun e=>hne e.symm) hk
     rw [this] at hrow;cases hrow
    ·obtain ⟨c1,el,fz,h6,h7,h8,h9⟩:=hR.row b1 B1 o1 ro e1 cs1 hb1 hrow
     exact ⟨c1,el,fz,by rw [setRow_other w B B1 _ hB];exact h6,h7,h8.mono hext (fun _ _ h=>h),h9⟩
 ·intro b1 b2 B1 o1 o2 e1 cs1 hb1 hb2 hne hrow
  rw [hblk] at hrow ⊢
  by_cases h:b1=H.size
  ·have h':b2 ≠ H.size:=fun e=>hne (h.trans e.symm)
   simp only [Z0I h] at hb1 hrow
   simp only [Z0F h'] at hb2 ⊢
   cases hb1
   by_cases h2:b2=b
   ·rw [Z0I h2]
   ·rw [Z0F h2]
    exact hR.sep b b2 _ o o2 e cs0 hb hb2 (fun e=>h2 e.symm) hk
  ·simp only [Z0F h] at hb1 hrow
   split at hrow
   ·cases hrow
   ·rename_i hnb
    by_cases h':b2=H.size
    ·simp only [Z0I h'] at hb2
     cases hb2
     have:=hR.sep b1 b _ o1 o e1 cs1 hb1 hb hnb hrow
     rw [this] at hk;cases hk
    ·simp only [Z0F h'] at hb2 ⊢
     split
     ·rfl
     ·exact hR.sep b1 b2 B1 o1 o2 e1 cs1 hb1 hb2 hne hrow
section
variable (hR:Rel X φ H w) (hT:CR X φ w.shape? t a.tmps.toList)
include hR hT
theorem T0s (hfl:fl≤H.size) {ty e:TypeId} {z:List Value} {size bytes:Nat} {x y:Operand} {x' y':Opd} (ho:o.op=.makeSlice ty x y) (he:g0j X.P ty=some e) (hs:c0N X.P e=some size)
  (hb:h0Q X.P e=some bytes) (hz:j0i X.P e=some z) (hsz:size=z.length) (hpos:0 < size) (hx:c0d x=some x') (hy:c0d y=some y') (fx:a0L x' = true) (fy:a0L y' = true)
  {v:Value} (h:opA fl t H (.mk e bytes z x' y')=.val v H'):b0d X fl φ H w o a v H':=by
 have hu:=e0M he
 obtain ⟨hf,zv,i,hi,hzv,_,hvz,hrun⟩:=g0W hz
 have hzs:zv.cells.size=size:=by rw [hsz,← hvz];simp
 have hvx:=b0C hT hx fx
 have hvy:=b0C hT hy fy
 have hbi:i.bytes=bytes:=by simpa [h0Q,hi] using hb
 have hsi:i.size=size:=by simpa [c0N,hi] using hs
 simp only [opA] at h
 split at h
 ·rename_i k1 l k2 c e1 e2
  split at h
  ·rename_i hc
   obtain ⟨h0,h1,h2,h3⟩:=hc
   simp only [OpRes.val.injEq] at h
   obtain ⟨rfl,rfl⟩:=h
   rw [e1] at hvx;rw [e2] at hvy
   generalize hg1:a.eval x=g1 at hvx
   generalize hg2:a.eval y=g2 at hvy
   cases hvx;cases hvy
   have hbc:(i.bytes:Int) * c≤281474976710656:=by
    have h4:i.bytes * c.toNat≤1024 * 1073741824:=a1D (by omega) (by omega)
    have h5:((i.bytes * c.toNat:Nat):Int)=(i.bytes:Int) * c:=by rw [b1b,c1i (by omega)]
    omega
   have hmk:=run_make (P:=X.P) w ty e i zv hu hi hzv k1 k2 l c h0 h1 hbc (by omega)
   have hcl:(madeCells zv.cells (c.toNat * i.size)).toList=e0q z c.toNat:=by
    have:=i0L zv.cells c.toNat (by omega)
    rw [hzs,hvz] at this
    rw [hsi];simpa [madeCells,hzs] using this
   have hcs:(madeCells zv.cells (c.toNat * i.size)).size=c.toNat * size:=by rw [size_madeCells,hsi]
   have hlc:l.toNat * size≤c.toNat * size:=Z0L _ (by omega)
   refine b0d.made hR hT hfl e _ _ (by rw [d0V,hcs,← hsz];exact hlc) ?_ _ (.slice (some ⟨w.heap.size,0,none⟩) l.toNat c.toNat) (by simp [execOp,ho,hg1,hg2,hmk])
    (i0b hR _ e _ _ _ size (e0g hs) (fun _=>rfl) (by omega) (by rw [hcs];exact Z0E _))
   rw [hcl,d0V,r0j _ _ _ (by omega)]
   exact f0k (i0t hf _)
  ·cases h
 ·cases h
theorem F0x {ty:TypeId} {n:Nat} {x y:Operand} {x' y':Opd} (ho:o.op=.store ty x y) (hn:c0N X.P ty=some n) (hx:c0d x=some x') (hy:c0d y=some y') (fx:a0L x' = true) (fy:a0L y' = true)
  {v:Value} (h:opA fl t H (.store n x' y')=.val v H'):b0d X fl φ H w o a v H':=by
 have hvx:=b0C hT hx fx
 have hvy:=(b0C hT hy fy).cells
 simp only [opA] at h
 split at h
 ·rename_i p e1
  split at h
  ·cases h
  ·rename_i hc
   split at h
   ·rename_i H2 hw
    simp only [OpRes.val.injEq] at h
    obtain ⟨rfl,rfl⟩:=h
    rw [e1] at hvx
    generalize hg1:a.eval x=g1 at hvx
    cases hvx with
    | ptr _ q B o' h1 h2 h3 =>
     subst h3
     obtain ⟨w',hst,hstep⟩:=c0Z.store hR h2 hw hvy
     have hlen:=hvy.1
     have hsz:(a.eval y).cells.size=n:=by
      have:¬ (a0S (ev t y')).length ≠ n:=fun e=>hc (.inr e)
      simp only [c1h] at hlen;omega
     refine ⟨φ,w',undef,.inr ⟨rfl,?_⟩,VR.undef,hstep⟩
     simp [execOp,ho,hg1,Instr.storeAt,Instr.sureAddr,storeVar,d0n hn,hsz,hst]
   ·cases h
 ·cases h
omit hR hT in
theorem l0F (w:World) (t u ty e:TypeId) (i:TypeInfo) (z:Value) (k k':IntKind) (ht:X.P.underlying t=some (.slice e)) (hk:X.P.underlying u=some (.int k)) (hi:X.P.info? e=some i) (hz:i.zero=some z) (n:Int) (h0:0 < n) (h1:n≤1073741824) (hb:i.bytes≤1024) (hs:0 < i.size) :
  (Builtin.append_ #[t,u] ty #[.slice none 0 0,.int k' n]).run X.P w=.ok (.slice (some ⟨w.heap.size,0,none⟩) n.toNat (grownCap w n.toNat 0 e))
   (w.drew.alloc (.cells (Builtin.zeroCells z.cells n.toNat ++ Builtin.zeroCells z.cells (grownCap w n.toNat 0 e - n.toNat)) e)):=by
 have wl:IntKind.i64.wrap n=n:=by rw [IntKind.wrap_i64];omega
 obtain ⟨m,rfl⟩:∃ m:Nat,n=m:=⟨n.toNat,by omega⟩
 have n1:¬ (m:Int) < 0:=by omega
 have hm0:m ≠ 0:=by omega
 have hsm:m * i.bytes≤1073741824 * 1024:=a1D (by omega) hb
 have n2:¬ (281474976710656 < (m:Int) * (i.bytes:Int)):=by
  have:((m * i.bytes:Nat):Int)=(m:Int) * (i.bytes:Int):=b1b _ _
  omega
 have hms:m * i.size ≠ 0:=by have:=Nat.mul_pos (show 0 < m by omega) hs;omega
 have h63:¬ (9223372036854775807 < (m:Int)):=by omega
 have h48:¬ (281474976710656 < Builtin.nextslicecap m 0 * i.bytes):=by rw [nextslicecap_zero (by omega)];omega
 have hms2:¬ (m=0 ∨ i.size=0):=by omega
 simp [Builtin.append_,run_underlying ht,run_underlying hk,sizeOf,typeInfo,zeroValue,hi,hz,asInt,asIntOf,wl,n1,n2,hm0,hms,hms2,h63,h48,Question.forced,run_firstCells_none,newRow,grownCap]
theorem I0r (hfl:fl≤H.size) {ty u e ty2:TypeId} {z:List Value} {size bytes:Nat} {as:Array Operand} {ats:Array TypeId} {x y:Operand} {x' y':Opd}
  (ho:o.op=.call { callee:=.builtin .append,args:=as,argTypes:=ats }) (hty2:o.type=ty2) (has:as.toList=[x,y]) (hats:ats.toList=[ty,u]) (he:g0j X.P ty=some e) (hs:c0N X.P e=some size)
  (hb:h0Q X.P e=some bytes) (hz:j0i X.P e=some z) (hsz:size=z.length) (hpos:0 < size) (hu2:y0u X.P u=true) (hx:c0d x=some x') (hy:c0d y=some y') (fx:a0L x' = true) (fy:a0L y' = true)
  {v:Value} (h:opA fl t H (.appz e bytes z x' y')=.val v H'):b0d X fl φ H w o a v H':=by
 have hu:=e0M he
 obtain ⟨hf,zv,i,hi,hzv,_,hvz,hrun⟩:=g0W hz
 have hzs:zv.cells.size=size:=by rw [hsz,← hvz];simp
 have hvx:=b0C hT hx fx
 have hvy:=b0C hT hy fy
 have hbi:i.bytes=bytes:=by simpa [h0Q,hi] using hb
 have hsi:i.size=size:=by simpa [c0N,hi] using hs
 have hce:=e0g hs
 have has':as = #[x,y]:=by rw [← a1C (xs:=as),has]
 have hats':ats = #[ty,u]:=by rw [← a1C (xs:=ats),hats]
 subst has' hats'
 obtain ⟨k,hk⟩:∃ k,X.P.underlying u=some (.int k):=by
  unfold y0u at hu2;split at hu2
  ·rename_i k hk;exact ⟨k,hk⟩
  ·cases hu2
 simp only [opA] at h
 split at h
 ·rename_i m hg
  simp only [OpRes.val.injEq] at h
  obtain ⟨rfl,rfl⟩:=h
  unfold w0k at hg
  split at hg
  ·rename_i k' n e1 e2
   split at hg
   ·rename_i hc
    obtain ⟨c0,c1,c2⟩:=hc
    simp only [Z0G] at hg
    subst hg
    rw [e1] at hvx;rw [e2] at hvy
    generalize hg1:a.eval x=g1 at hvx
    generalize hg2:a.eval y=g2 at hvy
    cases hvx;cases hvy
    have hr:=l0F (X:=X) w ty u ty2 e i zv k k' hu hk hi hzv n c0 c1 (by omega) (by omega)
    have hex:(execOp a.eval o).run X.P w=.ok (.value (.slice (some ⟨w.heap.size,0,none⟩) n.toNat (grownCap w n.toNat 0 e))) (w.drew.alloc (.cells (Builtin.zeroCells zv.cells n.toNat ++ Builtin.zeroCells zv.cells (grownCap w n.toNat 0 e - n.toNat)) e)):=by
     simp [execOp,ho,hg1,hg2,resolve,invoke,builtin,hty2,hr]
    have hge:=grownCap_ge w n.toNat 0 e
    obtain ⟨m,hm⟩:∃ m,m=n.toNat:=⟨_,rfl⟩
    rw [← hm] at hex hge ⊢
    have hzl:(Builtin.zeroCells zv.cells m).toList=e0q z m:=by rw [m0A _ _ (by omega),hvz]
    have hzsz:(Builtin.zeroCells zv.cells m).size=m * size:=by rw [size_zeroCells,hzs]
    have hrl:(e0q z m).length=m * size:=by rw [d0V,← hsz]
    have hst:=c0Z.alloc (fl:=fl) (hR.drew) e (e0q z m) (Builtin.zeroCells zv.cells m ++ Builtin.zeroCells zv.cells (grownCap w m 0 e - m))
     (by rw [hrl,Array.size_append,hzsz];omega)
     (by
      have:(Builtin.zeroCells zv.cells m ++ Builtin.zeroCells zv.cells (grownCap w m 0 e - m)).toList.take (e0q z m).length=e0q z m:=by
       rw [b1F,hzl];exact List.take_left
      rw [this];exact f0k (i0t hf _)) hfl
    refine ⟨_,_,_,.inl hex,?_,(c0Z.drew hR).trans hst (Z0E _) hR⟩
    exact i0b (X:=X) (φ:=φ) (H:=H) (w:=w.drew) hR.drew (Builtin.zeroCells zv.cells m ++ Builtin.zeroCells zv.cells (grownCap w m 0 e - m)) e m unk (grownCap w m 0 e) size hce (fun h=>Z0T rfl h) hge (by
     rw [Array.size_append,hzsz,size_zeroCells,hzs,← Z0U]
     exact Z0L _ (by omega))
   ·cases hg
  ·cases hg
 ·cases h
theorem P0H (hfl:fl≤H.size) {ty e ty2:TypeId} {z:List Value} {size bytes:Nat} {as:Array Operand} {ats:Array TypeId} {x y:Operand} {x' y':Opd}
  (ho:o.op=.call { callee:=.builtin .append,args:=as,argTypes:=ats }) (hty2:o.type=ty2) (has:as.toList=[x,y]) (hats:ats.toList=[ty,ty]) (he:g0j X.P ty=some e) (hs:c0N X.P e=some size)
  (hb:h0Q X.P e=some bytes) (hz:j0i X.P e=some z) (hsz:size=z.length) (_:0 < size) (hx:c0d x=some x') (hy:c0d y=some y') (fx:a0L x' = true) (fy:a0L y' = true)
  {v:Value} (h:opA fl t H (.app e size bytes x' y')=.val v H'):b0d X fl φ H w o a v H':=by
 have hu:=e0M he
 obtain ⟨hf,zv,i,hi,hzv,_,hvz,hrun⟩:=g0W hz
 have hzs:zv.cells.size=size:=by rw [hsz,← hvz];simp
 have hvx:=b0C hT hx fx
 have hvy:=b0C hT hy fy
 have hbi:i.bytes=bytes:=by simpa [h0Q,hi] using hb
 have hsi:i.size=size:=by simpa [c0N,hi] using hs
 have hce:=e0g hs
 have has':as = #[x,y]:=by rw [← a1C (xs:=as),has]
 have hats':ats = #[ty,ty]:=by rw [← a1C (xs:=ats),hats]
 subst has' hats'
 have hexec:∀ (g1 g2 v':Value) (w1:World),a.eval x=g1→a.eval y=g2→(Builtin.append_ #[ty,ty] ty2 #[g1,g2]).run X.P w=.ok v' w1→(execOp a.eval o).run X.P w=.ok (.value v') w1:=by
  intro g1 g2 v' w1 e1 e2 e3
  simp [execOp,ho,e1,e2,resolve,invoke,builtin,hty2,e3]
 simp only [opA] at h
 cases hap:h0g fl H e size bytes (ev t x') (ev t y') with
 | none=>simp [hap,f0Q] at h
 | some r =>
  obtain ⟨rv,rH⟩:=r
  simp only [hap,f0Q,OpRes.val.injEq] at h
  obtain ⟨rfl,rfl⟩:=h
  generalize hg1:a.eval x=g1 at hvx
  generalize hg2:a.eval y=g2 at hvy
  unfold h0g at hap
  split at hap
  ·rename_i base len cap xb n xc e1 e2
   rw [e1] at hvx;rw [e2] at hvy
   split at hap
   ·-- nothing appended
    rename_i hn0;cases hap
    subst hn0
    have key:∀ (p':Option Addr) (c':Nat) (q':Option Addr) (d':Nat),g1=.slice p' len c'→g2=.slice q' 0 d'→len≤c'→b0d X fl φ H w o a (.slice base len cap) H:=by
     intro p' c' q' d' h1 h2 hlc
     subst h1 h2
     refine b0d.same hR (v':=.slice p' len c') (hexec _ _ _ _ hg1 hg2 ?_) hvx
     have hnew:(Builtin.firstCells size 0 (.slice q' 0 d')).run X.P w=.ok #[] w:=by cases q' <;> simp [Builtin.firstCells,loadCells,loadCellsFrom]
     cases p' <;> simp [Builtin.append_,run_underlying hu,sizeOf,typeInfo,hi,Builtin.lenOf,hlc,hsi,hnew,storeCells]
    cases hvx with
    | sle _ p' =>
     cases hvy with
     | snil=>exact key _ _ _ _ rfl rfl (Z0E _)
     | sle _ q'=>exact key _ _ _ _ rfl rfl (Z0E _)
     | sl _ q' _ _ d' B2 o2 _ _ _ _ _ _ _ _=>exact key _ _ _ _ rfl rfl (Z0E _)
    | snil =>
     cases hvy with
     | snil=>exact key _ _ _ _ rfl rfl (Z0E _)
     | sle _ q'=>exact key _ _ _ _ rfl rfl (Z0E _)
     | sl _ q' _ _ d' B2 o2 _ _ _ _ _ _ _ _=>exact key _ _ _ _ rfl rfl (Z0E _)
    | sl _ p' _ _ c' B o' k1 k2 k3 k4 k5 k6 k7 k8 =>
     cases hvy with
     | snil=>exact key _ _ _ _ rfl rfl k7
     | sle _ q'=>exact key _ _ _ _ rfl rfl k7
     | sl _ q' _ _ d' B2 o2 _ _ _ _ _ _ _ _=>exact key _ _ _ _ rfl rfl k7
   ·rename_i hn0
    split at hap
    ·rename_i hbd
     obtain ⟨hb1,hb2,_⟩:=hbd
     split at hap
     ·cases hap
     ·rename_i xp
      split at hap
      ·cases hap
      ·rename_i new hnew
       cases hvy with
       | sle _ q'=>exact Z0T rfl hn0
       | sl _ q' _ _ d' B2 o2 k1 k2 k3 k4 k5 k6 k7 k8 =>
        have hoff2:=k5 (by omega)
        have hq:q' = ⟨B2,o2 + xp.off,none⟩:=by cases q';simp_all
        subst hq
        obtain ⟨hnl,new',hnl',hncr,hncell⟩:=hR.cells k2 hnew
        have hncell':=k0t hncell
        have hsmall:(len + n) * i.bytes≤140737488355328:=by
         have:(len + n) * i.bytes≤1073741824 * 1024:=a1D hb1 (by omega)
         omega
        -- the new row of a grown slice
        have grownRow:∀ (G:a0e),Rel X φ G w→G.size=H.size→∀ (olds olds':List Value) (m:Nat),olds.length=m * size→CR X φ w.shape? olds olds'→∀ cap0,
          (execOp a.eval o).run X.P w=.ok (.value (.slice (some ⟨w.heap.size,0,none⟩) (m + n) (grownCap w (m + n) cap0 e)))
           (w.drew.alloc (.cells (olds'.toArray ++ new'.toArray ++ Builtin.zeroCells zv.cells (grownCap w (m + n) cap0 e - (m + n))) e)) →
          ∃ φ' w' v',(execOp a.eval o).run X.P w=.ok (.value v') w'∧VR X φ' w'.shape? (.slice (some ⟨G.size,0,none⟩) (m + n) unk) v'∧c0Z X fl φ G w φ' (G.push (.row false e (olds ++ new))) w':=by
         intro G hG hGs olds olds' m hol hocr cap0 hex
         have hge:=grownCap_ge w (m + n) cap0 e
         have hlen:(olds ++ new).length=(m + n) * size:=by rw [Z0S,hol,hnl,Z0U]
         have hcr:=hocr.append hncr
         have hlen':(olds' ++ new').length=(m + n) * size:=by rw [← hcr.1,hlen]
         have hst:=c0Z.alloc (fl:=fl) (hG.drew) e (olds ++ new) (olds'.toArray ++ new'.toArray ++ Builtin.zeroCells zv.cells (grownCap w (m + n) cap0 e - (m + n)))
          (by simp only [Array.size_append,List.size_toArray,hlen];simp only [Z0S] at hlen';omega)
          (by
           have:(olds'.toArray ++ new'.toArray ++ Builtin.zeroCells zv.cells (grownCap w (m + n) cap0 e - (m + n))).toList.take (olds ++ new).length=olds' ++ new':=by
            rw [hlen,← hlen',b1F,b1F]
            exact List.take_left
           rw [this];exact hcr) (by omega)
         refine ⟨_,_,_,hex,?_,(c0Z.drew hG).trans hst (Z0E _) hG⟩
         exact i0b (X:=X) (φ:=φ) (H:=G) (w:=w.drew) hG.drew (olds'.toArray ++ new'.toArray ++ Builtin.zeroCells zv.cells (grownCap w (m + n) cap0 e - (m + n))) e (m + n) unk (grownCap w (m + n) cap0 e) size hce (fun h=>Z0T rfl h) hge (by
          simp only [Array.size_append,List.size_toArray,size_zeroCells,hzs]
          simp only [Z0S] at hlen'
          rw [hlen',← Z0U]
          exact Z0L _ (by omega))
        split at hap
        ·cases hap
        rename_i hplain
        split at hap
        ·-- onto nil
         split at hap
         ·rename_i hz0;cases hap
          obtain ⟨rfl,rfl⟩:=hz0
          cases hvx
          have hr:=run_append_nil (P:=X.P) w ty ty2 e i zv hu hi hzv ⟨B2,o2 + xp.off,none⟩ n d' new' (by rw [hnl',hsi]) hncell' (by omega) (by omega) (by simp only [a1i] at hsmall;omega)
          obtain ⟨φ2,w2,v2,q1,q2,q3⟩:=grownRow H hR rfl [] [] 0 (by simp) CR.nil 0 (by simpa using hexec _ _ _ _ hg1 hg2 hr)
          exact ⟨φ2,w2,v2,.inl q1,by simpa using q2,by simpa using q3⟩
         ·cases hap
        ·rename_i sp
         split at hap
         ·rename_i h00;cases hap
          obtain ⟨rfl,rfl⟩:=h00
          have gg:∃ p',g1=.slice (some p') 0 0:=by
           cases hvx with
           | sle _ p'=>exact ⟨_,rfl⟩
           | sl _ p' _ _ c' B o' j1 j2 j3 j4 j5 j6 j7 j8=>have:=j6 (by simp [unk]);subst this;exact ⟨_,rfl⟩
          obtain ⟨p',hgg⟩:=gg
          have hr:=run_append_grow (P:=X.P) w ty ty2 e i zv hu hi hzv p' 0 0 [] (by simp) (fun j v hj=>by simp at hj) ⟨B2,o2 + xp.off,none⟩ n d' new' (by rw [hnl',hsi]) hncell' (by omega) (by omega) (growslice_fits (by omega) hsmall)
          rw [← hgg] at hr
          obtain ⟨φ2,w2,v2,q1,q2,q3⟩:=grownRow H hR rfl [] [] 0 (by simp) CR.nil 0 (by simpa using hexec _ _ _ _ hg1 hg2 hr)
          exact ⟨φ2,w2,v2,.inl q1,by simpa using q2,by simpa using q3⟩
         rename_i h00
         split at hap
         ·cases hap
         ·rename_i old hold
          cases hvx with
          | sle _ p'=>exact Z0T ⟨rfl,rfl⟩ h00
          | sl _ p' _ _ c' B o' j1 j2 j3 j4 j5 j6 j7 j8 =>
           obtain ⟨hol,old',hol',hocr,hocell⟩:=hR.cells j2 hold
           have hocell2:∀ j v,old'[j]? = some v→w.cell? (p'.add j)=some v:=by
            intro j v hj
            have hlt:j < old'.length:=(Z0Y.1 hj).1
            have hlen0:0 < len:=by
             rcases Nat.eq_zero_or_pos len with h0 | h0
             ·subst h0;rw [hol'] at hlt;simp at hlt
             ·exact h0
            have:=hocell j v hj
            rw [d0C j3,j4,j5 hlen0];exact this
           have hgrow:c' < len + n→∀ (G:a0e),Rel X φ G w→G.size=H.size →
             ∃ φ' w' v',(execOp a.eval o).run X.P w=.ok (.value v') w'∧VR X φ' w'.shape? (.slice (some ⟨G.size,0,none⟩) (len + n) unk) v'∧c0Z X fl φ G w φ' (G.push (.row false e (old ++ new))) w':=by
            intro hcl G hG hGs
            have hr:=run_append_grow (P:=X.P) w ty ty2 e i zv hu hi hzv p' len c' old' (by rw [hol',hsi]) hocell2 ⟨B2,o2 + xp.off,none⟩ n d' new' (by rw [hnl',hsi]) hncell' hcl (by omega) (growslice_fits hcl hsmall)
            exact grownRow G hG hGs old old' len hol hocr c' (hexec _ _ _ _ hg1 hg2 hr)
           split at hap
           ·rename_i hcap;cases hap
            obtain ⟨φ2,w2,v2,q1,q2,q3⟩:=hgrow (by rw [j6 hcap.1];exact hcap.2) H hR rfl
            exact ⟨φ2,w2,v2,.inl q1,q2,q3⟩
           ·split at hap
            ·rename_i e' cs0 hk
             split at hap
             ·rename_i hcond;cases hap
              obtain ⟨rfl,hflb⟩:=hcond
              obtain ⟨c,g1',g2',g3',g4'⟩:=hR.blkT j2 hk
              by_cases hroom:len + n≤c'
              ·-- in place
               obtain ⟨e3,nn,q1,q2⟩:=j8 (by rw [j4];exact g2')
               rw [j4] at q1
               simp only [World.shape?,g1',Z0G,b1s] at q1
               obtain ⟨rfl,rfl⟩:=q1
               rw [hce] at q2
               have hfit:p'.off + len * size + new'.length≤c.size:=by
                rw [hnl']
                have:len * size + n * size≤c' * size:=by rw [← Z0U];exact Z0L _ hroom
                omega
               have hpl:∀ u ∈ new',u.oneCell' = true:=hncr.plain (by simpa using hplain)
               have hstc:=run_storeCells_at X.P B (p'.off + len * size) e' new' 0 c w g1' (by simpa using hfit) hpl
               simp only [a1N] at hstc
               rw [← g0J new' c.toList (p'.off + len * size) (by simpa using hfit)] at hstc
               have hp':p' = ⟨B,p'.off,none⟩:=by cases p';simp_all
               have hfirst:=run_firstCells_some (P:=X.P) w size n ⟨B2,o2 + xp.off,none⟩ n d' new' hnl' hncell'
               have hrunA:(Builtin.append_ #[ty,ty] ty2 #[.slice (some p') len c',.slice (some ⟨B2,o2 + xp.off,none⟩) n d']).run X.P w =
                 .ok (.slice (some p') (len + n) c') (w.setRow B (b0r c.toList (p'.off + len * size) new').toArray):=by
                have hadd:p'.add (len * size) = ⟨B,p'.off + len * size,none⟩:=by rw [d0C j3,j4]
                simp [Builtin.append_,run_underlying hu,sizeOf,typeInfo,hi,hsi,Builtin.lenOf,hroom,hfirst,hadd,hstc]
               have hclen:(b0r c.toList (p'.off + len * size) new').toArray.size=c.size:=by simp [c0m]
               have hcr:CR X φ w.shape? (old ++ new) (((b0r c.toList (p'.off + len * size) new').toArray.toList.drop p'.off).take (old ++ new).length):=by
                have e4:((b0r c.toList (p'.off + len * size) new').drop p'.off).take (old ++ new).length=old' ++ new':=by
                 rw [h0J]
                 rw [g0J new' (c.toList.drop p'.off) (len * size) (by simp;omega)]
                 have e5:(c.toList.drop p'.off).take (len * size)=old':=by
                  apply b1B
                  intro j
                  by_cases hj:j < len * size
                  ·have hlt:j < old'.length:=by omega
                   have:=hocell2 j old'[j] (Z0H hlt)
                   rw [d0C j3] at this
                   simp only [World.cell?,j4,g1',Option.isSome_none,Z0V,a1v] at this
                   rw [List.getElem?_take_of_lt hj,a1T,Z0H hlt]
                   rw [a1Z];exact this
                  ·rw [Z0P (by simp;omega),Z0P (by omega)]
                 rw [e5]
                 have:(old ++ new).length=(old' ++ new').length:=by simp;omega
                 rw [this]
                 exact List.take_left
                simp only []
                rw [e4];exact hocr.append hncr
               have hstep:=c0Z.moved (fl:=fl) (off:=p'.off) hR j2 hk hflb hfl c _ g1' hclen (by rw [hclen];simp only [Z0S,hol,hnl];omega) hcr
               refine ⟨_,_,_,.inl (hexec _ _ _ _ hg1 hg2 hrunA),?_,hstep⟩
               refine .sl _ _ _ _ _ B p'.off rfl (by simp) j3 j4 (fun _=>by simp) (fun h=>Z0T rfl h) hroom (fun _=>⟨e',c.size,?_,by rw [hce];exact q2⟩)
               rw [j4,g0B w B c _ e' (0,0) g1' hclen]
               simp [World.shape?,g1']
              ·-- grown,and the old row forgotten
               have hkill:=c0Z.kill (fl:=fl) hR (a0g hk) hflb
               obtain ⟨φ2,w2,v2,q1,q2,q3⟩:=hgrow (by omega) _ hkill.rel (by simp)
               exact ⟨φ2,w2,v2,.inl q1,by simpa using q2,hkill.trans q3 (Z0E _) hR⟩
             ·cases hap
            ·cases hap
    ·cases hap
  ·cases hap
end
end
section
open Go
variable {X:Cx} {φ φ':Inj} {S:Shp} {H H':a0e} {w w':World} {fl:Nat} {t:a0W} {a:Act} {o:Oper} {so:SOp} {lone:Bool}
theorem S0v (hc:cOp X.P lone o.op=some so) (hf:(a0r so).all a0L=true) (hR:Rel X φ H w) (hT:CR X φ w.shape? t a.tmps.toList) (hfl:fl≤H.size) {v:Value} (h:opA fl t H so=.val v H') :
  b0d X fl φ H w o a v H':=by
 cases ho:o.op
 case move x =>
  simp only [cOp,ho,b1x] at hc
  obtain ⟨x',hx,rfl⟩:=hc
  simp only [opA,OpRes.val.injEq] at h;obtain ⟨rfl,rfl⟩:=h
  exact N0o hR hT (.inl ho) hx (by simpa [a0r] using hf)
 case assign x =>
  simp only [cOp,ho,b1x] at hc
  obtain ⟨x',hx,rfl⟩:=hc
  simp only [opA,OpRes.val.injEq] at h;obtain ⟨rfl,rfl⟩:=h
  exact N0o hR hT (.inr ho) hx (by simpa [a0r] using hf)
 case pick c x y =>
  simp only [cOp,ho,Z0J,Z0D,Z0K,Z0G] at hc
  obtain ⟨c',h1,x',h2,y',h3,rfl⟩:=hc
  simp only [a0r,a1F,Z0Q,b1P] at hf
  exact I0v hR hT ho h1 h2 h3 hf.1 hf.2.1 hf.2.2.1 h
 case alloc e =>
  simp only [cOp,ho,Z0J,Z0D,Z0K,Z0G] at hc
  obtain ⟨z,h1,rfl⟩:=hc
  simp only [opA,OpRes.val.injEq] at h;obtain ⟨rfl,rfl⟩:=h
  exact F0t hR hT hfl ho h1
 case box e x =>
  simp only [cOp,ho,Z0J,Z0D,Z0K,Z0G] at hc
  obtain ⟨x',h1,rfl⟩:=hc
  simp only [opA,OpRes.val.injEq] at h;obtain ⟨rfl,rfl⟩:=h
  exact P0J hR hT hfl ho h1 (by simpa [a0r] using hf)
 case build ty ps =>
  simp only [cOp,ho,Z0J,Z0D,Z0K,Z0G] at hc
  obtain ⟨fs,h1,hc⟩:=hc
  split at hc
  ·rename_i hall
   simp only [Z0D,Z0G] at hc
   obtain ⟨z,h2,qs,h3,rfl⟩:=hc
   exact F0u hR hT ho h1 hall h2 h3 (by simpa [a0r] using hf) h
  ·cases hc
 case buildSlice ty n ps =>
  simp only [cOp,ho,Z0J,Z0D,Z0K,Z0G] at hc
  obtain ⟨e,h1,size,h2,z,h3,hc⟩:=hc
  split at hc
  ·rename_i hall
   simp only [Z0D,Z0G] at hc
   obtain ⟨qs,h4,rfl⟩:=hc
   exact P0Q hR hT hfl ho h1 h2 h3 hall.1 hall.2.1 hall.2.2 h4 (by simpa [a0r] using hf) h
  ·cases hc
 case load ty x =>
  simp only [cOp,ho,Z0J,Z0D,Z0K,Z0G] at hc
  obtain ⟨b,h1,n,h2,x',h3,rfl⟩:=hc
  exact I0t hR hT ho h2 h1 h3 (by simpa [a0r] using hf) h
 case store ty x y =>
  simp only [cOp,ho,Z0J,Z0D,Z0K,Z0G] at hc
  obtain ⟨n,h1,x',h2,y',h3,rfl⟩:=hc
  simp only [a0r,a1F,Z0Q,b1P] at hf
  exact F0x hR hT ho h1 h2 h3 hf.1 hf.2.1 h
 case nilCheck x =>
  simp only [cOp,ho,Z0J,Z0D,Z0K,Z0G] at hc
  obtain ⟨x',h1,rfl⟩:=hc
  exact P0L hR hT ho h1 (by simpa [a0r] using hf) h
 case binOp b ty x y ty2 =>
  simp only [cOp,ho,Z0J,Z0D,Z0K,Z0G] at hc
  obtain ⟨d,h1,x',h2,y',h3,rfl⟩:=hc
  simp only [a0r,a1F,Z0Q,b1P] at hf
  exact P0I hR hT ho h1 h2 h3 hf.1 hf.2.1 h
 case unOp u ty x =>
  simp only [cOp,ho,Z0J,Z0D,Z0K,Z0G] at hc
  obtain ⟨x',h1,rfl⟩:=hc
  exact T0u hR hT ho h1 (by simpa [a0r] using hf) h
 case convert s d x =>
  simp only [cOp,ho,Z0J,Z0D,Z0K,Z0G] at hc
  obtain ⟨k0,h1,k,h2,x',h3,rfl⟩:=hc
  exact I0s hR hT ho h1 h2 h3 (by simpa [a0r] using hf) h
 case makeInterface ty x =>
  simp only [cOp,ho] at hc
  split at hc
  ·cases hc
  ·cases hc
  ·rename_i d hne hu
   simp only [Z0J,Z0D,Z0K,Z0G] at hc
   obtain ⟨x',h1,rfl⟩:=hc
   simp only [opA,OpRes.val.injEq] at h;obtain ⟨rfl,rfl⟩:=h
   exact F0v hR hT ho hu (fun m hm=>hne m hm) h1 (by simpa [a0r] using hf)
 case makeFunc f xs ys =>
  simp only [cOp,ho] at hc
  split at hc
  ·simp only [Z0J,Z0D,Z0K,Z0G] at hc
   obtain ⟨xs',h1,ys',h2,rfl⟩:=hc
   simp only [opA,OpRes.val.injEq] at h;obtain ⟨rfl,rfl⟩:=h
   simp only [a0r,b1O,Z0Q] at hf
   exact I0u hR hT ho h1 h2 hf.1 hf.2
  ·cases hc
 case makeSlice ty x y =>
  simp only [cOp,ho,Z0J,Z0D,Z0K,Z0G] at hc
  obtain ⟨e,h1,size,h2,z,h3,hc⟩:=hc
  split at hc
  ·rename_i hall
   simp only [Z0D,Z0G] at hc
   obtain ⟨by_,h4,x',h5,y',h6,rfl⟩:=hc
   simp only [a0r,a1F,Z0Q,b1P] at hf
   exact T0s hR hT hfl ho h1 h2 h4 h3 hall.1 hall.2 h5 h6 hf.1 hf.2.1 h
  ·cases hc
 case slice ty x lo hi mx =>
  simp only [cOp,ho,Z0J,Z0D,Z0K,Z0G] at hc
  obtain ⟨e,h1,size,h2,x',h3,lo',h4,hi',h5,mx',h6,rfl⟩:=hc
  simp only [a0r,b1O,Z0Q,a1F,b1P] at hf
  exact T0t hR hT ho h1 h2 h3 h4 h5 h6 hf.1.1.1.1 hf.1.1.2 hf.1.2 hf.2 h
 case fieldAddr ty x i =>
  simp only [cOp,ho,Z0J,Z0D,Z0K,Z0G] at hc
  obtain ⟨fs,h1,f,h2,n,h3,hc⟩:=hc
  split at hc
  ·rename_i hn;subst hn
   split at hc
   ·rename_i hall
    simp only [Z0D,Z0G] at hc
    obtain ⟨x',h4,rfl⟩:=hc
    exact P0N hR hT ho h1 h2 h3 hall.1 hall.2.1 hall.2.2.1 hall.2.2.2 h4 (by simpa [a0r] using hf) h
   ·cases hc
  ·rename_i hn
   simp only [Z0D,Z0G] at hc
   obtain ⟨x',h4,rfl⟩:=hc
   exact T0q hR hT ho h1 h2 h3 hn h4 (by simpa [a0r] using hf) h
 case field ty x i =>
  simp only [cOp,ho,Z0J,Z0D,Z0K,Z0G] at hc
  obtain ⟨fs,h1,f,h2,b,h3,n,h4,x',h5,rfl⟩:=hc
  exact P0O hR hT ho h1 h2 h4 h3 h5 (by simpa [a0r] using hf) h
 case indexAddr ty x y =>
  simp only [cOp,ho,Z0J,Z0D,Z0K,Z0G] at hc
  obtain ⟨e,h1,n,h2,x',h3,y',h4,rfl⟩:=hc
  simp only [a0r,a1F,Z0Q,b1P] at hf
  exact T0r hR hT ho h1 h2 h3 h4 hf.1 hf.2.1 h
 case extract x i =>
  simp only [cOp,ho,Z0J,Z0D,Z0K,Z0G] at hc
  obtain ⟨x',h1,rfl⟩:=hc
  exact P0M hR hT ho h1 (by simpa [a0r] using hf) h
 case call c =>
  obtain ⟨callee,args,ats⟩:=c
  simp only [cOp,ho] at hc
  cases callee with
  | value f =>
   cases f with
   | func f =>
    simp only [] at hc
    split at hc
    ·simp only [Z0J,Z0D,Z0K,Z0G] at hc
     obtain ⟨x',h1,rfl⟩:=hc
     simp [opA] at h
    ·cases hc
   | _ =>
    simp only [Z0J,Z0D,Z0K,Z0G] at hc
    obtain ⟨x',h1,xs',h2,rfl⟩:=hc
    simp only [opA] at h
    split at h <;> cases h
  | invoke r name =>
   simp only [Z0J,Z0D,Z0K,Z0G] at hc
   obtain ⟨x',h1,xs',h2,rfl⟩:=hc
   simp only [opA] at h
   split at h
   ·split at h <;> cases h
   ·cases h
  | builtin b =>
   simp only [] at hc
   split at hc
   ·rename_i x t1 hargs hats
    simp only [Z0J,Z0D,Z0K,Z0G] at hc
    obtain ⟨e,h1,x',h2,rfl⟩:=hc
    exact P0P hR hT ho hargs hats h1 h2 (by simpa [a0r] using hf) h
   ·rename_i x t1 hargs hats
    simp only [Z0J,Z0D,Z0K,Z0G] at hc
    obtain ⟨e,h1,x',h2,rfl⟩:=hc
    exact P0K hR hT ho hargs hats h1 h2 (by simpa [a0r] using hf) h
   ·rename_i x ys _ hargs
    simp only [Z0J,Z0D,Z0K,Z0G] at hc
    obtain ⟨x',h1,ys',h2,rfl⟩:=hc
    simp only [a0r,a1F,Z0Q] at hf
    exact F0w hR hT ho rfl hargs h1 h2 hf.1 hf.2 h
   ·rename_i x ys _ hargs
    simp only [Z0J,Z0D,Z0K,Z0G] at hc
    obtain ⟨x',h1,ys',h2,rfl⟩:=hc
    simp only [a0r,a1F,Z0Q] at hf
    exact F0w hR hT ho rfl hargs h1 h2 hf.1 hf.2 h
   ·rename_i s x t1 u1 hargs hats
    simp only [Z0J,Z0D,Z0K,Z0G] at hc
    obtain ⟨e,h1,size,h2,z,h3,hc⟩:=hc
    split at hc
    ·rename_i hall
     obtain ⟨ha1,ha2,rfl⟩:=hall
     simp only [Z0D,Z0G] at hc
     obtain ⟨by_,h4,s',h5,x',h6,rfl⟩:=hc
     simp only [a0r,a1F,Z0Q,b1P] at hf
     exact P0H hR hT hfl ho rfl hargs hats h1 h2 h4 h3 ha1 ha2 h5 h6 hf.1 hf.2.1 h
    ·split at hc
     ·rename_i hall
      obtain ⟨ha1,ha2,ha3⟩:=hall
      simp only [Z0D,Z0G] at hc
      obtain ⟨by_,h4,s',h5,x',h6,rfl⟩:=hc
      simp only [a0r,a1F,Z0Q,b1P] at hf
      exact I0r hR hT hfl ho rfl hargs hats h1 h2 h4 h3 ha1 ha2 ha3 h5 h6 hf.1 hf.2.1 h
     ·cases hc
   ·cases hc
 case panic x =>
  simp only [cOp,ho,Z0J,Z0D,Z0K,Z0G] at hc
  obtain ⟨x',h1,rfl⟩:=hc
  simp only [opA] at h
  split at h <;> cases h
 all_goals (simp [cOp,ho] at hc)
theorem d0u {P:Program} {f:FuncId} (h:x0d P f=true) (args:Array Value) (w:World):(callFunc f args).run P w=.ok (.enter f args) w:=by
 unfold x0d at h
 cases hf:P.funcs[f]? with
 | none=>simp [hf] at h
 | some fn =>
  simp only [hf,Z0Q,b1A] at h
  obtain ⟨h1,h2⟩:=h
  cases hb:fn.body with
  | none=>simp [hb] at h2
  | some c=>simp [callFunc,hf,hb];simpa using h1
theorem m0P {α:Type} {k:Nat} {v:α}:∀ {l:List (Nat × α)},l.lookup k=some v→(k,v) ∈ l
 | [],h=>by simp at h
 | (k',v') :: r,h=>by
  rw [List.lookup_cons] at h
  split at h
  ·rename_i hk
   have:k=k':=by simpa using hk
   subst this
   simp only [Z0G] at h
   subst h
   exact c1p
  ·exact b1z _ (m0P h)
def u0f:SOp→Bool
 | .call _ _ _ | .callv _ _ _ | .inv _ _ _ _=>true
 | _=>false
theorem k0M {f:FuncId} {args:List Value} {l:Bool} (h:opA fl t H so=.call f args l):u0f so=true:=by
 cases so <;> simp only [opA] at h <;> first
  | rfl
  | (simp at h;done)
  | (unfold b0z at h;split at h <;> cases h)
  | (unfold f0Q at h;split at h <;> cases h)
  | (split at h <;> first | (cases h;done) | (split at h <;> first | (cases h;done) | (split at h <;> first | (cases h;done) | (unfold b0z at h;split at h <;> cases h))) | (unfold b0z at h;split at h <;> cases h))
theorem r0G (hc:cOp X.P lone o.op=some so) (hs:u0f so=true):∃ c,o.op=.call c:=by
 cases ho:o.op
 case call c=>exact ⟨c,rfl⟩
 all_goals
  exfalso
  cases so <;> simp only [u0f,Z0V] at hs
  all_goals
   simp only [cOp,ho,b1x,Z0J,Z0D,Z0K,Z0G,reduceCtorEq,and_false,exists_const,exists_false] at hc
   try (repeat' (first | (simp only [Z0D,Z0G,reduceCtorEq,and_false,exists_const,exists_false] at hc;done) | (obtain ⟨_,_,hc⟩:=hc) | (split at hc)))
theorem y0L (hc:cOp X.P lone o.op=some so) (hf:(a0r so).all a0L=true) (hT:CR X φ w.shape? t a.tmps.toList) {f:FuncId} {args:List Value} {l:Bool} (h:opA fl t H so=.call f args l) :
  ∃ args':Array Value,CR X φ w.shape? args args'.toList∧(execOp a.eval o).run X.P w=(callFunc f args').run X.P w:=by
 cases ho:o.op
 case call c =>
  obtain ⟨callee,cargs,ats⟩:=c
  simp only [cOp,ho] at hc
  cases callee with
  | value g =>
   cases g with
   | func g =>
    simp only [] at hc
    split at hc
    ·simp only [Z0J,Z0D,Z0K,Z0G] at hc
     obtain ⟨xs',h1,rfl⟩:=hc
     simp only [opA,OpRes.call.injEq] at h
     obtain ⟨rfl,rfl,rfl⟩:=h
     refine ⟨cargs.map a.eval,by simpa using h0v hT h1 (by simpa [a0r] using hf),?_⟩
     simp [execOp,ho,resolve,Deferred.ofValue,Act.eval,invoke]
    ·cases hc
   | _ =>
    simp only [Z0J,Z0D,Z0K,Z0G] at hc
    obtain ⟨x',h1,xs',h2,rfl⟩:=hc
    simp only [a0r,a1F,Z0Q] at hf
    have hv:=b0C hT h1 hf.1
    have hvs:=h0v hT h2 hf.2
    simp only [opA] at h
    split at h
    ·rename_i g first captured e1
     simp only [OpRes.call.injEq] at h
     obtain ⟨rfl,rfl,rfl⟩:=h
     rw [e1] at hv
     generalize hg:a.eval _=gg at hv
     cases hv with
     | func _ _ _ f' c' k1 k2 k3 k4 =>
      have c1:CR X φ w.shape? first.toList f'.toList:=VR.agg_iff.1 (.agg _ _ k1 k2)
      have c2:CR X φ w.shape? captured.toList c'.toList:=VR.agg_iff.1 (.agg _ _ k3 k4)
      refine ⟨f' ++ cargs.map a.eval ++ c',by simpa using (c1.append hvs).append c2,?_⟩
      simp [execOp,ho,resolve,Deferred.ofValue,hg,invoke]
    ·cases h
  | invoke r name =>
   simp only [Z0J,Z0D,Z0K,Z0G] at hc
   obtain ⟨x',h1,xs',h2,rfl⟩:=hc
   simp only [a0r,a1F,Z0Q] at hf
   have hv:=b0C hT h1 hf.1
   have hvs:=h0v hT h2 hf.2
   simp only [opA] at h
   split at h
   ·rename_i ty v e1
    split at h
    ·rename_i g hlk
     simp only [OpRes.call.injEq] at h
     obtain ⟨rfl,rfl,rfl⟩:=h
     rw [e1] at hv
     generalize hg:a.eval r=gg at hv
     cases hv with
     | iface _ _ v' k1 =>
      refine ⟨#[v'] ++ cargs.map a.eval,by simpa using k1.cons_cr hvs,?_⟩
      -- the method is found, direct, of a value
      have hmem:(ty,g) ∈ r0Y X.P name:=m0P hlk
      unfold r0Y at hmem
      rw [List.mem_filterMap] at hmem
      obtain ⟨t0,ht0,hm⟩:=hmem
      have ht0:=a1G.1 ht0
      split at hm
      ·rename_i i hi
       split at hm
       ·rename_i m hfind
        split at hm
        ·rename_i g0 fs hfn hund
         split at hm
         ·rename_i hpr
          simp only [Z0G,b1s] at hm
          obtain ⟨rfl,rfl⟩:=hm
          simp only [Z0Q] at hpr
          have hpath:m.path.toList=[]:=by simpa using hpr.1
          have hpos:∃ k,X.P.types.size + Made.depth=k + 1:=⟨X.P.types.size + Made.depth - 1,by omega⟩
          obtain ⟨k,hk⟩:=hpos
          have hmeth:(method (X.P.types.size + Made.depth) t0 v' name).run X.P w=.ok (g0,v') w:=by
           rw [hk,method]
           simp [typeInfo,hi,hfind,hpath,follow,hfn,receiverAt,run_underlying hund,Place.get]
          have hz:(#[Value.iface t0 v'] ++ cargs.map a.eval)[0]? = some (.iface t0 v'):=by simp [Array.getElem?_append]
          have hex:(#[Value.iface t0 v'] ++ cargs.map a.eval).extract 1 (#[Value.iface t0 v'] ++ cargs.map a.eval).size=cargs.map a.eval:=by
           apply Array.ext';simp [Z0R]
          simp only [execOp,ho,resolve,Sem.run_bind,Sem.run_pure,Result.andThen_ok,hg,invoke,hz,hex,callMethod,run_program,hmeth]
         ·cases hm
        ·cases hm
       ·cases hm
      ·cases hm
    ·cases h
   ·cases h
  | builtin b =>
   simp only [] at hc
   split at hc
   ·simp only [Z0J,Z0D,Z0K,Z0G] at hc
    obtain ⟨e,h1,x',h2,rfl⟩:=hc
    simp only [opA] at h;split at h <;> cases h
   ·simp only [Z0J,Z0D,Z0K,Z0G] at hc
    obtain ⟨e,h1,x',h2,rfl⟩:=hc
    simp only [opA] at h;unfold b0z at h;split at h <;> cases h
   ·simp only [Z0J,Z0D,Z0K,Z0G] at hc
    obtain ⟨x',h1,ys',h2,rfl⟩:=hc
    simp only [opA] at h;unfold b0z at h;split at h <;> cases h
   ·simp only [Z0J,Z0D,Z0K,Z0G] at hc
    obtain ⟨x',h1,ys',h2,rfl⟩:=hc
    simp only [opA] at h;unfold b0z at h;split at h <;> cases h
   ·simp only [Z0J,Z0D,Z0K,Z0G] at hc
    obtain ⟨e,h1,size,h2,z,h3,hc⟩:=hc
    split at hc
    ·simp only [Z0D,Z0G] at hc
     obtain ⟨by_,h4,s',h5,x',h6,rfl⟩:=hc
     simp only [opA] at h;unfold f0Q at h;split at h <;> cases h
    ·split at hc
     ·simp only [Z0D,Z0G] at hc
      obtain ⟨by_,h4,s',h5,x',h6,rfl⟩:=hc
      simp only [opA] at h;split at h <;> cases h
     ·cases hc
   ·cases hc
 all_goals
  obtain ⟨c,hcc⟩:=r0G hc (k0M h)
  rw [ho] at hcc;cases hcc
end
section
open Go
variable {H H' H1:a0e} {fl:Nat} {t:a0W} {so:SOp}
inductive Turn (fl:Nat) (ws:List Nat) (H:a0e):a0e→Prop
 | same:Turn fl ws H H
 | push (r:Blk):Turn fl ws H (H.push r)
 | set (b:Nat) (e:TypeId) (cs cs':List Value) (h:H.blk b=.row false e cs) (hb:b ∈ ws) (hf:fl≤b):Turn fl ws H (H.setIfInBounds b (.row false e cs'))
 | move (b:Nat) (e:TypeId) (cs:List Value) (r:Blk) (h:H.blk b=.row false e cs) (hb:b ∈ ws) (hf:fl≤b):Turn fl ws H ((H.setIfInBounds b .dead).push r)
theorem o0H {v:Value} (h:opA fl t H so=.val v H1):Turn fl (c0O t so).2 H H1:=by
 have opt:∀ {x:Option Value},b0z H x=.val v H1→Turn fl (c0O t so).2 H H1:=fun {x} hx=>by
  cases x with
  | none=>simp [b0z] at hx
  | some u=>simp [b0z] at hx;rw [← hx.2];exact .same
 cases so <;> simp only [opA] at h
 case mv=>simp at h;rw [← h.2];exact .same
 case pick=>split at h <;> simp at h <;> (rw [← h.2];exact .same)
 case alloc=>simp at h;rw [← h.2];exact .push _
 case box=>simp at h;rw [← h.2];exact .push _
 case build=>exact opt h
 case lit=>split at h <;> simp at h;rw [← h.2];exact .push _
 case load=>exact opt h
 case store n a x =>
  split at h
  ·rename_i p hp
   split at h
   ·cases h
   ·split at h
    ·rename_i H2 hw
     simp at h;rw [← h.2]
     unfold a0e.write? at hw
     split at hw
     ·rename_i e cs hk
      split at hw
      ·rename_i hc;cases hw
       exact .set _ _ _ _ hk (by simp [c0O,hp,blkOf]) hc.1
      ·cases hw
     ·cases hw
    ·cases h
  ·cases h
 case chk=>split at h <;> simp at h <;> (rw [← h.2];exact .same)
 case bin=>exact opt h
 case un=>exact opt h
 case conv=>split at h <;> simp at h;rw [← h.2];exact .same
 case iface=>simp at h;rw [← h.2];exact .same
 case mkfn=>simp at h;rw [← h.2];exact .same
 case mk =>
  split at h
  ·split at h <;> simp at h;rw [← h.2];exact .push _
  ·cases h
 case sl => split at h; · cases h
            ·exact opt h
 case fa => split at h
            ·split at h <;> simp at h;rw [← h.2];exact .same
            ·cases h
 case fa0 =>
  split at h
  ·split at h
   ·split at h <;> simp at h;rw [← h.2];exact .same
   ·cases h
  ·cases h
 case fld=>exact opt h
 case ia =>
  split at h
  ·split at h <;> simp at h;rw [← h.2];exact .same
  ·cases h
 case ext =>
  split at h
  ·exact opt h
  ·cases h
 case call=>cases h
 case callv=>split at h <;> cases h
 case inv =>
  split at h
  ·split at h <;> cases h
  ·cases h
 case len=>split at h <;> simp at h;rw [← h.2];exact .same
 case cap=>exact opt h
 case appz=>split at h <;> simp at h;rw [← h.2];exact .push _
 case mnx=>exact opt h
 case app e size bytes s x =>
  cases hap:h0g fl H e size bytes (ev t s) (ev t x) with
  | none=>simp [hap,f0Q] at h
  | some r =>
   obtain ⟨rv,rH⟩:=r
   simp only [hap,f0Q,OpRes.val.injEq] at h
   obtain ⟨rfl,rfl⟩:=h
   unfold h0g at hap
   split at hap
   ·rename_i base len cap xb n xc e1 e2
    split at hap
    ·cases hap;exact .same
    ·split at hap
     ·split at hap
      ·cases hap
      ·split at hap
       ·cases hap
       ·split at hap
        ·cases hap
        split at hap
        ·split at hap
         ·cases hap;exact .push _
         ·cases hap
        ·rename_i sp
         split at hap
         ·cases hap;exact .push _
         rename_i h00
         split at hap
         ·cases hap
         ·split at hap
          ·cases hap;exact .push _
          ·split at hap
           ·rename_i e' cs hk
            split at hap
            ·rename_i hc;cases hap
             exact .move _ _ _ _ hk (by simp only [c0O,e1,blkW];rw [Z0F h00];simp) hc.2
            ·cases hap
           ·cases hap
     ·cases hap
   ·cases hap
 case pan=>split at h <;> cases h
structure f0u (fl:Nat) (H H1:a0e):Prop where
 size:H.size≤H1.size
 low:∀ b,b < fl→H1.blk b=H.blk b
 kind:∀ b e cs,b < H.size→H1.blk b=.row false e cs→∃ cs0,H.blk b=.row false e cs0
 kindR:∀ b e cs,b < H.size→H1.blk b=.row true e cs→H.blk b=.row true e cs
theorem f0u.refl:f0u fl H H:=⟨Z0E _,fun _ _=>rfl,fun _ _ cs _ h=>⟨cs,h⟩,fun _ _ _ _ h=>h⟩
theorem f0u.trans {fl1:Nat} {H2:a0e} (h:f0u fl H H1) (k:f0u fl1 H1 H2) (hf:fl≤fl1):f0u fl H H2 :=
 ⟨Z0N h.size k.size,fun b hb=>(k.low b (by omega)).trans (h.low b hb),fun b e cs hb hk=>by
  obtain ⟨c1,h1⟩:=k.kind b e cs (Z0W hb h.size) hk
  exact h.kind b e c1 hb h1,fun b e cs hb hk=>h.kindR b e cs hb (k.kindR b e cs (Z0W hb h.size) hk)⟩
theorem Turn.keep {ws:List Nat} (hfl:fl≤H.size) (h:Turn fl ws H H1):f0u fl H H1:=by
 cases h with
 | same=>exact f0u.refl
 | push r=>exact ⟨by simp,fun b hb=>by rw [a0y,Z0F (by omega)],fun b e cs hb hk=>by rw [a0y,Z0F (by omega)] at hk;exact ⟨cs,hk⟩,fun b e cs hb hk=>by rw [a0y,Z0F (by omega)] at hk;exact hk⟩
 | set b e cs cs' h hb hf =>
  have hl:=a0g h
  exact ⟨by simp,fun c hc=>by rw [a0T _ _ _ _ hl,Z0F (by omega)],fun c e1 cs1 hc hk=>by
   rw [a0T _ _ _ _ hl] at hk
   split at hk
   ·rename_i hcb;subst hcb;cases hk;exact ⟨cs,h⟩
   ·exact ⟨cs1,hk⟩,fun c e1 cs1 hc hk=>by
   rw [a0T _ _ _ _ hl] at hk
   split at hk
   ·cases hk
   ·exact hk⟩
 | move b e cs r h hb hf =>
  have hl:=a0g h
  exact ⟨by simp,fun c hc=>by rw [a0y,Z0F (by simp;omega),a0T _ _ _ _ hl,Z0F (by omega)],fun c e1 cs1 hc hk=>by
   rw [a0y,Z0F (by simp;omega),a0T _ _ _ _ hl] at hk
   split at hk
   ·cases hk
   ·exact ⟨cs1,hk⟩,fun c e1 cs1 hc hk=>by
   rw [a0y,Z0F (by simp;omega),a0T _ _ _ _ hl] at hk
   split at hk
   ·cases hk
   ·exact hk⟩
theorem Turn.changed {ws:List Nat} (h:Turn fl ws H H1) {b:Nat} (hb:b < H.size) (hne:H1.blk b ≠ H.blk b):b ∈ ws:=by
 cases h with
 | same=>exact Z0T rfl hne
 | push r=>rw [a0y,Z0F (by omega)] at hne;exact Z0T rfl hne
 | set c e cs cs' h hc hf =>
  by_cases hcb:b=c
  ·subst hcb;exact hc
  ·rw [a0T _ _ _ _ (a0g h),Z0F hcb] at hne;exact Z0T rfl hne
 | move c e cs r h hc hf =>
  by_cases hcb:b=c
  ·subst hcb;exact hc
  ·rw [a0y,Z0F (by simp;omega),a0T _ _ _ _ (a0g h),Z0F hcb] at hne;exact Z0T rfl hne
def g0K (call:Nat→FuncId→List Value→a0e→Res (Value × a0e)):Prop :=
 ∀ fl f args H v H1,call fl f args H=.ok (v,H1)→fl≤H.size→f0u fl H H1
section
variable {call:Nat→FuncId→List Value→a0e→Res (Value × a0e)} (hcall:g0K call)
include hcall
theorem j0b {v:Value} (hfl:fl≤H.size) (h:b0v call fl t H so=.ok (v,H1)):f0u fl H H1:=by
 unfold b0v at h
 split at h
 ·cases h
 ·cases h
 ·rename_i v' H2 hv
  simp at h;obtain ⟨rfl,rfl⟩:=h
  exact (o0H hv).keep hfl
 ·rename_i f args lone hc
  have hk:=hcall _ _ _ _ _ _ h (by split <;> omega)
  exact ⟨hk.size,fun b hb=>hk.low b (by split <;> omega),hk.kind,hk.kindR⟩
theorem l0B:∀ (ops:List a0D) (t:a0W) (H:a0e),fl≤H.size→∀ {e t1 H1},e0I call fl ops t H=.fin e t1 H1→f0u fl H H1∧e=.normal
 | [],t,H,_,e,t1,H1,h=>by simp [e0I] at h;obtain ⟨rfl,rfl,rfl⟩:=h;exact ⟨f0u.refl,rfl⟩
 | o :: r,t,H,hfl,e,t1,H1,h=>by
  simp only [e0I] at h
  split at h
  ·split at h
   ·cases h
   ·cases h
   ·rename_i v H2 hs
    have k:=j0b hcall hfl hs
    obtain ⟨k2,he⟩:=l0B r _ H2 (Z0N hfl k.size) h
    exact ⟨k.trans k2 (Z0E _),he⟩
  ·exact l0B r _ H hfl h
theorem f0i (bef:List Nat) (pairs:List (Nat × Nat)):∀ (ops:List a0D) (i:Nat) (t:a0W) (H:a0e) (p:Option (Nat × Value)) (log:List (List Nat × List Nat)),fl≤H.size →
  ∀ {e t1 H1},b0M call fl bef pairs i ops t H p log=.fin e t1 H1→f0u fl H H1∧e=.normal
 | [],i,t,H,p,log,_,e,t1,H1,h=>by
  simp only [b0M] at h
  split at h
  ·split at h
   ·cases h;exact ⟨f0u.refl,rfl⟩
   ·cases h
  ·cases h
 | o :: r,i,t,H,p,log,hfl,e,t1,H1,h=>by
  simp only [b0M] at h
  split at h
  ·exact f0i bef pairs r _ _ H _ _ hfl h
  ·split at h
   ·split at h
    ·cases h
    ·split at h
     ·exact f0i bef pairs r _ _ H _ _ hfl h
     ·cases h
    ·rename_i v H2 hs
     have k:=j0b hcall hfl hs
     obtain ⟨k2,he⟩:=f0i bef pairs r _ _ H2 _ _ (Z0N hfl k.size) h
     exact ⟨k.trans k2 (Z0E _),he⟩
   ·exact f0i bef pairs r _ _ H _ _ hfl h
theorem b0Y:∀ (n:Nat) (c:SCode) (t:a0W) (H:a0e),fl≤H.size→∀ {e t1 H1},a0Y call fl n c t H=.fin e t1 H1→f0u fl H H1
 | 0,_,_,_,_,_,_,_,h=>by simp [a0Y] at h
 | n + 1,c,t,H,hfl,e,t1,H1,h=>by
  cases c <;> simp only [a0Y] at h
  case skip=>cases h;exact f0u.refl
  case exit=>cases h;exact f0u.refl
  case ret=>cases h;exact f0u.refl
  case seq a b =>
   split at h
   ·rename_i t2 H2 ha
    have k:=b0Y n a t H hfl ha
    exact k.trans (b0Y n b t2 H2 (Z0N hfl k.size) h) (Z0E _)
   ·exact b0Y n a t H hfl h
  case cond c a b =>
   split at h
   ·exact b0Y n a t H hfl h
   ·exact b0Y n b t H hfl h
   ·cases h
  case block id c =>
   split at h
   ·rename_i id' t2 H2 hc
    have k:=b0Y n c t H hfl hc
    split at h <;> (cases h;exact k)
   ·exact b0Y n c t H hfl h
  case loop c =>
   split at h
   ·rename_i t2 H2 hc
    have k:=b0Y n c t H hfl hc
    exact k.trans (b0Y n (.loop c) t2 H2 (Z0N hfl k.size) h) (Z0E _)
   ·exact b0Y n c t H hfl h
  case reg ops=>exact (l0B hcall ops t H hfl h).1
  case draw ops bef pairs=>exact (f0i hcall bef pairs ops 0 t H none [] hfl h).1
end
theorem g0L (E:Env):∀ n,g0K (b0h E n)
 | 0=>fun _ _ _ _ _ _ h=>by simp [b0h] at h
 | n + 1=>fun fl f args H v H1 h hfl=>by
  simp only [b0h] at h
  split at h
  ·split at h
   ·simp at h;obtain ⟨_,rfl⟩:=h;exact f0u.refl
   split at h
   ·split at h
    ·split at h
     ·rename_i q hq hfq p s
      split at h
      case isFalse=>cases h
      unfold d0E at h
      split at h
      ·cases h
      ·simp at h;obtain ⟨_,rfl⟩:=h;exact f0u.refl
      ·cases h
      ·rename_i vs H2 hc
       split at h
       ·split at h
        case isFalse=>cases h
        simp at h;obtain ⟨_,rfl⟩:=h
        have k:=g0L E n _ _ _ _ _ _ hc (by omega)
        exact ⟨k.size,fun b hb=>k.low b (by omega),k.kind,k.kindR⟩
       ·cases h
      ·cases h
     ·cases h
    ·cases h
   ·cases h
  ·split at h
   ·split at h
    ·cases h
    ·cases h
    ·rename_i e t1 H2 hx
     have k:=b0Y (g0L E n) n _ _ H hfl hx
     split at h
     ·cases h
     ·split at h
      ·simp at h;obtain ⟨_,rfl⟩:=h;exact k
      ·cases h
   ·cases h
end
section
open Go
variable {H H' H1 G G1:a0e} {fl:Nat} {t:a0W} {so:SOp}
structure Par (H H1 G G1:a0e):Prop where
 size:G1.size=H1.size
 same:∀ b,b < H.size→H1.blk b=H.blk b→G1.blk b=G.blk b
 diff:∀ b,b < H.size→H1.blk b ≠ H.blk b→G1.blk b=H1.blk b
 more:∀ b,H.size≤b→G1.blk b=H1.blk b
theorem h0h {H:a0e} {b:Nat} (h:H.size≤b):H.blk b=.dead:=by
 simp only [a0e.blk,Z0O]
 rw [b1v h];rfl
theorem Par.refl (hs:G.size=H.size):Par H H G G :=
 ⟨hs,fun _ _ _=>rfl,fun _ _ h=>Z0T rfl h,fun b hb=>by rw [h0h hb,h0h (by omega)]⟩
theorem Par.push (hs:G.size=H.size) (r:Blk):Par H (H.push r) G (G.push r) :=
 ⟨by simp [hs],fun b hb _=>by rw [a0y,Z0F (by omega)],fun b hb h=>by rw [a0y,Z0F (by omega)] at h;exact Z0T rfl h,fun b hb=>by
  rw [a0y,a0y,hs]
  split
  ·rfl
  ·rw [h0h (show G.size≤b by omega),h0h hb]⟩
theorem Par.set (hs:G.size=H.size) {c:Nat} (hc:c < H.size) (hk:G.blk c=H.blk c) (r:Blk):Par H (H.setIfInBounds c r) G (G.setIfInBounds c r) :=
 ⟨by simp [hs],fun b hb h=>by
  rw [a0T _ _ _ _ hc] at h;rw [a0T _ _ _ _ (by omega)]
  split at h
  ·rename_i hbc;subst hbc;rw [Z0I rfl,h,hk]
  ·rename_i hbc;rw [Z0F hbc],fun b hb h=>by
  rw [a0T _ _ _ _ hc] at h ⊢;rw [a0T _ _ _ _ (by omega)]
  split at h
  ·rename_i hbc;rw [Z0I hbc,Z0I hbc]
  ·exact Z0T rfl h,fun b hb=>by
  rw [a0T _ _ _ _ hc,a0T _ _ _ _ (by omega),Z0F (by omega),Z0F (by omega),h0h hb,h0h (by omega)]⟩
theorem Par.move (hs:G.size=H.size) {c:Nat} (hc:c < H.size) (hk:G.blk c=H.blk c) (r s:Blk):Par H ((H.setIfInBounds c r).push s) G ((G.setIfInBounds c r).push s):=by
 have p:=Par.set hs hc hk r
 have sz1:(H.setIfInBounds c r).size=H.size:=by simp
 have sz2:(G.setIfInBounds c r).size=G.size:=by simp
 refine ⟨by simp [hs],fun b hb h=>?_,fun b hb h=>?_,fun b hb=>?_⟩
 ·rw [a0y,Z0F (by omega)] at h ⊢;exact p.same b hb h
 ·rw [a0y,Z0F (by omega)] at h ⊢;rw [a0y,Z0F (by omega)];exact p.diff b hb h
 ·rw [a0y,a0y,sz1,sz2,hs]
  split
  ·rfl
  ·exact p.more b hb
theorem h0t {b off n:Nat} (h:G.blk b=H.blk b):G.cells? b off n=H.cells? b off n:=by unfold a0e.cells?;rw [h]
theorem y0K {v:Value} (h:opA fl t H so=.val v H1) (hs:G.size=H.size) (hfp:∀ b,b ∈ (c0O t so).1 ∨ b ∈ (c0O t so).2→G.blk b=H.blk b) :
  ∃ G1,opA fl t G so=.val v G1∧Par H H1 G G1:=by
 have opt:∀ {x y:Option Value},b0z H x=.val v H1→y=x→∃ G1,b0z G y=.val v G1∧Par H H1 G G1:=fun {x y} hx hxy=>by
  subst hxy
  cases y with
  | none=>simp [b0z] at hx
  | some u=>simp [b0z] at hx;obtain ⟨rfl,rfl⟩:=hx;exact ⟨G,rfl,Par.refl hs⟩
 cases so <;> simp only [opA] at h ⊢
 case mv=>simp at h;obtain ⟨rfl,rfl⟩:=h;exact ⟨G,rfl,Par.refl hs⟩
 case pick=>split at h <;> simp at h <;> (obtain ⟨rfl,rfl⟩:=h;exact ⟨G,rfl,Par.refl hs⟩)
 case alloc=>simp at h;obtain ⟨rfl,rfl⟩:=h;rw [hs];exact ⟨_,rfl,Par.push hs _⟩
 case box=>simp at h;obtain ⟨rfl,rfl⟩:=h;rw [hs];exact ⟨_,rfl,Par.push hs _⟩
 case build=>exact opt h rfl
 case lit=>split at h <;> simp at h;obtain ⟨rfl,rfl⟩:=h;rw [hs];exact ⟨_,rfl,Par.push hs _⟩
 case load agg n a =>
  refine opt h ?_
  unfold b0o
  split
  ·rename_i p hp
   have hb:G.blk p.block=H.blk p.block:=hfp _ (.inl (by simp [c0O,hp,blkOf]))
   rw [h0t hb]
  ·rfl
 case store n a x =>
  split at h
  ·rename_i p hp
   have hb:G.blk p.block=H.blk p.block:=hfp _ (.inr (by simp [c0O,hp,blkOf]))
   split at h
   ·cases h
   ·rename_i hc
    rw [Z0F hc]
    split at h
    ·rename_i H2 hw
     simp at h;obtain ⟨rfl,rfl⟩:=h
     unfold a0e.write? at hw ⊢
     rw [hb]
     split at hw
     ·rename_i e cs hk
      split at hw
      ·rename_i hc2;cases hw
       rw [Z0I hc2]
       exact ⟨_,rfl,Par.set hs (a0g hk) hb _⟩
      ·cases hw
     ·cases hw
    ·cases h
  ·cases h
 case chk=>split at h <;> simp at h <;> (obtain ⟨rfl,rfl⟩:=h;exact ⟨G,rfl,Par.refl hs⟩)
 case bin=>exact opt h rfl
 case un=>exact opt h rfl
 case conv=>split at h <;> simp at h;obtain ⟨rfl,rfl⟩:=h;exact ⟨G,rfl,Par.refl hs⟩
 case iface=>simp at h;obtain ⟨rfl,rfl⟩:=h;exact ⟨G,rfl,Par.refl hs⟩
 case mkfn=>simp at h;obtain ⟨rfl,rfl⟩:=h;exact ⟨G,rfl,Par.refl hs⟩
 case mk =>
  split at h
  ·split at h
   ·rename_i hc;simp at h;obtain ⟨rfl,rfl⟩:=h;rw [Z0I hc,hs];exact ⟨_,rfl,Par.push hs _⟩
   ·cases h
  ·cases h
 case sl e size x lo hi mx =>
  have he:elemOk G e (ev t x)=elemOk H e (ev t x):=by
   unfold elemOk
   split
   ·rename_i p _ _ hp
    have hb:G.blk p.block=H.blk p.block:=hfp _ (.inl (by simp [c0O,hp,blkOf]))
    rw [hb]
   ·rfl
  rw [he]
  split at h
  ·cases h
  ·rename_i hc;rw [Z0F hc];exact opt h rfl
 case fa =>
  split at h
  ·split at h
   ·cases h
   ·rename_i hc;simp at h;obtain ⟨rfl,rfl⟩:=h;rw [Z0F hc];exact ⟨G,rfl,Par.refl hs⟩
  ·cases h
 case fa0 e x =>
  split at h
  ·rename_i p hp
   have hb:G.blk p.block=H.blk p.block:=hfp _ (.inl (by simp [c0O,hp,blkOf]))
   rw [hb]
   split at h
   ·split at h
    ·rename_i hc;simp at h;obtain ⟨rfl,rfl⟩:=h;rw [Z0I hc];exact ⟨G,rfl,Par.refl hs⟩
    ·cases h
   ·cases h
  ·cases h
 case fld=>exact opt h rfl
 case ia =>
  split at h
  ·split at h
   ·rename_i hc;simp at h;obtain ⟨rfl,rfl⟩:=h;rw [Z0I hc];exact ⟨G,rfl,Par.refl hs⟩
   ·cases h
  ·cases h
 case ext =>
  split at h
  ·exact opt h rfl
  ·cases h
 case call=>cases h
 case callv=>split at h <;> cases h
 case inv =>
  split at h
  ·split at h <;> cases h
  ·cases h
 case len=>split at h <;> simp at h;obtain ⟨rfl,rfl⟩:=h;exact ⟨G,rfl,Par.refl hs⟩
 case cap=>exact opt h rfl
 case appz=>split at h <;> simp at h;obtain ⟨rfl,rfl⟩:=h;rw [hs];exact ⟨_,rfl,Par.push hs _⟩
 case mnx=>exact opt h rfl
 case app e size bytes s x =>
  cases hap:h0g fl H e size bytes (ev t s) (ev t x) with
  | none=>simp [hap,f0Q] at h
  | some r =>
   obtain ⟨rv,rH⟩:=r
   simp only [hap,f0Q,OpRes.val.injEq] at h
   obtain ⟨rfl,rfl⟩:=h
   unfold h0g at hap ⊢
   split at hap
   ·rename_i base len cap xb n xc e1 e2
    split at hap
    ·rename_i hn;cases hap;rw [Z0I hn];exact ⟨G,rfl,Par.refl hs⟩
    ·rename_i hn;rw [Z0F hn]
     split at hap
     ·rename_i hbd;rw [Z0I hbd]
      split at hap
      ·cases hap
      ·rename_i xp
       have hbx:G.blk xp.block=H.blk xp.block:=hfp _ (.inl (by simp [c0O,e2,blkOf]))
       simp only [h0t hbx]
       split at hap
       ·cases hap
       ·rename_i new hnew
        try simp only []
        split at hap
        ·cases hap
        rename_i hpl;rw [Z0F hpl]
        split at hap
        ·split at hap
         ·rename_i hz;cases hap;rw [Z0I hz,hs];exact ⟨_,rfl,Par.push hs _⟩
         ·cases hap
        ·rename_i sp
         split at hap
         ·rename_i h00;cases hap;rw [Z0I h00,hs];exact ⟨_,rfl,Par.push hs _⟩
         rename_i h00;rw [Z0F h00]
         have hbs:G.blk sp.block=H.blk sp.block:=hfp _ (.inr (by simp only [c0O,e1,blkW];rw [Z0F h00];simp))
         simp only [h0t hbs]
         split at hap
         ·cases hap
         ·rename_i old hold
          try simp only []
          split at hap
          ·rename_i hc;cases hap;rw [Z0I hc,hs];exact ⟨_,rfl,Par.push hs _⟩
          ·rename_i hc;rw [Z0F hc,hbs]
           split at hap
           ·rename_i e' cs hk
            try simp only []
            split at hap
            ·rename_i hc2;cases hap;rw [Z0I hc2,hs];exact ⟨_,rfl,Par.move hs (a0g hk) hbs _ _⟩
            ·cases hap
           ·cases hap
     ·cases hap
   ·cases hap
 case pan=>split at h <;> cases h
theorem h0j {f:FuncId} {args:List Value} {l:Bool} (h:opA fl t H so=.call f args l):∀ fl G,opA fl t G so=.call f args l:=by
 intro fl' G
 cases so <;> simp only [opA] at h ⊢
 case call=>simpa using h
 case callv=>split at h <;> simp_all
 case inv =>
  split at h
  ·split at h <;> simp_all
  ·cases h
 case ext=>split at h;(unfold b0z at h;split at h <;> cases h);cases h
 case app=>unfold f0Q at h;split at h <;> cases h
 case store=>split at h;(split at h;cases h;(split at h <;> cases h));cases h
 case fa0=>split at h;(split at h;(split at h <;> cases h);cases h);cases h
 case sl=>split at h;cases h;(unfold b0z at h;split at h <;> cases h)
 all_goals first
  | (simp at h;done)
  | (unfold b0z at h;split at h <;> cases h)
  | (split at h <;> first | (cases h;done) | (split at h <;> cases h))
theorem f0E {v:Value} (h:opA fl t H so=.pan v):(∃ ty u,v=.iface ty u)∧∃ x,so=.pan x∧ev t x=v:=by
 cases so <;> simp only [opA] at h
 case pan x=>split at h <;> cases h;rename_i ty u hx;exact ⟨⟨_,_,rfl⟩,x,rfl,hx⟩
 case call=>cases h
 case callv=>split at h <;> cases h
 case inv =>
  split at h
  ·split at h <;> cases h
  ·cases h
 case ext=>split at h;(unfold b0z at h;split at h <;> cases h);cases h
 case app=>unfold f0Q at h;split at h <;> cases h
 case store=>split at h;(split at h;cases h;(split at h <;> cases h));cases h
 case fa0=>split at h;(split at h;(split at h <;> cases h);cases h);cases h
 case sl=>split at h;cases h;(unfold b0z at h;split at h <;> cases h)
 all_goals first
  | (simp at h;done)
  | (unfold b0z at h;split at h <;> cases h)
  | (split at h <;> first | (cases h;done) | (split at h <;> cases h))
end
section
open Go
variable {X:Cx} {φ φ':Inj} {S:Shp} {H H':a0e} {w w':World} {fl:Nat} {t:a0W} {a:Act} {o:Oper} {so:SOp} {lone:Bool}
structure Pan (X:Cx) (fl:Nat) (φ:Inj) (H:a0e) (w:World) (w':World):Prop where
 shp:∀ B x,w.shape? B=some x→w'.shape? B=some x
 wsz:w.heap.size≤w'.heap.size
 os:w'.os=w.os
 tape:w'.tape=w.tape
 out:w'.output=w.output
 frame:∀ B,B < w.heap.size→(∀ b o e cs,φ b=some (B,o)→fl≤b→H.blk b ≠ .row false e cs)→w'.heap[B]? = w.heap[B]?
theorem Pan.after {fl1:Nat} {φ1:Inj} {H1:a0e} {w1 w2:World} (h:c0Z X fl φ H w φ1 H1 w1) (k:Pan X fl1 φ1 H1 w1 w2) (hf:fl≤fl1) (hr:Rel X φ H w):Pan X fl φ H w w2 :=
 { shp := fun B x hb => k.shp _ _ (h.shp _ _ hb)
   wsz:=Z0N h.wsz k.wsz
   os:=k.os.trans h.os
   tape:=k.tape.trans h.tape
   out:=k.out.trans h.out
   frame:=fun B hB hno=>by
    rw [k.frame B (Z0W hB h.wsz) ?_,h.frame B hB hno]
    intro b o e cs hb hfl hrow
    cases h1:φ b with
    | none =>
     rcases h.newB b B o hb h1 with h2 | ⟨b0,o0,e0,cs0,h2,h3,h4⟩
     ·omega
     ·exact hno b0 o0 e0 cs0 h2 h3 h4
    | some y =>
     have:=h.ext b y h1
     rw [hb] at this;cases this
     obtain ⟨cs0,h6⟩:=h.kind b e cs (hr.lt b _ h1) hrow
     exact hno b o e cs0 h1 (by omega) h6 }
theorem c0Z.lower {fl1:Nat} (h:c0Z X fl1 φ H w φ' H' w') (hf:fl≤fl1):c0Z X fl φ H w φ' H' w' :=
 { h with
   keep:=fun b hb=>h.keep b (by omega)
   newB:=fun b B o hb hn=>by
    rcases h.newB b B o hb hn with h1 | ⟨b0,o0,e,cs,h1,h2,h3⟩
    ·exact .inl h1
    ·exact .inr ⟨b0,o0,e,cs,h1,by omega,h3⟩
   frame:=fun B hB hno=>h.frame B hB (fun b o e cs hb hfl=>hno b o e cs hb (by omega)) }
theorem Pan.lower {fl1:Nat} (h:Pan X fl1 φ H w w') (hf:fl≤fl1):Pan X fl φ H w w' :=
 { h with frame:=fun B hB hno=>h.frame B hB (fun b o e cs hb hfl=>hno b o e cs hb (by omega)) }
theorem Pan.same:Pan X fl φ H w w:=⟨fun _ _ h=>h,Z0E _,rfl,rfl,rfl,fun _ _ _=>rfl⟩
def W0o:XA→Exit
 | .normal=>.normal
 | .exit id=>.exit id
 | .ret=>.ret
def F0L (X:Cx) (D:List Deferred) (fl:Nat) (φ:Inj) (H:a0e) (w:World):Out→Exit→Act→World→Prop
 | .bad,_,_,_=>False
 | .pan _,e,a',w'=>(∃ ty u,e=.panic [{ v:=.iface ty u,recovered:=false }])∧a'.defers=D∧Pan X fl φ H w w'
 | .fin x t' H',e,a',w'=>e=W0o x∧a'.defers=D∧∃ φ',CR X φ' w'.shape? t' a'.tmps.toList∧c0Z X fl φ H w φ' H' w'
theorem F0L.after {D:List Deferred} {φ1:Inj} {H1:a0e} {w1 w2:World} {out:Out} {e:Exit} {a':Act} (h:c0Z X fl φ H w φ1 H1 w1) (hr:Rel X φ H w) (k:F0L X D fl φ1 H1 w1 out e a' w2):F0L X D fl φ H w out e a' w2:=by
 cases out with
 | bad=>exact k
 | pan v=>exact ⟨k.1,k.2.1,Pan.after h k.2.2 (Z0E _) hr⟩
 | fin x t' H' =>
  obtain ⟨h1,h2,φ',h3,h4⟩:=k
  exact ⟨h1,h2,φ',h3,h.trans h4 (Z0E _) hr⟩
def d0N (X:Cx) (call:Nat→FuncId→List Value→a0e→Res (Value × a0e)):Prop :=
 ∀ (fl:Nat) (f:FuncId) (args:List Value) (H:a0e) (φ:Inj) (w:World) (args':Array Value),Rel X φ H w→CR X φ w.shape? args args'.toList→fl≤H.size →
  (∀ v H',call fl f args H=.ok (v,H')→x0d X.P f=true∧Calls X.P f args' w fun e w'=>∃ v' φ',e=.returned v'∧VR X φ' w'.shape? v v'∧c0Z X fl φ H w φ' H' w') ∧
  (∀ v,call fl f args H=.pan v→(∃ ty u,v=.iface ty u)∧x0d X.P f=true ∧
   Calls X.P f args' w fun e w'=>(∃ ty u,e=.panicked [{ v:=.iface ty u,recovered:=false }])∧Pan X fl φ H w w')
section
variable {call:Nat→FuncId→List Value→a0e→Res (Value × a0e)}
theorem v0R {P:Program} {op:Op} {x:Opd} (hc:cOp P lone op=some (.pan x)):∃ x0,op=.panic x0∧c0d x0=some x:=by
 cases op
 case panic x0 =>
  simp only [cOp,Z0J,Z0D,Z0K,Z0G,SOp.pan.injEq] at hc
  obtain ⟨x',h1,rfl⟩:=hc
  exact ⟨x0,rfl,h1⟩
 case call c =>
  exfalso
  obtain ⟨callee,args,ats⟩:=c
  cases callee with
  | value f=>cases f <;> simp only [cOp] at hc <;> (try split at hc) <;> simp [Z0D] at hc
  | invoke r n=>simp [cOp,Z0D] at hc
  | builtin b =>
   simp only [cOp] at hc
   split at hc
   ·simp [Z0D] at hc
   ·simp [Z0D] at hc
   ·simp [Z0D] at hc
   ·simp [Z0D] at hc
   ·simp only [Z0J,Z0D] at hc
    obtain ⟨_,_,_,_,_,_,hc⟩:=hc
    split at hc
    ·simp [Z0D] at hc
    ·split at hc
     ·simp [Z0D] at hc
     ·cases hc
   ·cases hc
 all_goals
  exfalso
  simp only [cOp,b1x,Z0J,Z0D,Z0K,Z0G,reduceCtorEq,and_false,exists_const,exists_false] at hc
  try (repeat' (first | (simp only [Z0D,Z0G,reduceCtorEq,and_false,exists_const,exists_false] at hc;done) | (obtain ⟨_,_,hc⟩:=hc) | (split at hc)))
theorem t0x {P:Program} {K K':Act→World→Prop} {Q Q':Exit→Act→World→Prop} (hk:∀ a w,K a w→K' a w) (hq:∀ e a w,Q e a w→Q' e a w) (h:o.wp P a w K Q):o.wp P a w K' Q':=by
 unfold Oper.wp at *
 generalize (execOp a.eval o).run P w=r at *
 cases r with
 | ok n w' =>
  cases n <;> simp only [Oper.upon] at h ⊢ <;>
   first
    | exact hk _ _ h
    | exact Calls.mono h (fun e w'' he=>by cases e <;> first | exact hk _ _ he | exact hq _ _ _ he | (obtain ⟨a1,w1,h1⟩:=he;exact ⟨a1,w1,hq _ _ _ h1⟩))
    | exact Rows.mono h (fun _ _ he=>hk _ _ he)
 | halt x w'=>cases x <;> simp only [Oper.upon] at h ⊢ <;> exact hq _ _ _ h
theorem LetsOut.mono {Q Q':Exit→Act→World→Prop} (hq:∀ e a w,Q e a w→Q' e a w) (h:LetsOut Q):LetsOut Q':=by
 obtain ⟨a1,w1,h1⟩:=h;exact ⟨a1,w1,hq _ _ _ h1⟩
theorem c0P {P:Program} {ops:Array Oper} {Q Q':Exit→Act→World→Prop} (hq:∀ e a w,Q e a w→Q' e a w):∀ {l:List Nat} {a:Act} {w:World},wpOps P ops Q l a w→wpOps P ops Q' l a w
 | [],_,_,h=>hq _ _ _ h
 | i :: r,a,w,h=>by
  unfold wpOps at h ⊢
  split at h
  ·exact c0P hq h
  ·split at h
   ·rename_i hw
    rw [Z0I hw]
    rcases h with h | ⟨h1,h2⟩
    ·exact .inl (t0x (fun _ _ h=>c0P hq h) hq h)
    ·exact .inr ⟨h1,LetsOut.mono hq h2⟩
   ·rename_i hw
    rw [Z0F hw]
    exact c0P hq h
theorem k0d (hcall:d0N X call) (hc:cOp X.P lone o.op=some so) (hf:(a0r so).all a0L=true) (hR:Rel X φ H w) (hT:CR X φ w.shape? t a.tmps.toList) (hfl:fl≤H.size)
  {v:Value} (h:b0v call fl t H so=.ok (v,H')) {K:Act→World→Prop} {Q:Exit→Act→World→Prop} (a2:Act) (he:execOp a2.eval o=execOp a.eval o)
  (hK:∀ φ' v' w',VR X φ' w'.shape? v v'→c0Z X fl φ H w φ' H' w'→K (a2.put o.dst v') w'):o.wp X.P a2 w K Q:=by
 unfold b0v at h
 unfold Oper.wp
 rw [he]
 split at h
 ·cases h
 ·cases h
 ·rename_i v1 H1 hv
  simp only [Res.ok.injEq,b1s] at h;obtain ⟨rfl,rfl⟩:=h
  obtain ⟨φ',w',v',hr,hvr,hst⟩:=S0v hc hf hR hT hfl hv
  rcases hr with hr | ⟨rfl,hr⟩
  ·rw [hr];exact hK φ' v' w' hvr hst
  ·rw [hr];exact hK φ' _ w' hvr hst
 ·rename_i f args l hv
  obtain ⟨args',hca,hrun⟩:=y0L hc hf hT hv
  obtain ⟨hruns,hcalls⟩:=(hcall _ f args H φ w args' hR hca (show (if l=true then fl else max fl H.size)≤H.size by split <;> omega)).1 v H' h
  rw [hrun,d0u hruns]
  refine Calls.mono hcalls ?_
  rintro e w' ⟨v',φ',rfl,hvr,hst⟩
  exact hK φ' v' w' hvr (hst.lower (by split <;> omega))
theorem r0p (hcall:d0N X call) (hc:cOp X.P lone o.op=some so) (hf:(a0r so).all a0L=true) (hR:Rel X φ H w) (hT:CR X φ w.shape? t a.tmps.toList) (hfl:fl≤H.size)
  {v:Value} (h:b0v call fl t H so=.pan v) {K:Act→World→Prop} {Q:Exit→Act→World→Prop} (a2:Act) (he:execOp a2.eval o=execOp a.eval o)
  (hQ:∀ ty u w',Pan X fl φ H w w'→Q (.panic [{ v:=.iface ty u,recovered:=false }]) a2 w'):o.wp X.P a2 w K Q:=by
 unfold b0v at h
 unfold Oper.wp
 rw [he]
 split at h
 ·cases h
 ·rename_i v1 hv
  obtain ⟨⟨ty,u,rfl⟩,x,rfl,hx⟩:=f0E hv
  obtain ⟨x0,ho,h1⟩:=v0R hc
  have hv:=b0C hT h1 (by simpa [a0r] using hf)
  rw [hx] at hv
  generalize hg:a.eval x0=g at hv
  cases hv with
  | iface _ _ u' hu =>
   have:(execOp a.eval o).run X.P w=.halt (.panic (.iface ty u')) w:=by simp [execOp,ho,hg,Instr.panic,goPanic]
   rw [this]
   exact hQ ty u' w Pan.same
 ·cases h
 ·rename_i f args l hv
  obtain ⟨args',hca,hrun⟩:=y0L hc hf hT hv
  obtain ⟨_,hruns,hcalls⟩:=(hcall _ f args H φ w args' hR hca (show (if l=true then fl else max fl H.size)≤H.size by split <;> omega)).2 v h
  rw [hrun,d0u hruns]
  refine Calls.mono hcalls ?_
  rintro e w' ⟨⟨ty,u,rfl⟩,hp⟩
  exact hQ ty u w' (hp.lower (by split <;> omega))
theorem l0P {ops:Array Oper} {sop:a0D} (hc:f0X X.P ops lone o=some sop) (hT:∀ d want,sop.g=some (d,want)→VR X φ S (get t d) (a.tmps.getD d undef)):Region.wanted o (yielded ops a.tmps)=b0c t sop.g:=by
 unfold f0X at hc
 simp only [Z0J,Z0D] at hc
 obtain ⟨op,_,hc⟩:=hc
 split at hc
 ·split at hc
  ·rename_i hg
   simp only [Z0K,Z0G] at hc;subst hc
   simp [Region.wanted,hg,b0c]
  ·rename_i j want hg
   simp only [Z0J,Z0D,Z0K,Z0G] at hc
   obtain ⟨oj,h1,d,h2,rfl⟩:=hc
   have hv:=hT d want rfl
   simp only [Region.wanted,hg,b0c,yielded,h1,Option.bind_some,h2,get]
   simp only [get] at hv
   have e1:a.tmps.getD d undef=(a.tmps[d]?).getD undef:=by simp
   rw [e1] at hv
   cases hd:a.tmps[d]? with
   | none =>
    rw [hd] at hv
    simp only [Option.getD_none] at hv
    generalize t.getD d undef=q at hv ⊢
    cases hv;rfl
   | some u =>
    rw [hd] at hv
    simp only [a1f] at hv
    generalize t.getD d undef=q at hv ⊢
    cases hv <;> first | rfl | simp
 ·cases hc
theorem n0P {ops:Array Oper} {sop:a0D} (hc:f0X X.P ops lone o=some sop) (hT:CR X φ w.shape? t a.tmps.toList):Region.wanted o (yielded ops a.tmps)=b0c t sop.g :=
 l0P hc (fun d _ _=>by rw [a0O];exact hT.get d)
theorem d0Q {ops:Array Oper} {sop:a0D} (hc:f0X X.P ops lone o=some sop):cOp X.P lone o.op=some sop.op∧(a0r sop.op).all a0L=true∧sop.dst=o.dst:=by
 unfold f0X at hc
 simp only [Z0J,Z0D] at hc
 obtain ⟨op,h1,hc⟩:=hc
 split at hc
 ·rename_i hf
  split at hc
  ·simp only [Z0K,Z0G] at hc;subst hc;exact ⟨h1,hf,rfl⟩
  ·simp only [Z0J,Z0D,Z0K,Z0G] at hc
   obtain ⟨oj,_,d,_,rfl⟩:=hc
   exact ⟨h1,hf,rfl⟩
 ·cases hc
theorem p0z (hcall:d0N X call) {D:List Deferred} {ops:Array Oper}:∀ (r:List a0D) (k:Nat) (t:a0W) (H:a0e) (φ:Inj) (w:World) (a:Act),
  (∀ i s,r[i]? = some s→∃ o,ops[k + i]? = some o∧f0X X.P ops true o=some s)→Rel X φ H w→CR X φ w.shape? t a.tmps.toList→fl≤H.size→a.defers=D→e0I call fl r t H ≠ .bad →
  wpOps X.P ops (F0L X D fl φ H w (e0I call fl r t H)) (List.range' k r.length) a w
 | [],k,t,H,φ,w,a,_,hR,hT,_,hd,_=>⟨rfl,hd,φ,hT,c0Z.refl hR⟩
 | s :: r,k,t,H,φ,w,a,hops,hR,hT,hfl,hd,hne=>by
  obtain ⟨o,ho,hco⟩:=hops 0 s rfl
  simp only [a1N] at ho
  obtain ⟨hc,hf,hdst⟩:=d0Q hco
  have hw:=n0P hco hT
  have hops':∀ i s',r[i]? = some s'→∃ o,ops[k + 1 + i]? = some o∧f0X X.P ops true o=some s':=fun i s' hi=>by
   obtain ⟨o',h1,h2⟩:=hops (i + 1) s' (by simpa using hi)
   exact ⟨o',by rw [← h1];congr 1;omega,h2⟩
  rw [a1s,c1f]
  unfold wpOps
  simp only [ho]
  simp only [e0I] at hne ⊢
  by_cases hwt:b0c t s.g=true
  ·rw [hw,Z0I hwt]
   simp only [hwt,a1p] at hne ⊢
   refine .inl ?_
   cases hs:b0v call fl t H s.op with
   | bad=>simp [hs] at hne
   | pan v =>
    simp only [hs] at hne ⊢
    exact r0p hcall hc hf hR hT hfl hs a rfl (fun ty u w' hp=>⟨⟨ty,u,rfl⟩,hd,hp⟩)
   | ok vH =>
    obtain ⟨v,H1⟩:=vH
    simp only [hs] at hne ⊢
    refine k0d hcall hc hf hR hT hfl hs a rfl (fun φ' v' w' hvr hst=>?_)
    have hT':CR X φ' w'.shape? t a.tmps.toList:=hT.mono hst.ext hst.shp
    have ih:=p0z hcall (D:=D) r (k + 1) (put t s.dst v) H1 φ' w' (a.put o.dst v') hops' hst.rel (by rw [hdst];exact h0C hT' hvr o.dst) (Z0N hfl hst.hsz) (by rw [c0t];exact hd) hne
    exact c0P (fun e a2 w2 h2=>F0L.after hst hR h2) ih
  ·rw [hw,Z0F hwt]
   simp only [Bool.not_eq_true] at hwt
   simp only [hwt,Z0V,a1v] at hne ⊢
   exact p0z hcall (D:=D) r (k + 1) (put t s.dst undef) H φ w (a.put o.dst undef) hops' hR (by rw [hdst];exact h0C hT VR.undef o.dst) hfl (by rw [c0t];exact hd) hne
end
end
section
open Go
variable {X:Cx} {φ φ':Inj} {S:Shp} {H H':a0e} {w w':World} {fl:Nat} {t:a0W} {a:Act}
section
variable {call:Nat→FuncId→List Value→a0e→Res (Value × a0e)}
def p0R (X:Cx) (call:Nat→FuncId→List Value→a0e→Res (Value × a0e)):Prop :=
 ∀ (ops:Array Oper) (l:List a0D) (bef:List Nat) (pairs:List (Nat × Nat)),x0F X.P ops=some (.draw l bef pairs) →
  ∀ (D:List Deferred) (fl:Nat) (t:a0W) (H:a0e) (φ:Inj) (w:World) (a:Act),Rel X φ H w→CR X φ w.shape? t a.tmps.toList→fl≤H.size→a.defers=D →
   b0M call fl bef pairs 0 l t H none [] ≠ .bad→∀ id,(Code.region id ops true).wp X.P (F0L X D fl φ H w (b0M call fl bef pairs 0 l t H none [])) a w
def j0j (P:Program) (c:Code) (Q:Exit→Act→World→Prop) (a:Act) (w:World):Prop :=
 ∀ (b:Frame) (k:List Item) (cs:List Frame),∃ e a' w',Q e a' w'∧Arrives P (lone (b.at a (.code c :: .inLoop c :: k)) cs w) b k cs e a' w'
theorem j0j.wp {P:Program} {c:Code} {Q:Exit→Act→World→Prop} (h:j0j P c Q a w):(Code.loop c).wp P Q a w :=
 fun b k cs=>let ⟨e,a',w',q,r⟩:=h b k cs;⟨e,a',w',q,.of_steps (.one step_loop) r⟩
theorem j0j.round {P:Program} {c:Code} {Q:Exit→Act→World→Prop} (h:c.wp P (Exit.then (j0j P c Q) Q) a w):j0j P c Q a w:=by
 intro b k cs
 obtain ⟨e,a₁,w₁,hq,harr⟩:=h b (.inLoop c :: k) cs
 cases e with
 | normal =>
  obtain ⟨e₂,a₂,w₂,hq₂,harr₂⟩:=hq b k cs
  exact ⟨e₂,a₂,w₂,hq₂,.of_steps (Steps.trans harr (.one step_inLoop)) harr₂⟩
 | exit id=>exact ⟨_,a₁,w₁,hq,.pass (x:=.inLoop c) rfl (fun _ _=>.inl (by simp)) harr⟩
 | goto l=>exact ⟨_,a₁,w₁,hq,.pass (x:=.inLoop c) rfl (fun _ _=>.inl (by simp)) harr⟩
 | ret=>exact ⟨_,a₁,w₁,hq,.pass (x:=.inLoop c) rfl (fun _ _=>.inl (by simp)) harr⟩
 | panic ch=>exact ⟨_,a₁,w₁,hq,.pass (x:=.inLoop c) rfl (fun _ _=>.inl (by simp)) harr⟩
 | outgrown=>exact ⟨_,a₁,w₁,hq,.pass (x:=.inLoop c) rfl (fun _ _=>.inl (by simp)) harr⟩
def wpx (P:Program) (c:Code) (Q:Exit→Act→World→Prop) (a:Act) (w:World):Prop :=
 match c with
 | .loop d=>j0j P d Q a w
 | c=>c.wp P Q a w
theorem wpx.wp {P:Program} {c:Code} {Q:Exit→Act→World→Prop} (h:wpx P c Q a w):c.wp P Q a w:=by
 cases c <;> first | exact j0j.wp h | exact h
theorem j0Y {α β:Type} {f:α→Option β}:∀ {l:List α} {r:List β},l.mapM f=some r→∀ (i:Nat) (y:β),r[i]? = some y→∃ x,l[i]? = some x∧f x=some y
 | [],r,h,i,y,hi=>by simp at h;subst h;simp at hi
 | x :: l,r,h,i,y,hi=>by
  rw [b1K] at h
  simp only [Z0J,Z0D,Z0K,Z0G] at h
  obtain ⟨b,h1,bs,h2,rfl⟩:=h
  cases i with
  | zero=>simp at hi;subst hi;exact ⟨x,rfl,h1⟩
  | succ i=>obtain ⟨x',h3,h4⟩:=j0Y h2 i y (by simpa using hi);exact ⟨x',by simpa using h3,h4⟩
theorem h0X {α β:Type} {f:α→Option β}:∀ {l:List α} {r:List β},l.mapM f=some r→r.length=l.length
 | [],r,h=>by simp at h;subst h;rfl
 | x :: l,r,h=>by
  rw [b1K] at h
  simp only [Z0J,Z0D,Z0K,Z0G] at h
  obtain ⟨b,h1,bs,h2,rfl⟩:=h
  simp [h0X h2]
theorem d0X (hcall:d0N X call) (hdraw:p0R X call) {D:List Deferred}:∀ (n:Nat) (c:Code) (c':SCode) (fl:Nat) (t:a0W) (H:a0e) (φ:Inj) (w:World) (a:Act),d0P X.P c=some c'→Rel X φ H w →
  CR X φ w.shape? t a.tmps.toList→fl≤H.size→a.defers=D→a0Y call fl n c' t H ≠ .bad→wpx X.P c (F0L X D fl φ H w (a0Y call fl n c' t H)) a w
 | 0,c,c',fl,t,H,φ,w,a,_,_,_,_,_,hne=>Z0T rfl hne
 | n + 1,c,c',fl,t,H,φ,w,a,hc,hR,hT,hfl,hd,hne=>by
  cases c with
  | skip =>
   simp only [d0P,Z0G] at hc;subst hc
   exact wp_skip ⟨rfl,hd,φ,hT,c0Z.refl hR⟩
  | label l =>
   simp only [d0P,Z0G] at hc;subst hc
   exact wp_label ⟨rfl,hd,φ,hT,c0Z.refl hR⟩
  | exit id =>
   simp only [d0P,Z0G] at hc;subst hc
   exact wp_exit ⟨rfl,hd,φ,hT,c0Z.refl hR⟩
  | ret =>
   simp only [d0P,Z0G] at hc;subst hc
   exact wp_ret ⟨rfl,hd,φ,hT,c0Z.refl hR⟩
  | seq x y =>
   simp only [d0P,Z0J,Z0D,Z0K,Z0G] at hc
   obtain ⟨x',hx,y',hy,rfl⟩:=hc
   have hx1:a0Y call fl n x' t H ≠ .bad:=fun e=>hne (by simp [a0Y,e])
   have ih1:=(d0X hcall hdraw n x x' fl t H φ w a hx hR hT hfl hd hx1).wp
   refine wp_seq (wp_mono ih1 ?_)
   intro e a1 w1 hp
   simp only [a0Y]
   cases hr:a0Y call fl n x' t H with
   | bad=>exact Z0T hr hx1
   | pan v =>
    rw [hr] at hp
    obtain ⟨⟨ty,u,rfl⟩,h2,h3⟩:=hp
    exact ⟨⟨ty,u,rfl⟩,h2,h3⟩
   | fin xx t1 H1 =>
    rw [hr] at hp
    obtain ⟨rfl,hd1,φ1,hT1,hst⟩:=hp
    cases xx with
    | normal =>
     have hne2:a0Y call fl n y' t1 H1 ≠ .bad:=fun e=>hne (by simp [a0Y,hr,e])
     have ih2:=(d0X hcall hdraw n y y' fl t1 H1 φ1 w1 a1 hy hst.rel hT1 (Z0N hfl hst.hsz) hd1 hne2).wp
     exact wp_mono ih2 (fun e a2 w2 h2=>F0L.after hst hR h2)
    | exit id=>exact ⟨rfl,hd1,φ1,hT1,hst⟩
    | ret=>exact ⟨rfl,hd1,φ1,hT1,hst⟩
  | cond c x y =>
   simp only [d0P,Z0J,Z0D,Z0K,Z0G] at hc
   obtain ⟨c',hcc,hc⟩:=hc
   split at hc
   ·rename_i hflat
    simp only [Z0D,Z0G] at hc
    obtain ⟨x',hx,y',hy,rfl⟩:=hc
    have hv:=b0C hT hcc hflat
    simp only [a0Y] at hne ⊢
    generalize hg:a.eval c=g at hv
    split at hne
    ·rename_i hb
     rw [hb] at hv;cases hv
     exact wp_cond_true hg (d0X hcall hdraw n x x' fl t H φ w a hx hR hT hfl hd hne).wp
    ·rename_i hb
     rw [hb] at hv;cases hv
     exact wp_cond_false hg (d0X hcall hdraw n y y' fl t H φ w a hy hR hT hfl hd hne).wp
    ·exact Z0T rfl hne
   ·cases hc
  | block id c =>
   simp only [d0P,Z0J,Z0D,Z0K,Z0G] at hc
   obtain ⟨x',hx,rfl⟩:=hc
   have hx1:a0Y call fl n x' t H ≠ .bad:=fun e=>hne (by simp [a0Y,e])
   have ih1:=(d0X hcall hdraw n c x' fl t H φ w a hx hR hT hfl hd hx1).wp
   refine wp_block (wp_mono ih1 ?_)
   intro e a1 w1 hp
   simp only [a0Y]
   cases hr:a0Y call fl n x' t H with
   | bad=>exact Z0T hr hx1
   | pan v =>
    rw [hr] at hp
    obtain ⟨⟨ty,u,rfl⟩,h2,h3⟩:=hp
    exact ⟨⟨ty,u,rfl⟩,h2,h3⟩
   | fin xx t1 H1 =>
    rw [hr] at hp
    obtain ⟨rfl,hd1,φ1,hT1,hst⟩:=hp
    cases xx with
    | normal=>exact ⟨rfl,hd1,φ1,hT1,hst⟩
    | ret=>exact ⟨rfl,hd1,φ1,hT1,hst⟩
    | exit id' =>
     show Exit.inBlock id _ (.exit id') a1 w1
     unfold Exit.inBlock
     by_cases hid:id' = id
     ·simp only [hid,a1p];exact ⟨rfl,hd1,φ1,hT1,hst⟩
     ·simp only [hid,a1v];exact ⟨rfl,hd1,φ1,hT1,hst⟩
  | loop c =>
   simp only [d0P,Z0J,Z0D,Z0K,Z0G] at hc
   obtain ⟨x',hx,rfl⟩:=hc
   have hx1:a0Y call fl n x' t H ≠ .bad:=fun e=>hne (by simp [a0Y,e])
   have ih1:=(d0X hcall hdraw n c x' fl t H φ w a hx hR hT hfl hd hx1).wp
   refine j0j.round (wp_mono ih1 ?_)
   intro e a1 w1 hp
   simp only [a0Y]
   cases hr:a0Y call fl n x' t H with
   | bad=>exact Z0T hr hx1
   | pan v =>
    rw [hr] at hp
    obtain ⟨⟨ty,u,rfl⟩,h2,h3⟩:=hp
    exact ⟨⟨ty,u,rfl⟩,h2,h3⟩
   | fin xx t1 H1 =>
    rw [hr] at hp
    obtain ⟨rfl,hd1,φ1,hT1,hst⟩:=hp
    cases xx with
    | normal =>
     have hne2:a0Y call fl n (.loop x') t1 H1 ≠ .bad:=fun e=>hne (by simp [a0Y,hr,e])
     have ih2:=d0X hcall hdraw n (.loop c) (.loop x') fl t1 H1 φ1 w1 a1 (by simp [d0P,hx]) hst.rel hT1 (Z0N hfl hst.hsz) hd1 hne2
     intro b k cs
     obtain ⟨e,a2,w2,h2,h3⟩:=ih2 b k cs
     exact ⟨e,a2,w2,F0L.after hst hR h2,h3⟩
    | exit id=>exact ⟨rfl,hd1,φ1,hT1,hst⟩
    | ret=>exact ⟨rfl,hd1,φ1,hT1,hst⟩
  | region id ops d =>
   cases d with
   | true =>
    simp only [d0P] at hc
    have hc0:=hc
    unfold x0F at hc
    simp only [Z0J,Z0D] at hc
    obtain ⟨l,_,hc⟩:=hc
    split at hc
    ·simp only [Z0K,Z0G] at hc
     subst hc
     simp only [a0Y] at hne ⊢
     exact hdraw ops _ _ _ hc0 D fl t H φ w a hR hT hfl hd hne id
    ·cases hc
   | false =>
    simp only [d0P,Z0J,Z0D,Z0K,Z0G] at hc
    obtain ⟨l,hl,rfl⟩:=hc
    simp only [a0Y] at hne ⊢
    refine wp_region ?_
    have hlen:ops.size=l.length:=by rw [h0X hl];simp
    rw [List.range_eq_range',hlen]
    exact p0z hcall l 0 t H φ w a (fun i s hi=>by
     obtain ⟨x,h1,h2⟩:=j0Y hl i s hi
     exact ⟨x,by simpa using h1,h2⟩) hR hT hfl hd hne
  | _=>simp [d0P] at hc
end
theorem y0D (hR:Rel X φ H w) {ty:TypeId} {n:Nat} {b:Bool} (hn:c0N X.P ty=some n) (hb:j0r X.P ty=some b) {v v' r:Value} (hv:VR X φ w.shape? v v') (hr:b0o H b n v=some r) :
  ∃ q r',v' = .pointer (some q)∧(loadVar ty q).run X.P w=.ok r' w∧VR X φ w.shape? r r':=by
 unfold b0o at hr
 split at hr
 ·rename_i p
  cases hv with
  | ptr _ q B o' h1 h2 h3 =>
   subst h3
   split at hr
   ·rename_i hbn;cases hr
    obtain ⟨rfl,rfl⟩:=hbn
    exact ⟨_,.agg #[],rfl,by simp [loadVar,g0e hb,d0n hn,loadCells,loadCellsFrom],VR.agg_iff.2 CR.nil⟩
   ·split at hr
    ·cases hr
    ·split at hr
     ·rename_i cs hcs
      obtain ⟨hlen,cs',hl',hcr,hcell⟩:=hR.cells h2 hcs
      cases b with
      | true =>
       simp only [a1p] at hr hlen hl';cases hr
       have hld:=run_loadCells_list (P:=X.P) w ⟨B,o' + p.off,none⟩ cs' (k0t hcell)
       rw [hl'] at hld
       exact ⟨_,.agg cs'.toArray,rfl,by simp [loadVar,g0e hb,d0n hn,hld],VR.agg_iff.2 (by simpa using hcr)⟩
      | false =>
       simp only [Z0V,a1v] at hr hlen hl'
       cases cs with
       | nil=>simp at hlen
       | cons u r' =>
        simp only [List.head?_cons,Z0G] at hr;subst hr
        obtain ⟨u',r2,rfl,hu,_⟩:=hcr.cons_left
        have hc0:=hcell 0 u' rfl
        simp only [a1N] at hc0
        exact ⟨_,u',rfl,by simp [loadVar,g0e hb,hc0],hu⟩
     ·cases hr
 ·cases hr
def l0C (tmps:Array Value):ResultVar→Sem Value
 | .tmp t=>pure (tmps.getD t undef)
 | .cell a t=>do loadVar t (← asAddr (tmps.getD a undef))
theorem F0m {sr:List SRes}:∀ {rs:List ResultVar} {vs:List Value},rs.mapM (R0v X.P)=some sr→e0r H t sr=some vs→Rel X φ H w→CR X φ w.shape? t a.tmps.toList →
  ∃ vs',CR X φ w.shape? vs vs'∧(rs.mapM (l0C a.tmps)).run X.P w=.ok vs' w:=by
 induction sr with
 | nil =>
  intro rs vs h h2 hR hT
  have:rs=[]:=by have:=h0X h;exact a1c.1 this.symm
  subst this
  simp [e0r] at h2;subst h2
  exact ⟨[],CR.nil,by simp⟩
 | cons s sr ih =>
  intro rs vs h h2 hR hT
  cases rs with
  | nil=>simp at h
  | cons r rs =>
   rw [b1K] at h
   simp only [Z0J,Z0D,Z0K,Z0G] at h
   obtain ⟨s',h3,sr',h4,h5⟩:=h
   cases h5
   simp only [e0r] at h2
   split at h2
   ·rename_i v vs2 h6 h7
    cases h2
    obtain ⟨vs',hvs,hrun⟩:=ih h4 h7 hR hT
    rw [b1K,Sem.run_bind]
    cases r with
    | tmp i =>
     simp only [R0v,Z0G] at h3;subst h3
     simp only [p0Q,Z0G] at h6;subst h6
     refine ⟨a.tmps.getD i undef :: vs',CR.cons ?_ hvs,by simp only [l0C,Sem.run_pure,Result.andThen_ok,Sem.run_bind,hrun]⟩
     rw [a0O];exact hT.get i
    | cell c ty =>
     simp only [R0v,Z0J,Z0D,Z0K,Z0G] at h3
     obtain ⟨b,hb,n,hn,rfl⟩:=h3
     simp only [p0Q] at h6
     obtain ⟨q,v'',hq,hrun2,hvr⟩:=y0D hR hn hb (hT.get c) h6
     rw [← a0O] at hq
     exact ⟨v'' :: vs',CR.cons hvr hvs,by
      have hsa:(asAddr (a.tmps.getD c undef)).run X.P w=.ok q w:=by rw [hq];rfl
      simp only [l0C,hsa,hrun2,Result.andThen_ok,Sem.run_bind,hrun,Sem.run_pure]⟩
   ·cases h2
theorem u0q {vs vs':List Value} (h:CR X φ S vs vs'):VR X φ S (d0c vs) (if h:vs'.toArray.size=1 then vs'.toArray[0] else .tuple vs'.toArray):=by
 cases vs with
 | nil=>rw [h.nil_left];exact VR.tuple_iff.2 CR.nil
 | cons v r =>
  obtain ⟨v',r',rfl,hv,hr⟩:=h.cons_left
  cases r with
  | nil=>rw [hr.nil_left];simpa [d0c] using hv
  | cons u r2 =>
   obtain ⟨u',r3,rfl,_,_⟩:=hr.cons_left
   simp only [d0c]
   rw [dif_neg (by simp)]
   exact VR.tuple_iff.2 (by simpa using h)
def t0C (call:Nat→FuncId→List Value→a0e→Res (Value × a0e)):Prop:=∀ fl f args H v,call fl f args H=.pan v→∃ ty u,v=.iface ty u
section
variable {call:Nat→FuncId→List Value→a0e→Res (Value × a0e)} (hp:t0C call)
include hp
theorem g0E {so:SOp} {v:Value} (h:b0v call fl t H so=.pan v):∃ ty u,v=.iface ty u:=by
 unfold b0v at h
 split at h
 ·cases h
 ·rename_i v1 hv;simp only [Res.pan.injEq] at h;subst h;exact (f0E hv).1
 ·cases h
 ·exact hp _ _ _ _ _ h
theorem f0b:∀ (r:List a0D) (t:a0W) (H:a0e) {v:Value},e0I call fl r t H=.pan v→∃ ty u,v=.iface ty u
 | [],t,H,v,h=>by simp [e0I] at h
 | s :: r,t,H,v,h=>by
  simp only [e0I] at h
  split at h
  ·split at h
   ·cases h
   ·rename_i v1 hs;simp only [Out.pan.injEq] at h;subst h;exact g0E hp hs
   ·exact f0b r _ _ h
  ·exact f0b r _ _ h
theorem c0J (bef:List Nat) (pairs:List (Nat × Nat)):∀ (r:List a0D) (i:Nat) (t:a0W) (H:a0e) (p:Option (Nat × Value)) (log:List (List Nat × List Nat)) {v:Value},
  (∀ j u,p=some (j,u)→∃ ty x,u=.iface ty x)→b0M call fl bef pairs i r t H p log=.pan v→∃ ty u,v=.iface ty u
 | [],i,t,H,p,log,v,hpp,h=>by
  simp only [b0M] at h
  split at h
  ·split at h
   ·cases h
   ·rename_i j u;simp only [Out.pan.injEq] at h;subst h;exact hpp _ _ rfl
  ·cases h
 | s :: r,i,t,H,p,log,v,hpp,h=>by
  simp only [b0M] at h
  split at h
  ·exact c0J bef pairs r _ _ _ _ _ hpp h
  ·split at h
   ·split at h
    ·cases h
    ·rename_i v1 hs
     split at h
     ·refine c0J bef pairs r _ _ _ _ _ ?_ h
      intro j u hju;cases hju;exact g0E hp hs
     ·cases h
    ·exact c0J bef pairs r _ _ _ _ _ hpp h
   ·exact c0J bef pairs r _ _ _ _ _ hpp h
theorem b0T:∀ (n:Nat) (c:SCode) (t:a0W) (H:a0e) {v:Value},a0Y call fl n c t H=.pan v→∃ ty u,v=.iface ty u
 | 0,c,t,H,v,h=>by simp [a0Y] at h
 | n + 1,c,t,H,v,h=>by
  cases c <;> simp only [a0Y] at h
  case skip=>cases h
  case exit=>cases h
  case ret=>cases h
  case seq a b =>
   split at h
   ·exact b0T n b _ _ h
   ·exact b0T n a _ _ h
  case cond c a b =>
   split at h
   ·exact b0T n a _ _ h
   ·exact b0T n b _ _ h
   ·cases h
  case block id c =>
   split at h
   ·split at h <;> cases h
   ·exact b0T n c _ _ h
  case loop c =>
   split at h
   ·exact b0T n (.loop c) _ _ h
   ·exact b0T n c _ _ h
  case reg ops=>exact f0b hp _ _ _ h
  case draw ops bef pairs=>exact c0J hp bef pairs _ _ _ _ _ _ (fun _ _ e=>by cases e) h
end
theorem g0g (E:Env):∀ n,t0C (b0h E n)
 | 0=>fun _ _ _ _ _ h=>by simp [b0h] at h
 | n + 1=>fun fl f args H v h=>by
  simp only [b0h] at h
  split at h
  ·split at h
   ·cases h
   split at h
   ·split at h
    ·split at h
     ·split at h
      case isFalse=>cases h
      unfold d0E at h
      split at h
      ·cases h
      ·cases h
      ·cases h
      ·split at h
       ·split at h <;> cases h
       ·cases h
      ·cases h
     ·cases h
    ·cases h
   ·cases h
  ·split at h
   ·split at h
    ·cases h
    ·rename_i v1 hx
     simp only [Res.pan.injEq] at h;subst h
     exact b0T (g0g E n) n _ _ _ hx
    ·split at h
     ·cases h
     ·split at h <;> cases h
   ·cases h
structure Q0K (X:Cx) (E:Env):Prop where
 code:∀ f sf,E.code f=some sf→b0l X.P f=some sf
 mixed:X.P.follows .mixedOrders=true
def N0v (X:Cx) (E:Env):Prop:=∀ f v,E.known.lookup f=some v→d0N X fun _ g args H=>if g=f∧args=[] then .ok (v,H) else .bad
def x0n (X:Cx) (E:Env):Prop :=
 ∀ q,E.quick=some q→∀ call,d0N X call→g0K call→d0N X fun fl f args H =>
  if f=q.f then match args with | [.agg p,.agg s]=>(if p.size=q.np∧s.size=q.ns then d0E q.zero H (call (max fl H.size) q.solved [.agg #[],.agg p,.agg s] H) else .bad) | _=>.bad else .bad
theorem t0S (E:Env) (hE:Q0K X E) (hkn:N0v X E) (hq:x0n X E) (hdraw:∀ call,d0N X call→g0K call→p0R X call):∀ n,d0N X (b0h E n)
 | 0=>fun _ _ _ _ _ _ _ _ _ _=>⟨fun _ _ h=>by simp [b0h] at h,fun _ h=>by simp [b0h] at h⟩
 | n + 1=>fun fl f args H φ w args' hR hA hfl=>by
  have ih:=t0S E hE hkn hq hdraw n
  have hk:=g0L E n
  cases hcode:E.code f with
  | none =>
   cases hkw:E.know f args with
   | some v =>
    have hargs:args=[]:=by
     cases args with
     | nil=>rfl
     | cons x r=>simp [Env.know] at hkw
    have hl:E.known.lookup f=some v:=by rw [hargs] at hkw;simpa [Env.know] using hkw
    have h1:=hkn f v hl fl f args H φ w args' hR hA hfl
    simp only [b0h,hcode,hkw]
    simp only [hargs,and_self,a1p] at h1 ⊢
    exact h1
   | none =>
   cases hqk:E.quick with
   | none=>exact ⟨fun _ _ h=>by simp [b0h,hcode,hkw,hqk] at h,fun _ h=>by simp [b0h,hcode,hkw,hqk] at h⟩
   | some q =>
    have h1:=hq q hqk (b0h E n) ih hk fl f args H φ w args' hR hA hfl
    simp only [b0h,hcode,hkw,hqk]
    exact h1
  | some sf =>
   have hcf:=hE.code f sf hcode
   unfold b0l at hcf
   cases hfn:X.P.funcs[f]? with
   | none=>simp [hfn] at hcf
   | some fn =>
    simp only [hfn] at hcf
    cases hb:fn.body with
    | none=>simp [hb] at hcf
    | some c =>
     simp only [hb] at hcf
     split at hcf
     ·cases hcf
     rename_i hruns
     have hruns:x0d X.P f=true:=by simpa using hruns
     simp only [Z0J,Z0D] at hcf
     obtain ⟨res,hres,body,hbody,hcf⟩:=hcf
     split at hcf
     ·rename_i hnt
      simp only [Z0K,Z0G] at hcf;subst hcf
      by_cases hlen:args.length=fn.params.size + fn.nfree
      ·have hlen':args'.size=args.length:=by have:=hA.1;simpa using this.symm
       -- the frame at the call's entry
       have hT:CR X φ w.shape? (args ++ List.replicate (fn.ntmps - args.length) undef) (args' ++ Array.replicate (fn.ntmps - args'.size) undef).toList:=by
        rw [hlen']
        have:(args' ++ Array.replicate (fn.ntmps - args.length) undef).toList=args'.toList ++ List.replicate (fn.ntmps - args.length) undef:=by simp
        rw [this]
        refine hA.append ?_
        generalize fn.ntmps - args.length=m
        induction m with
        | zero=>exact CR.nil
        | succ m ih=>exact CR.cons VR.undef ih
       have hx:=fun hne=>(d0X ih (hdraw _ ih hk) n c body fl _ H φ w { tmps:=args' ++ Array.replicate (fn.ntmps - args'.size) undef,defers:=[] } hbody hR hT hfl rfl hne).wp
       cases hr:a0Y (b0h E n) fl n body (args ++ List.replicate (fn.ntmps - args.length) undef) H with
       | bad =>
        refine ⟨fun _ _ h=>?_,fun _ h=>?_⟩
        ·simp only [b0h,hcode] at h;rw [Z0I hlen,hr] at h;cases h
        ·simp only [b0h,hcode] at h;rw [Z0I hlen,hr] at h;cases h
       | pan v0 =>
        rw [hr] at hx
        have hx:=hx (by simp)
        refine ⟨fun _ _ h=>?_,fun v h=>?_⟩
        ·simp only [b0h,hcode] at h;rw [Z0I hlen,hr] at h;cases h
        ·simp only [b0h,hcode] at h;rw [Z0I hlen,hr] at h
         simp only [Res.pan.injEq] at h;subst h
         refine ⟨b0T (g0g E n) n body _ H hr,hruns,calls_of_wp hfn hb (wp_mono hx ?_)⟩
         rintro e a' w' ⟨⟨ty,u,rfl⟩,hd,hp⟩
         exact ⟨hd,⟨ty,u,rfl⟩,hp⟩
       | fin e t1 H1 =>
        rw [hr] at hx
        have hx:=hx (by simp)
        refine ⟨fun v H' h=>?_,fun v h=>?_⟩
        ·simp only [b0h,hcode] at h;rw [Z0I hlen,hr] at h
         refine ⟨hruns,calls_of_wp hfn hb (wp_mono hx ?_)⟩
         rintro e2 a' w' ⟨rfl,hd,φ',hT',hst⟩
         have key:∀ vs,e0r H1 t1 res=some vs→v=d0c vs→H' = H1→∃ v',(results fn a'.tmps).run X.P w' = .ok v' w' ∧
           ∃ v2 φ',Ending.returned v' = .returned v2∧VR X φ' w'.shape? v v2∧c0Z X fl φ H w φ' H' w':=by
          intro vs hvs hv hH
          subst hv hH
          obtain ⟨vs',hcr,hrun⟩:=F0m hres hvs hst.rel hT'
          refine ⟨_,?_,_,φ',rfl,u0q hcr,hst⟩
          have e1:results fn a'.tmps=(do let vs ← fn.results.mapM (l0C a'.tmps);pure (if h:vs.size=1 then vs[0] else .tuple vs)):=rfl
          rw [e1,c1b]
          simp only [Sem.run_bind,Sem.run_map,hrun]
          rfl
         cases e with
         | exit id=>cases h
         | normal =>
          simp only [] at h
          split at h
          ·rename_i vs hvs
           simp only [Res.ok.injEq,b1s] at h
           obtain ⟨v',h1,h2⟩:=key vs hvs h.1.symm h.2.symm
           exact ⟨hd,v',h1,h2⟩
          ·cases h
         | ret =>
          simp only [] at h
          split at h
          ·rename_i vs hvs
           simp only [Res.ok.injEq,b1s] at h
           obtain ⟨v',h1,h2⟩:=key vs hvs h.1.symm h.2.symm
           exact ⟨hd,v',h1,h2⟩
          ·cases h
        ·simp only [b0h,hcode] at h;rw [Z0I hlen,hr] at h
         cases e with
         | exit id=>cases h
         | normal=>simp only [] at h;split at h <;> cases h
         | ret=>simp only [] at h;split at h <;> cases h
      ·exact ⟨fun _ _ h=>by simp [b0h,hcode,hlen] at h,fun _ h=>by simp [b0h,hcode,hlen] at h⟩
     ·cases hcf
theorem u0c (bef:List Nat) (i:Nat):∀ (l:List Edge) (s:Nat),(l.foldl (fun s e=>if Region.binds .any e then s ||| 2 ^ e.on ||| bef.getD e.on 0 else s) s).testBit i=true ↔
  s.testBit i=true ∨ ∃ e ∈ l,Region.binds .any e=true∧(i=e.on ∨ (bef.getD e.on 0).testBit i=true)
 | [],s=>by simp
 | e :: l,s=>by
  rw [List.foldl_cons,u0c bef i l]
  by_cases hb:Region.binds .any e=true
  ·simp only [hb,a1p,Nat.testBit_or,Bool.or_eq_true,Nat.testBit_two_pow,a1E,a1W]
   constructor
   ·rintro (((h | h) | h) | ⟨e',h1,h2⟩)
    ·exact .inl h
    ·exact .inr ⟨e,.inl rfl,hb,.inl h.symm⟩
    ·exact .inr ⟨e,.inl rfl,hb,.inr h⟩
    ·exact .inr ⟨e',.inr h1,h2⟩
   ·rintro (h | ⟨e',rfl | h1,h2,h3⟩)
    ·exact .inl (.inl (.inl h))
    ·rcases h3 with h3 | h3
     ·exact .inl (.inl (.inr h3.symm))
     ·exact .inl (.inr h3)
    ·exact .inr ⟨e',h1,h2,h3⟩
  ·simp only [hb,a1v,a1W]
   constructor
   ·rintro (h | ⟨e',h1,h2⟩)
    ·exact .inl h
    ·exact .inr ⟨e',.inr h1,h2⟩
   ·rintro (h | ⟨e',rfl | h1,h2,h3⟩)
    ·exact .inl h
    ·exact Z0T h2 hb
    ·exact .inr ⟨e',h1,h2,h3⟩
structure v0O (X:Cx) (ops:Array Oper) (l:List a0D) (bef:List Nat) (pairs:List (Nat × Nat)):Prop where
 len:l.length=ops.size
 op:∀ (k:Nat) (s:a0D),l[k]? = some s→∃ o,ops[k]? = some o∧f0X X.P ops (u0g bef (ops.toList.map fun o=>m0y o.op) k) o=some s
 bit:∀ (i j:Nat) (o:Oper),ops[j]? = some o→(b0j bef i j=true ↔ ∃ e ∈ o.after.toList,Region.binds .any e=true∧(i=e.on ∨ b0j bef i e.on=true))
 back:∀ (j:Nat) (o:Oper),ops[j]? = some o→∀ e ∈ o.after.toList,Region.binds .any e=true→e.on < j
 un:∀ (i j:Nat),i < j→j < ops.size→b0j bef i j=false→z0h ops l (i,j)=true∧(i0l l (i,j)=true→(i,j) ∈ pairs)
 nosel:∀ (j:Nat) (o:Oper) (cs:Array SelectCase) (b:Bool),ops[j]? = some o→o.op ≠ .select cs b
theorem m0F {P:Program} {ops:Array Oper} {bef ws:List Nat}:∀ {os:List Oper} {k:Nat} {l:List a0D},q0b P ops bef ws k os=some l →
  l.length=os.length∧∀ i s,l[i]? = some s→∃ o,os[i]? = some o∧f0X P ops (u0g bef ws (k + i)) o=some s
 | [],k,l,h=>by simp [q0b] at h;subst h;simp
 | o :: os,k,l,h=>by
  simp only [q0b] at h
  split at h
  ·rename_i x l' h1 h2
   cases h
   obtain ⟨h3,h4⟩:=m0F h2
   refine ⟨by simp [h3],fun i s hi=>?_⟩
   cases i with
   | zero=>simp at hi;subst hi;exact ⟨o,rfl,h1⟩
   | succ i =>
    obtain ⟨o',h5,h6⟩:=h4 i s (by simpa using hi)
    exact ⟨o',by simpa using h5,by rw [show k + (i + 1)=k + 1 + i by omega];exact h6⟩
  ·cases h
theorem q0E {n i j:Nat} (h:i < j) (hj:j < n):(i,j) ∈ j0S n:=by
 unfold j0S
 rw [List.mem_flatMap]
 exact ⟨j,a1G.2 hj,a1z.2 ⟨i,a1G.2 h,rfl⟩⟩
theorem I0w {ops:Array Oper} {l:List a0D} {bef:List Nat} {pairs:List (Nat × Nat)} (h:x0F X.P ops=some (.draw l bef pairs)):v0O X ops l bef pairs:=by
 unfold x0F at h
 simp only [Z0J,Z0D] at h
 obtain ⟨l',h1,h⟩:=h
 split at h
 ·rename_i hc
  obtain ⟨he,hu,hn⟩:=hc
  simp only [Z0K,Z0G,SCode.draw.injEq] at h
  obtain ⟨rfl,rfl,rfl⟩:=h
  obtain ⟨hl1,hl2⟩:=m0F h1
  have hedge:∀ j o,ops[j]? = some o→(o.after.toList.all fun e=>!Region.binds .any e || e.on < j)=true ∧
    (Region.before ops).toList.getD j 0=(o.after.toList.foldl (fun s e=>if Region.binds .any e then s ||| 2 ^ e.on ||| (Region.before ops).toList.getD e.on 0 else s) 0):=by
   intro j o ho
   have hj:j < ops.size:=(a1n.1 ho).1
   have:=a1o.1 he j (a1G.2 hj)
   simp only [ho,Z0Q,beq_iff_eq] at this
   exact this
  refine ⟨by simpa using hl1,fun k s hk=>?_,fun i j o ho=>?_,fun j o ho e hm hb=>?_,fun i j hij hj hord=>?_,fun j o cs b ho hs=>?_⟩
  ·obtain ⟨o,h2,h3⟩:=hl2 k s hk
   exact ⟨o,by simpa using h2,by simpa using h3⟩
  ·unfold b0j
   rw [(hedge j o ho).2,u0c]
   simp
  ·have:=a1o.1 (hedge j o ho).1 e hm
   simpa [hb] using this
  ·have hm:(i,j) ∈ (j0S ops.size).filter fun p=>!b0j (Region.before ops).toList p.1 p.2:=List.mem_filter.2 ⟨q0E hij hj,by simp [hord]⟩
   exact ⟨a1o.1 hu _ hm,fun hw=>List.mem_filter.2 ⟨hm,hw⟩⟩
  ·have:=a1o.1 hn o (by rw [← a1Z] at ho;exact List.mem_of_getElem? ho)
   simp [i0c,hs] at this
 ·cases h
section
variable {ops:Array Oper} {l:List a0D} {bef:List Nat} {pairs:List (Nat × Nat)} (hT:v0O X ops l bef pairs)
include hT
theorem v0O.lt:∀ j i,j < ops.size→b0j bef i j=true→i < j:=by
 intro j
 induction j using Nat.strongRecOn with
 | _ j ih =>
  intro i hj ho
  have hoj:ops[j]? = some ops[j]:=a1m hj
  obtain ⟨e,hm,hb,h⟩:=(hT.bit i j _ hoj).1 ho
  have he:=hT.back j _ hoj e hm hb
  rcases h with rfl | h
  ·exact he
  ·have:=ih e.on he i (by omega) h;omega
theorem v0O.ready {listed:Array Bool} {j:Nat} (hr:j ∈ Region.ready .any ops listed) (hdown:∀ j,j < ops.size→listed.getD j false=true→∀ i,b0j bef i j=true→listed.getD i false=true) :
  j < ops.size∧listed.getD j true=false∧∀ i,b0j bef i j=true→listed.getD i false=true:=by
 unfold Region.ready at hr
 rw [List.mem_filter] at hr
 obtain ⟨hj,hr⟩:=hr
 have hj:=a1G.1 hj
 simp only [Z0Q,b1A] at hr
 have hoj:ops[j]? = some ops[j]:=a1m hj
 refine ⟨hj,hr.1,fun i hi=>?_⟩
 have hr2:=hr.2
 simp only [hoj,a1Q,a1f] at hr2
 obtain ⟨e,hm,hb,h⟩:=(hT.bit i j _ hoj).1 hi
 rw [Array.all_eq_true'] at hr2
 have h3:=hr2 e (by simpa using hm)
 simp only [hb,Bool.not_true,Bool.false_or] at h3
 rcases h with rfl | h
 ·exact h3
 ·have:=hT.back j _ hoj e hm hb
  exact hdown e.on (by omega) h3 i h
theorem v0O.two {i j:Nat} (hij:i ≠ j) (hi:i < ops.size) (hj:j < ops.size) (h1:b0j bef i j=false) (h2:b0j bef j i=false) {oi oj:Oper} {x y:a0D} (hoi:ops[i]? = some oi) (hoj:ops[j]? = some oj)
  (hx:l[i]? = some x) (hy:l[j]? = some y) :
  (∀ d,x.dst=some d→d ∉ h0b oj y∧y.dst ≠ some d)∧(∀ d,y.dst=some d→d ∉ h0b oi x)∧¬ (way x.op=3∧way y.op=2)∧¬ (way x.op=2∧way y.op=3) ∧
  ((way x.op=2∧way y.op ≠ 0)→(i,j) ∈ pairs ∨ (j,i) ∈ pairs):=by
 have key:∀ {p q:Nat} {op oq:Oper} {u v:a0D},p < q→q < ops.size→b0j bef p q=false→ops[p]? = some op→ops[q]? = some oq→l[p]? = some u→l[q]? = some v →
   (∀ d,u.dst=some d→d ∉ h0b oq v∧v.dst ≠ some d)∧(∀ d,v.dst=some d→d ∉ h0b op u)∧¬ (way u.op=3∧way v.op=2)∧¬ (way u.op=2∧way v.op=3) ∧
   ((way u.op=2∧way v.op ≠ 0)→(p,q) ∈ pairs)∧((way v.op=2∧way u.op ≠ 0)→(p,q) ∈ pairs):=by
  intro p q op oq u v hpq hq ho h3 h4 h5 h6
  obtain ⟨h7,h8⟩:=hT.un p q hpq hq ho
  simp only [z0h,h3,h4,h5,h6,Z0Q,n0K,u0l] at h7
  obtain ⟨⟨h9,h10⟩,h11⟩:=h7
  refine ⟨fun d hd=>?_,fun d hd=>?_,?_,?_,fun h=>h8 ?_,fun h=>h8 ?_⟩
  ·rw [hd] at h9;simpa using h9
  ·rw [hd] at h10;simpa using h10
  ·intro ⟨a1,a2⟩;simp [a1,a2] at h11
  ·intro ⟨a1,a2⟩;simp [a1,a2] at h11
  ·simp [i0l,h5,h6,h.1,h.2]
  ·simp [i0l,h5,h6,h.1,h.2]
 rcases Nat.lt_or_gt_of_ne hij with hlt | hlt
 ·obtain ⟨k1,k2,k3,k4,k5,k6⟩:=key hlt hj h1 hoi hoj hx hy
  exact ⟨k1,k2,k3,k4,fun h=>.inl (k5 h)⟩
 ·obtain ⟨k1,k2,k3,k4,k5,k6⟩:=key hlt hi h2 hoj hoi hy hx
  refine ⟨fun d hd=>⟨k2 d hd,fun e=>(k1 d e).2 hd⟩,fun d hd=>(k1 d hd).1,fun h=>k4 ⟨h.2,h.1⟩,fun h=>k3 ⟨h.2,h.1⟩,fun h=>.inr (k6 h)⟩
end
section
variable (call:Nat→FuncId→List Value→a0e→Res (Value × a0e)) (fl:Nat) (bef:List Nat)
structure Run where
 T:Nat→a0W
 Hh:Nat→a0e
 Pn:Nat→Option (Nat × Value)
 val:Nat→Value
 tc:Nat→List Nat × List Nat
 st:Nat→Nat
 ds:List Deferred
def h0N (R:Run) (k:Nat) (s:a0D):Prop :=
 (R.st k=0∧g0m bef k (R.Pn k)=true∧R.T (k + 1)=R.T k∧R.Hh (k + 1)=R.Hh k∧R.Pn (k + 1)=R.Pn k∧R.tc k=([],[])) ∨
 (R.st k=1∧g0m bef k (R.Pn k)=false∧b0c (R.T k) s.g=false∧R.val k=undef∧R.T (k + 1)=put (R.T k) s.dst undef∧R.Hh (k + 1)=R.Hh k∧R.Pn (k + 1)=R.Pn k∧R.tc k=([],[])) ∨
 (R.st k=2∧g0m bef k (R.Pn k)=false∧b0c (R.T k) s.g=true∧b0v call fl (R.T k) (R.Hh k) s.op=.ok (R.val k,R.Hh (k + 1))∧R.T (k + 1)=put (R.T k) s.dst (R.val k)∧R.Pn (k + 1)=R.Pn k ∧
  R.tc k=c0O (R.T k) s.op) ∨
 (R.st k=3∧g0m bef k (R.Pn k)=false∧b0c (R.T k) s.g=true∧b0v call fl (R.T k) (R.Hh k) s.op=.pan (R.val k)∧R.Pn k=none∧R.Pn (k + 1)=some (k,R.val k)∧R.T (k + 1)=R.T k∧R.Hh (k + 1)=R.Hh k ∧
  R.tc k=([],[]))
def Run.cons (i:Nat) (t:a0W) (H:a0e) (p:Option (Nat × Value)) (v:Value) (c:List Nat × List Nat) (s:Nat) (R:Run):Run :=
 { T := fun k => if k = i then t else R.T k, Hh := fun k => if k = i then H else R.Hh k, Pn := fun k => if k = i then p else R.Pn k, val := fun k => if k = i then v else R.val k,
   tc:=fun k=>if k=i then c else R.tc k,st:=fun k=>if k=i then s else R.st k,ds:=R.ds }
variable {call fl bef}
theorem h0N.cons {R:Run} {i k:Nat} {t:a0W} {H:a0e} {p:Option (Nat × Value)} {v:Value} {c:List Nat × List Nat} {n:Nat} {s:a0D} (hk:i < k) (h:h0N call fl bef R k s) :
  h0N call fl bef (R.cons i t H p v c n) k s:=by
 unfold h0N Run.cons at *
 simp only [Z0F (show k ≠ i by omega),Z0F (show k + 1 ≠ i by omega)]
 exact h
theorem N0k {pairs:List (Nat × Nat)}:∀ (r:List a0D) (i:Nat) (t:a0W) (H:a0e) (p:Option (Nat × Value)) (log:List (List Nat × List Nat)),b0M call fl bef pairs i r t H p log ≠ .bad →
  ∃ R:Run,R.T i=t∧R.Hh i=H∧R.Pn i=p∧(∀ m s,r[m]? = some s→h0N call fl bef R (i + m) s)∧c0E (log.reverse ++ (List.range' i r.length).map R.tc) pairs=true ∧
   b0M call fl bef pairs i r t H p log=match R.Pn (i + r.length) with | none=>.fin .normal (R.T (i + r.length)) (R.Hh (i + r.length)) | some (_,v)=>.pan v
 | [],i,t,H,p,log,h=>by
  refine ⟨⟨fun _=>t,fun _=>H,fun _=>p,fun _=>undef,fun _=>([],[]),fun _=>0,[]⟩,rfl,rfl,rfl,fun m s hm=>by simp at hm,?_,?_⟩
  ·simp only [b0M] at h
   split at h
   ·rename_i ha;simpa using ha
   ·exact Z0T rfl h
  ·simp only [b0M] at h ⊢
   split at h
   ·rename_i ha;rw [Z0I ha];rfl
   ·exact Z0T rfl h
 | s :: r,i,t,H,p,log,h=>by
  have fin:∀ (t1:a0W) (H1:a0e) (p1:Option (Nat × Value)) (c:List Nat × List Nat) (v:Value) (n:Nat),b0M call fl bef pairs i (s :: r) t H p log=b0M call fl bef pairs (i + 1) r t1 H1 p1 (c :: log) →
    (∀ R:Run,R.T (i + 1)=t1→R.Hh (i + 1)=H1→R.Pn (i + 1)=p1→h0N call fl bef (R.cons i t H p v c n) i s) →
    ∃ R:Run,R.T i=t∧R.Hh i=H∧R.Pn i=p∧(∀ m s',(s :: r)[m]? = some s'→h0N call fl bef R (i + m) s')∧c0E (log.reverse ++ (List.range' i (s :: r).length).map R.tc) pairs=true ∧
     b0M call fl bef pairs i (s :: r) t H p log=match R.Pn (i + (s :: r).length) with | none=>.fin .normal (R.T (i + (s :: r).length)) (R.Hh (i + (s :: r).length)) | some (_,v)=>.pan v:=by
   intro t1 H1 p1 c v n heq hst
   rw [heq] at h
   obtain ⟨R,h1,h2,h3,h4,h5,h6⟩:=N0k r (i + 1) t1 H1 p1 (c :: log) h
   refine ⟨R.cons i t H p v c n,by simp [Run.cons],by simp [Run.cons],by simp [Run.cons],fun m s' hm=>?_,?_,?_⟩
   ·cases m with
    | zero=>simp at hm;subst hm;exact hst R h1 h2 h3
    | succ m=>rw [show i + (m + 1)=i + 1 + m by omega];exact (h4 m s' (by simpa using hm)).cons (by omega)
   ·have e:(List.range' i (s :: r).length).map (R.cons i t H p v c n).tc=c :: (List.range' (i + 1) r.length).map R.tc:=by
     rw [a1s,c1f,List.map_cons]
     congr 1
     ·simp [Run.cons]
     ·apply a1Y
      intro x hx
      have:=(List.mem_range'_1.1 hx).1
      simp only [Run.cons]
      rw [Z0F (by omega)]
    rw [e]
    simpa using h5
   ·rw [heq,h6]
    simp only [Run.cons,a1s]
    rw [show i + (r.length + 1)=i + 1 + r.length by omega,Z0F (by omega),Z0F (by omega),Z0F (by omega)]
  by_cases hh:g0m bef i p=true
  ·refine fin t H p ([],[]) undef 0 (by simp [b0M,hh]) (fun R h1 h2 h3=>.inl ?_)
   simp only [Run.cons,a1p,Z0F (show i + 1 ≠ i by omega)]
   exact ⟨trivial,hh,h1,h2,h3,trivial⟩
  ·simp only [Bool.not_eq_true] at hh
   by_cases hw:b0c t s.g=true
   ·cases hs:b0v call fl t H s.op with
    | bad=>exact Z0T (by simp [b0M,hh,hw,hs]) h
    | pan v =>
     cases hp:p with
     | some u=>subst hp;exact Z0T (by simp [b0M,hh,hw,hs]) h
     | none =>
      subst hp
      refine fin t H (some (i,v)) ([],[]) v 3 (by simp [b0M,hh,hw,hs]) (fun R h1 h2 h3=>.inr (.inr (.inr ?_)))
      simp only [Run.cons,a1p,Z0F (show i + 1 ≠ i by omega)]
      exact ⟨trivial,hh,hw,hs,trivial,h3,h1,h2,trivial⟩
    | ok vH =>
     obtain ⟨v,H1⟩:=vH
     refine fin (put t s.dst v) H1 p (c0O t s.op) v 2 (by simp [b0M,hh,hw,hs]) (fun R h1 h2 h3=>.inr (.inr (.inl ?_)))
     simp only [Run.cons,a1p,Z0F (show i + 1 ≠ i by omega)]
     exact ⟨trivial,hh,hw,by rw [h2];exact hs,h1,h3,trivial⟩
   ·simp only [Bool.not_eq_true] at hw
    refine fin (put t s.dst undef) H p ([],[]) undef 1 (by simp [b0M,hh,hw]) (fun R h1 h2 h3=>.inr (.inl ?_))
    simp only [Run.cons,a1p,Z0F (show i + 1 ≠ i by omega)]
    exact ⟨trivial,hh,hw,trivial,h1,h2,h3,trivial⟩
end
end
section
open Go
variable {X:Cx} {φ φ' ψ:Inj} {S S':Shp} {H H' H1:a0e} {w w':World} {fl:Nat} {t t':a0W} {a:Act} {so:SOp} {lone:Bool} {op:Op}
theorem i0e (h:∀ x ∈ a0r so,ev t x=ev t' x):opA fl t H so=opA fl t' H so:=by
 have lst:∀ {xs:List Opd},(∀ x ∈ xs,x ∈ a0r so)→xs.map (ev t)=xs.map (ev t'):=fun hx=>a1Y (fun x hm=>h x (hx x hm))
 have opt:∀ {x:Option Opd},(∀ y,x=some y→y ∈ a0r so)→x.map (ev t)=x.map (ev t'):=fun {x} hx=>by cases x with | none=>rfl | some y=>simp [h y (hx y rfl)]
 have parts:∀ {ps:List (Nat × Nat × Opd)},(∀ p ∈ ps,p.2.2 ∈ a0r so)→b0u t ps=b0u t' ps:=fun hp=>a1Y (fun p hm=>by rw [h _ (hp p hm)])
 cases so <;> simp only [opA]
 case build z ps=>rw [parts (fun p hm=>by simp only [a0r,a1z];exact ⟨p,hm,rfl⟩)]
 case lit e z n ps=>rw [parts (fun p hm=>by simp only [a0r,a1z];exact ⟨p,hm,rfl⟩)]
 case mkfn f xs ys=>rw [lst (xs:=xs) (fun x hm=>by simp [a0r,hm]),lst (xs:=ys) (fun x hm=>by simp [a0r,hm])]
 case sl e size x lo hi mx=>rw [h x (by simp [a0r]),opt (x:=lo) (fun y e=>by simp [a0r,e]),opt (x:=hi) (fun y e=>by simp [a0r,e]),opt (x:=mx) (fun y e=>by simp [a0r,e])]
 case call f xs l=>rw [lst (xs:=xs) (fun x hm=>by simp [a0r,hm])]
 case callv x xs l=>rw [h x (by simp [a0r]),lst (xs:=xs) (fun x hm=>by simp [a0r,hm])]
 case inv x tb xs l=>rw [h x (by simp [a0r]),lst (xs:=xs) (fun x hm=>by simp [a0r,hm])]
 case mnx b x xs=>rw [h x (by simp [a0r]),lst (xs:=xs) (fun x hm=>by simp [a0r,hm])]
 case pick c x y=>rw [h c (by simp [a0r]),h x (by simp [a0r]),h y (by simp [a0r])]
 case store n x y=>rw [h x (by simp [a0r]),h y (by simp [a0r])]
 case bin tg b x y=>rw [h x (by simp [a0r]),h y (by simp [a0r])]
 case appz e b z x y=>rw [h x (by simp [a0r]),h y (by simp [a0r])]
 case mk e b z x y=>rw [h x (by simp [a0r]),h y (by simp [a0r])]
 case ia n x y=>rw [h x (by simp [a0r]),h y (by simp [a0r])]
 case app e n b x y=>rw [h x (by simp [a0r]),h y (by simp [a0r])]
 case mv x=>rw [h x (by simp [a0r])]
 case box e x=>rw [h x (by simp [a0r])]
 case load g n x=>rw [h x (by simp [a0r])]
 case chk x=>rw [h x (by simp [a0r])]
 case un u x=>rw [h x (by simp [a0r])]
 case conv k x=>rw [h x (by simp [a0r])]
 case iface ty x=>rw [h x (by simp [a0r])]
 case fa o x=>rw [h x (by simp [a0r])]
 case fa0 e x=>rw [h x (by simp [a0r])]
 case fld g o n x=>rw [h x (by simp [a0r])]
 case ext x i=>rw [h x (by simp [a0r])]
 case len x=>rw [h x (by simp [a0r])]
 case cap x=>rw [h x (by simp [a0r])]
 case pan x=>rw [h x (by simp [a0r])]
theorem t0u (h:∀ x ∈ a0r so,ev t x=ev t' x):c0O t so=c0O t' so:=by
 cases so <;> simp only [c0O]
 case store n x y=>rw [h x (by simp [a0r])]
 case app e n b x y=>rw [h x (by simp [a0r]),h y (by simp [a0r])]
 case load g n x=>rw [h x (by simp [a0r])]
 case fa0 e x=>rw [h x (by simp [a0r])]
 case sl e size x lo hi mx=>rw [h x (by simp [a0r])]
theorem n0M {b:Nat} (h:b ∈ (c0O t so).2):way so=2:=by cases so <;> simp [c0O] at h <;> rfl
theorem w0X {b:Nat} (h:b ∈ (c0O t so).1):way so=1 ∨ way so=2:=by cases so <;> simp [c0O] at h <;> simp [way]
def d0r:SOp→Bool
 | .call _ _ b | .callv _ _ b | .inv _ _ _ b=>b
 | _=>false
theorem e0T {f:FuncId} {args:List Value} {l:Bool} (h:opA fl t H so=.call f args l):way so=3∧d0r so=l:=by
 have hc:=k0M h
 cases so <;> simp only [u0f,Z0V] at hc
 case call=>simp [opA] at h;simp [way,d0r,h.2.2]
 case callv=>simp only [opA] at h;split at h <;> simp at h;simp [way,d0r,h.2.2]
 case inv =>
  simp only [opA] at h
  split at h
  ·split at h <;> simp at h;simp [way,d0r,h.2.2]
  ·cases h
theorem F0I {v:Value} (hw:way so=0) (h:opA fl t H so=.val v H1):H1=H:=by
 have ht:=o0H h
 cases so <;> simp only [way] at hw <;> first | (exact Z0T hw (by decide)) | skip
 all_goals
  simp only [opA] at h
  first
   | (simp at h;exact h.2.symm)
   | (unfold b0z at h;split at h <;> simp at h;exact h.2.symm)
   | (split at h <;> first | (simp at h;exact h.2.symm) | (cases h;done) | (split at h <;> first | (simp at h;exact h.2.symm) | (cases h;done)) | (unfold b0z at h;split at h <;> simp at h;exact h.2.symm))
theorem q0c (hc:cOp X.P lone op=some so):(way so ≠ 0→m0y op ≠ 0)∧(d0r so=true→lone=true):=by
 cases op
 case call c =>
  obtain ⟨callee,args,ats⟩:=c
  cases callee with
  | value f =>
   refine ⟨fun _=>by simp [m0y],fun hl=>?_⟩
   cases f <;> simp only [cOp] at hc
   case func f =>
    split at hc
    ·simp only [Z0J,Z0D,Z0K,Z0G] at hc
     obtain ⟨_,_,rfl⟩:=hc;exact hl
    ·cases hc
   all_goals
    simp only [Z0J,Z0D,Z0K,Z0G] at hc
    obtain ⟨_,_,_,_,rfl⟩:=hc;exact hl
  | invoke r n =>
   refine ⟨fun _=>by simp [m0y],fun hl=>?_⟩
   simp only [cOp,Z0J,Z0D,Z0K,Z0G] at hc
   obtain ⟨_,_,_,_,rfl⟩:=hc;exact hl
  | builtin b =>
   simp only [cOp] at hc
   split at hc
   ·simp only [Z0J,Z0D,Z0K,Z0G] at hc
    obtain ⟨_,_,_,_,rfl⟩:=hc
    exact ⟨fun h=>by simp [way] at h,fun h=>by simp [d0r] at h⟩
   ·simp only [Z0J,Z0D,Z0K,Z0G] at hc
    obtain ⟨_,_,_,_,rfl⟩:=hc
    exact ⟨fun h=>by simp [way] at h,fun h=>by simp [d0r] at h⟩
   ·simp only [Z0J,Z0D,Z0K,Z0G] at hc
    obtain ⟨_,_,_,_,rfl⟩:=hc
    exact ⟨fun h=>by simp [way] at h,fun h=>by simp [d0r] at h⟩
   ·simp only [Z0J,Z0D,Z0K,Z0G] at hc
    obtain ⟨_,_,_,_,rfl⟩:=hc
    exact ⟨fun h=>by simp [way] at h,fun h=>by simp [d0r] at h⟩
   ·simp only [Z0J,Z0D] at hc
    obtain ⟨_,_,_,_,_,_,hc⟩:=hc
    split at hc
    ·simp only [Z0D,Z0K,Z0G] at hc
     obtain ⟨_,_,_,_,_,_,rfl⟩:=hc
     exact ⟨fun _=>by simp [m0y],fun h=>by simp [d0r] at h⟩
    ·split at hc
     ·simp only [Z0D,Z0K,Z0G] at hc
      obtain ⟨_,_,_,_,_,_,rfl⟩:=hc
      exact ⟨fun _=>by simp [m0y],fun h=>by simp [d0r] at h⟩
     ·cases hc
   ·cases hc
 all_goals
  simp only [cOp,b1x,Z0J,Z0D,Z0K,Z0G,reduceCtorEq] at hc
 all_goals (try (split at hc))
 all_goals (try (simp only [Z0J,Z0K,Z0D,Z0G,reduceCtorEq] at hc))
 case move=>obtain ⟨_,_,rfl⟩:=hc;exact ⟨fun h=>by simp [way] at h,fun h=>by simp [d0r] at h⟩
 case assign=>obtain ⟨_,_,rfl⟩:=hc;exact ⟨fun h=>by simp [way] at h,fun h=>by simp [d0r] at h⟩
 all_goals
  (repeat' (first | (obtain ⟨_,_,hc⟩:=hc) | (split at hc) | (simp only [Z0D,Z0K,Z0G,reduceCtorEq] at hc)))
 all_goals (try subst hc)
 all_goals
  refine ⟨fun h=>?_,fun h=>?_⟩
  ·first
    | (simp [m0y];done)
    | (simp [way] at h;done)
  ·simp [d0r] at h
def cut (φ:Inj) (m:Nat):Inj:=fun b=>if b < m then φ b else none
theorem b0s {m b:Nat} {y:Nat × Nat}:cut φ m b=some y ↔ b < m∧φ b=some y:=by
 unfold cut;split
 ·rename_i h;simp [h]
 ·rename_i h;simp [h]
theorem h0R {m k:Nat} (hmk:m≤k) (hφ:∀ b y,b < m→φ b=some y→φ' b=some y):∀ b y,cut φ m b=some y→cut φ' k b=some y:=fun b y h=>by
 rw [b0s] at h ⊢
 exact ⟨by omega,hφ b y h.1 h.2⟩
theorem VR.cut {m:Nat} (hm:∀ b y,φ b=some y→b < m) {v u:Value} (h:VR X φ S v u):∀ {u'},VR X ψ S' v u'→VR X (cut ψ m) S' v u':=by
 induction h with
 | bool b=>intro u' k;cases k;exact .bool _
 | int k n=>intro u' k;cases k;exact .int _ _
 | str s=>intro u' k;cases k;exact .str _
 | pnil=>intro u' k;cases k;exact .pnil
 | ptr a a' B o h1 h2 h3=>intro u' k;cases k with | ptr _ a2 B2 o2 g1 g2 g3=>exact .ptr _ _ B2 o2 g1 (b0s.2 ⟨hm _ _ h2,g2⟩) g3
 | snil=>intro u' k;cases k;exact .snil
 | sle a a' =>
  intro u' k
  cases k with
  | sle _ a2=>exact .sle _ _
  | sl _ a2 _ _ c2 B2 o2 g1 g2 g3 g4 g5 g6 g7 g8=>rw [g6 (by simp [unk])];exact .sle _ _
 | sl a a' len cap cap' B o h1 h2 h3 h4 h5 h6 h7 h8 =>
  intro u' k
  cases k with
  | sle _ a2=>exact .sle _ _
  | sl _ a2 _ _ c2 B2 o2 g1 g2 g3 g4 g5 g6 g7 g8=>exact .sl _ _ _ _ _ B2 o2 g1 (b0s.2 ⟨hm _ _ h2,g2⟩) g3 g4 g5 g6 g7 g8
 | nilFunc=>intro u' k;cases k;exact .nilFunc
 | nilIface=>intro u' k;cases k;exact .nilIface
 | func f a b a' b' h1 _ h3 _ ih1 ih2 =>
  intro u' k
  cases k with
  | func _ _ _ a2 b2 g1 g2 g3 g4=>exact .func _ _ _ _ _ g1 (fun i hi=>ih1 i hi (g2 i hi)) g3 (fun i hi=>ih2 i hi (g4 i hi))
 | iface ty v v' _ ih=>intro u' k;cases k with | iface _ _ v2 g=>exact .iface _ _ _ (ih g)
 | agg a a' h1 _ ih=>intro u' k;cases k with | agg _ a2 g1 g2=>exact .agg _ _ g1 (fun i hi=>ih i hi (g2 i hi))
 | tuple a a' h1 _ ih=>intro u' k;cases k with | tuple _ a2 g1 g2=>exact .tuple _ _ g1 (fun i hi=>ih i hi (g2 i hi))
theorem CR.cut {m:Nat} (hm:∀ b y,φ b=some y→b < m) {l u u':List Value} (h:CR X φ S l u) (k:CR X ψ S' l u'):CR X (cut ψ m) S' l u' :=
 ⟨k.1,fun i hi=>(h.2 i hi).cut hm (k.2 i hi)⟩
def v0L (X:Cx) (φ:Inj) (w:World) (B o:Nat) (ro:Bool) (e:TypeId) (cs:List Value):Prop :=
 ∃ c el fz,w.heap[B]? = some (.cells c el fz)∧o + cs.length≤c.size∧CR X φ w.shape? cs ((c.toList.drop o).take cs.length)∧(ro=false→X.base≤B∧fz=(0,0)∧el=e)∧(ro=true→B < X.base)
theorem v0L.mono {B o:Nat} {ro:Bool} {e:TypeId} {cs:List Value} (h:v0L X φ w B o ro e cs) (hφ:∀ b x,φ b=some x→φ' b=some x) (hS:∀ b x,w.shape? b=some x→w'.shape? b=some x) (hw:w'.heap[B]? = w.heap[B]?) :
  v0L X φ' w' B o ro e cs:=by
 obtain ⟨c,el,fz,h1,h2,h3,h4,h5⟩:=h
 exact ⟨c,el,fz,by rw [hw];exact h1,h2,h3.mono hφ hS,h4,h5⟩
theorem v0L.lt {B o:Nat} {ro:Bool} {e:TypeId} {cs:List Value} (h:v0L X φ w B o ro e cs):B < w.heap.size:=by
 obtain ⟨c,el,fz,h1,_⟩:=h
 exact (a1n.1 h1).1
end
end Go.Proofs.YtilekhkgobmolaaGreat.AI
