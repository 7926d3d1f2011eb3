/- Part 2 of the proof. -/
import Derived.Orders
import Derived.Test.YtilekhkgobmolaaGreatM00
set_option linter.unusedVariables false
set_option linter.unusedSimpArgs false
set_option linter.unusedSectionVars false
namespace Go.Proofs.YtilekhkgobmolaaGreat.AI
section
open Go
variable {X:Cx} {φ φ':Inj} {S:Shp} {H H':a0e} {w w':World} {fl:Nat} {t:b0b} {a:Act} {o:Oper}
theorem Rel.drew (hR:Rel X φ H w):Rel X φ H w.drew:=⟨hR.bs,hR.lt,hR.row,hR.sep⟩
theorem d0s.drew (hR:Rel X φ H w):d0s X fl φ H w φ H w.drew :=
 { ext := fun _ _ h => h, rel := hR.drew, shp := fun _ _ h => h, wsz := i1j _, os := rfl, tape := rfl, out := rfl, hsz := i1j _, keep := fun _ _ => rfl,
   kind:=fun _ _ cs _ h=>⟨cs,h⟩,fresh:=(fun b x h h'=>by rw [h] at h';cases h'),newB:=(fun b B o h h'=>by rw [h] at h';cases h'),frame:=fun _ _ _=>rfl }
theorem d0s.kill (hR:Rel X φ H w) {b:Nat} (hbl:b < H.size) (hfl:fl≤b):d0s X fl φ H w φ (H.setIfInBounds b .dead) w:=by
 have hsub:∀ b1 ro e cs,a0e.blk (H.setIfInBounds b .dead) b1=.row ro e cs→b1 ≠ b∧H.blk b1=.row ro e cs:=fun b1 ro e cs h=>by
  rw [a0Z _ _ _ _ hbl] at h
  split at h
  ·cases h
  ·rename_i hne;exact ⟨hne,h⟩
 refine
  { ext := fun _ _ h => h
    rel:=?_
    shp:=fun _ _ h=>h
    wsz:=i1j _
    os:=rfl
    tape:=rfl
    out:=rfl
    hsz:=by simp
    keep:=fun b1 hb1=>by rw [a0Z _ _ _ _ hbl,i1k (by omega)]
    kind:=fun b1 e cs _ h=>⟨cs,(hsub _ _ _ _ h).2⟩
    fresh:=fun b x h h'=>by rw [h] at h';cases h'
    newB:=fun b B o h h'=>by rw [h] at h';cases h'
    frame:=fun _ _ _=>rfl }
 refine { bs:=hR.bs,lt:=fun b x h=>by simpa using hR.lt b x h,row:=fun b1 B o ro e cs h hr=>hR.row b1 B o ro e cs h (hsub _ _ _ _ hr).2,sep:=?_ }
 intro b1 b2 B o o' e cs h1 h2 hne hr
 have:=hR.sep b1 b2 B o o' e cs h1 h2 hne (hsub _ _ _ _ hr).2
 rw [a0Z _ _ _ _ hbl]
 split
 ·rfl
 ·exact this
theorem o0o (z:Array Value) (n:Nat) (hz:0 < z.size):(Builtin.zeroCells z n).toList=e0G z.toList n:=k0h z n hz
theorem t0l (z:List Value):∀ (m n:Nat),m≤n→(e0G z n).take (m * z.length)=e0G z m
 | 0,n,_=>by simp [e0G]
 | m + 1,0,h=>by omega
 | m + 1,n + 1,h=>by
  simp only [e0G]
  rw [Nat.succ_mul,Nat.add_comm (m * z.length),List.take_append]
  simp [t0l z m n (by omega),i1v]
theorem d0s.moved (hR:Rel X φ H w) {b B o off:Nat} {e:TypeId} {cs0 cs:List Value} (hb:φ b=some (B,o)) (hk:H.blk b=.row false e cs0) (hfl:fl≤b) (hflH:fl≤H.size)
  (c:Array Value) (c':Array Value) (h1:w.heap[B]? = some (.cells c e (0,0))) (hsz:c'.size=c.size) (hle:off + cs.length≤c'.size) (hc:CR X φ w.shape? cs ((c'.toList.drop off).take cs.length)) :
  d0s X fl φ H w (fun b1=>if b1=H.size then some (B,off) else φ b1) ((H.setIfInBounds b .dead).push (.row false e cs)) (w.setRow B c'):=by
 have hbl:=a0i hk
 obtain ⟨c0,g1,g2,g3,g4⟩:=hR.blkT hb hk
 have hsh:=h0E w B c c' e (0,0) h1 hsz
 have hshp:(w.setRow B c').shape? = w.shape?:=funext hsh
 have hBl:B < w.heap.size:=(i1T.1 h1).1
 have hext:∀ b1 x,φ b1=some x→(fun b1=>if b1=H.size then some (B,off) else φ b1) b1=some x:=fun b1 x hx=>by
  have:=hR.lt b1 x hx
  show (if _ then _ else _)=_
  rw [i1k (by omega)];exact hx
 have hsize:(H.setIfInBounds b .dead).size=H.size:=by simp
 have hblk:∀ b1,a0e.blk ((H.setIfInBounds b .dead).push (.row false e cs)) b1=if b1=H.size then .row false e cs else if b1=b then .dead else H.blk b1:=fun b1=>by
  rw [a0K,hsize]
  split
  ·rfl
  ·exact a0Z _ _ _ _ hbl
 refine
  { ext := hext
    rel:=?_
    shp:=fun B1 x h=>by rw [hsh];exact h
    wsz:=by simp [World.setRow]
    os:=rfl
    tape:=rfl
    out:=rfl
    hsz:=by simp
    keep:=fun b1 hb1=>by rw [hblk,i1k (by omega),i1k (by omega)]
    kind:=fun b1 e1 cs1 hb1 hrow=>by
     rw [hblk,i1k (by omega)] at hrow
     split at hrow
     ·cases hrow
     ·exact ⟨cs1,hrow⟩
    fresh:=fun b1 x hb1 hn=>by
     by_cases h:b1=H.size
     ·omega
     ·simp only [i1k h] at hb1;rw [hb1] at hn;cases hn
    newB:=fun b1 B1 o1 hb1 hn=>by
     by_cases h:b1=H.size
     ·simp only [i1n h,i1l,k1d] at hb1
      exact .inr ⟨b,o,e,cs0,by rw [hb,hb1.1],hfl,hk⟩
     ·simp only [i1k h] at hb1;rw [hb1] at hn;cases hn
    frame:=fun B1 _ hno=>setRow_other w B B1 _ (fun h=>by subst h;exact hno b o e cs0 hb hfl hk) }
 refine { bs:=by have:=hR.bs;simpa [World.setRow] using this,lt:=?_,row:=?_,sep:=?_ }
 ·intro b1 x hb1
  simp only [j1H,hsize]
  by_cases h:b1=H.size
  ·omega
  ·simp only [i1k h] at hb1;have:=hR.lt b1 x hb1;omega
 ·intro b1 B1 o1 ro e1 cs1 hb1 hrow
  rw [hblk] at hrow
  rw [hshp]
  by_cases h:b1=H.size
  ·simp only [i1n h] at hb1 hrow
   cases hb1;cases hrow
   exact ⟨c',e,(0,0),setRow_heap w B c c' e (0,0) h1,hle,hc.mono hext (fun _ _ h=>h),fun _=>⟨g2,rfl,rfl⟩,fun h=>by cases h⟩
  ·simp only [i1k h] at hb1 hrow
   split at hrow
   ·cases hrow
   ·rename_i hne
    by_cases hB:B1=B
    ·subst hB
     have:=hR.sep b b1 B1 o o1 e cs0 hb hb1 (fun e=>hne e.symm) hk
     rw [this] at hrow;cases hrow
    ·obtain ⟨c1,el,fz,h6,h7,h8,h9⟩:=hR.row b1 B1 o1 ro e1 cs1 hb1 hrow
     exact ⟨c1,el,fz,by rw [setRow_other w B B1 _ hB];exact h6,h7,h8.mono hext (fun _ _ h=>h),h9⟩
 ·intro b1 b2 B1 o1 o2 e1 cs1 hb1 hb2 hne hrow
  rw [hblk] at hrow ⊢
  by_cases h:b1=H.size
  ·have h':b2 ≠ H.size:=fun e=>hne (h.trans e.symm)
   simp only [i1n h] at hb1 hrow
   simp only [i1k h'] at hb2 ⊢
   cases hb1
   by_cases h2:b2=b
   ·rw [i1n h2]
   ·rw [i1k h2]
    exact hR.sep b b2 _ o o2 e cs0 hb hb2 (fun e=>h2 e.symm) hk
  ·simp only [i1k h] at hb1 hrow
   split at hrow
   ·cases hrow
   ·rename_i hnb
    by_cases h':b2=H.size
    ·simp only [i1n h'] at hb2
     cases hb2
     have:=hR.sep b1 b _ o1 o e1 cs1 hb1 hb hnb hrow
     rw [this] at hk;cases hk
    ·simp only [i1k h'] at hb2 ⊢
     split
     ·rfl
     ·exact hR.sep b1 b2 B1 o1 o2 e1 cs1 hb1 hb2 hne hrow
section
variable (hR:Rel X φ H w) (hT:CR X φ w.shape? t a.tmps.toList)
include hR hT
theorem a1P (hfl:fl≤H.size) {ty e:TypeId} {z:List Value} {size bytes:Nat} {x y:Operand} {x' y':Opd} (ho:o.op=.makeSlice ty x y) (he:h0j X.P ty=some e) (hs:d0g X.P e=some size)
  (hb:j0l X.P e=some bytes) (hz:k0I X.P e=some z) (hsz:size=z.length) (hpos:0 < size) (hx:c0q x=some x') (hy:c0q y=some y') (fx:a0T x' = true) (fy:a0T y' = true)
  {v:Value} (h:opA fl t H (.mk e bytes z x' y')=.val v H'):b0k X fl φ H w o a v H':=by
 have hu:=f0o he
 obtain ⟨hf,zv,i,hi,hzv,_,hvz,hrun⟩:=i0b hz
 have hzs:zv.cells.size=size:=by rw [hsz,← hvz];simp
 have hvx:=b0D hT hx fx
 have hvy:=b0D hT hy fy
 have hbi:i.bytes=bytes:=by simpa [j0l,hi] using hb
 have hsi:i.size=size:=by simpa [d0g,hi] using hs
 simp only [opA] at h
 split at h
 ·rename_i k1 l k2 c e1 e2
  split at h
  ·rename_i hc
   obtain ⟨h0,h1,h2,h3⟩:=hc
   simp only [OpRes.val.injEq] at h
   obtain ⟨rfl,rfl⟩:=h
   rw [e1] at hvx;rw [e2] at hvy
   generalize hg1:a.eval x=g1 at hvx
   generalize hg2:a.eval y=g2 at hvy
   cases hvx;cases hvy
   have hbc:(i.bytes:Int) * c≤281474976710656:=by
    have h4:i.bytes * c.toNat≤1024 * 1073741824:=j1f (by omega) (by omega)
    have h5:((i.bytes * c.toNat:Nat):Int)=(i.bytes:Int) * c:=by rw [j1I,k1z (by omega)]
    omega
   have hmk:=run_make (P:=X.P) w ty e i zv hu hi hzv k1 k2 l c h0 h1 hbc (by omega)
   have hcl:(madeCells zv.cells (c.toNat * i.size)).toList=e0G z c.toNat:=by
    have:=k0h zv.cells c.toNat (by omega)
    rw [hzs,hvz] at this
    rw [hsi];simpa [madeCells,hzs] using this
   have hcs:(madeCells zv.cells (c.toNat * i.size)).size=c.toNat * size:=by rw [size_madeCells,hsi]
   have hlc:l.toNat * size≤c.toNat * size:=i1r _ (by omega)
   refine b0k.made hR hT hfl e _ _ (by rw [e0r,hcs,← hsz];exact hlc) ?_ _ (.slice (some ⟨w.heap.size,0,none⟩) l.toNat c.toNat) (by simp [execOp,ho,hg1,hg2,hmk])
    (j0w hR _ e _ _ _ size (e0E hs) (fun _=>rfl) (by omega) (by rw [hcs];exact i1j _))
   rw [hcl,e0r,t0l _ _ _ (by omega)]
   exact f0N (j0O hf _)
  ·cases h
 ·cases h
theorem J0l {ty:TypeId} {n:Nat} {x y:Operand} {x' y':Opd} (ho:o.op=.store ty x y) (hn:d0g X.P ty=some n) (hx:c0q x=some x') (hy:c0q y=some y') (fx:a0T x' = true) (fy:a0T y' = true)
  {v:Value} (h:opA fl t H (.store n x' y')=.val v H'):b0k X fl φ H w o a v H':=by
 have hvx:=b0D hT hx fx
 have hvy:=(b0D hT hy fy).cells
 simp only [opA] at h
 split at h
 ·rename_i p e1
  split at h
  ·cases h
  ·rename_i hc
   split at h
   ·rename_i H2 hw
    simp only [OpRes.val.injEq] at h
    obtain ⟨rfl,rfl⟩:=h
    rw [e1] at hvx
    generalize hg1:a.eval x=g1 at hvx
    cases hvx with
    | ptr _ q B o' h1 h2 h3 =>
     subst h3
     obtain ⟨w',hst,hstep⟩:=d0s.store hR h2 hw hvy
     have hlen:=hvy.1
     have hsz:(a.eval y).cells.size=n:=by
      have:¬ (a0V (ev t y')).length ≠ n:=fun e=>hc (.inr e)
      simp only [l1b] at hlen;omega
     refine ⟨φ,w',undef,.inr ⟨rfl,?_⟩,VR.undef,hstep⟩
     simp [execOp,ho,hg1,Instr.storeAt,Instr.sureAddr,storeVar,d0G hn,hsz,hst]
   ·cases h
 ·cases h
omit hR hT in
theorem n0o (w:World) (t u ty e:TypeId) (i:TypeInfo) (z:Value) (k k':IntKind) (ht:X.P.underlying t=some (.slice e)) (hk:X.P.underlying u=some (.int k)) (hi:X.P.info? e=some i) (hz:i.zero=some z) (n:Int) (h0:0 < n) (h1:n≤1073741824) (hb:i.bytes≤1024) (hs:0 < i.size) :
  (Builtin.append_ #[t,u] ty #[.slice none 0 0,.int k' n]).run X.P w=.ok (.slice (some ⟨w.heap.size,0,none⟩) n.toNat (grownCap w n.toNat 0 e))
   (w.drew.alloc (.cells (Builtin.zeroCells z.cells n.toNat ++ Builtin.zeroCells z.cells (grownCap w n.toNat 0 e - n.toNat)) e)):=by
 have wl:IntKind.i64.wrap n=n:=by rw [IntKind.wrap_i64];omega
 obtain ⟨m,rfl⟩:∃ m:Nat,n=m:=⟨n.toNat,by omega⟩
 have n1:¬ (m:Int) < 0:=by omega
 have hm0:m ≠ 0:=by omega
 have hsm:m * i.bytes≤1073741824 * 1024:=j1f (by omega) hb
 have n2:¬ (281474976710656 < (m:Int) * (i.bytes:Int)):=by
  have:((m * i.bytes:Nat):Int)=(m:Int) * (i.bytes:Int):=j1I _ _
  omega
 have hms:m * i.size ≠ 0:=by have:=Nat.mul_pos (show 0 < m by omega) hs;omega
 have h63:¬ (9223372036854775807 < (m:Int)):=by omega
 have h48:¬ (281474976710656 < Builtin.nextslicecap m 0 * i.bytes):=by rw [nextslicecap_zero (by omega)];omega
 have hms2:¬ (m=0 ∨ i.size=0):=by omega
 simp [Builtin.append_,run_underlying ht,run_underlying hk,sizeOf,typeInfo,zeroValue,hi,hz,asInt,asIntOf,wl,n1,n2,hm0,hms,hms2,h63,h48,Question.forced,run_firstCells_none,newRow,grownCap]
theorem M0w (hfl:fl≤H.size) {ty u e ty2:TypeId} {z:List Value} {size bytes:Nat} {as:Array Operand} {ats:Array TypeId} {x y:Operand} {x' y':Opd}
  (ho:o.op=.call { callee:=.builtin .append,args:=as,argTypes:=ats }) (hty2:o.type=ty2) (has:as.toList=[x,y]) (hats:ats.toList=[ty,u]) (he:h0j X.P ty=some e) (hs:d0g X.P e=some size)
  (hb:j0l X.P e=some bytes) (hz:k0I X.P e=some z) (hsz:size=z.length) (hpos:0 < size) (hu2:B0j X.P u=true) (hx:c0q x=some x') (hy:c0q y=some y') (fx:a0T x' = true) (fy:a0T y' = true)
  {v:Value} (h:opA fl t H (.appz e bytes z x' y')=.val v H'):b0k X fl φ H w o a v H':=by
 have hu:=f0o he
 obtain ⟨hf,zv,i,hi,hzv,_,hvz,hrun⟩:=i0b hz
 have hzs:zv.cells.size=size:=by rw [hsz,← hvz];simp
 have hvx:=b0D hT hx fx
 have hvy:=b0D hT hy fy
 have hbi:i.bytes=bytes:=by simpa [j0l,hi] using hb
 have hsi:i.size=size:=by simpa [d0g,hi] using hs
 have hce:=e0E hs
 have has':as = #[x,y]:=by rw [← j1j (xs:=as),has]
 have hats':ats = #[ty,u]:=by rw [← j1j (xs:=ats),hats]
 subst has' hats'
 obtain ⟨k,hk⟩:∃ k,X.P.underlying u=some (.int k):=by
  unfold B0j at hu2;split at hu2
  ·rename_i k hk;exact ⟨k,hk⟩
  ·cases hu2
 simp only [opA] at h
 split at h
 ·rename_i m hg
  simp only [OpRes.val.injEq] at h
  obtain ⟨rfl,rfl⟩:=h
  unfold y0O at hg
  split at hg
  ·rename_i k' n e1 e2
   split at hg
   ·rename_i hc
    obtain ⟨c0,c1,c2⟩:=hc
    simp only [i1l] at hg
    subst hg
    rw [e1] at hvx;rw [e2] at hvy
    generalize hg1:a.eval x=g1 at hvx
    generalize hg2:a.eval y=g2 at hvy
    cases hvx;cases hvy
    have hr:=n0o (X:=X) w ty u ty2 e i zv k k' hu hk hi hzv n c0 c1 (by omega) (by omega)
    have hex:(execOp a.eval o).run X.P w=.ok (.value (.slice (some ⟨w.heap.size,0,none⟩) n.toNat (grownCap w n.toNat 0 e))) (w.drew.alloc (.cells (Builtin.zeroCells zv.cells n.toNat ++ Builtin.zeroCells zv.cells (grownCap w n.toNat 0 e - n.toNat)) e)):=by
     simp [execOp,ho,hg1,hg2,resolve,invoke,builtin,hty2,hr]
    have hge:=grownCap_ge w n.toNat 0 e
    obtain ⟨m,hm⟩:∃ m,m=n.toNat:=⟨_,rfl⟩
    rw [← hm] at hex hge ⊢
    have hzl:(Builtin.zeroCells zv.cells m).toList=e0G z m:=by rw [o0o _ _ (by omega),hvz]
    have hzsz:(Builtin.zeroCells zv.cells m).size=m * size:=by rw [size_zeroCells,hzs]
    have hrl:(e0G z m).length=m * size:=by rw [e0r,← hsz]
    have hst:=d0s.alloc (fl:=fl) (hR.drew) e (e0G z m) (Builtin.zeroCells zv.cells m ++ Builtin.zeroCells zv.cells (grownCap w m 0 e - m))
     (by rw [hrl,Array.size_append,hzsz];omega)
     (by
      have:(Builtin.zeroCells zv.cells m ++ Builtin.zeroCells zv.cells (grownCap w m 0 e - m)).toList.take (e0G z m).length=e0G z m:=by
       rw [k1x,hzl];exact List.take_left
      rw [this];exact f0N (j0O hf _)) hfl
    refine ⟨_,_,_,.inl hex,?_,(d0s.drew hR).trans hst (i1j _) hR⟩
    exact j0w (X:=X) (φ:=φ) (H:=H) (w:=w.drew) hR.drew (Builtin.zeroCells zv.cells m ++ Builtin.zeroCells zv.cells (grownCap w m 0 e - m)) e m unk (grownCap w m 0 e) size hce (fun h=>i1A rfl h) hge (by
     rw [Array.size_append,hzsz,size_zeroCells,hzs,← i1D]
     exact i1r _ (by omega))
   ·cases hg
  ·cases hg
 ·cases h
theorem W0x (hfl:fl≤H.size) {ty e ty2:TypeId} {z:List Value} {size bytes:Nat} {as:Array Operand} {ats:Array TypeId} {x y:Operand} {x' y':Opd}
  (ho:o.op=.call { callee:=.builtin .append,args:=as,argTypes:=ats }) (hty2:o.type=ty2) (has:as.toList=[x,y]) (hats:ats.toList=[ty,ty]) (he:h0j X.P ty=some e) (hs:d0g X.P e=some size)
  (hb:j0l X.P e=some bytes) (hz:k0I X.P e=some z) (hsz:size=z.length) (_:0 < size) (hx:c0q x=some x') (hy:c0q y=some y') (fx:a0T x' = true) (fy:a0T y' = true)
  {v:Value} (h:opA fl t H (.app e size bytes x' y')=.val v H'):b0k X fl φ H w o a v H':=by
 have hu:=f0o he
 obtain ⟨hf,zv,i,hi,hzv,_,hvz,hrun⟩:=i0b hz
 have hzs:zv.cells.size=size:=by rw [hsz,← hvz];simp
 have hvx:=b0D hT hx fx
 have hvy:=b0D hT hy fy
 have hbi:i.bytes=bytes:=by simpa [j0l,hi] using hb
 have hsi:i.size=size:=by simpa [d0g,hi] using hs
 have hce:=e0E hs
 have has':as = #[x,y]:=by rw [← j1j (xs:=as),has]
 have hats':ats = #[ty,ty]:=by rw [← j1j (xs:=ats),hats]
 subst has' hats'
 have hexec:∀ (g1 g2 v':Value) (w1:World),a.eval x=g1→a.eval y=g2→(Builtin.append_ #[ty,ty] ty2 #[g1,g2]).run X.P w=.ok v' w1→(execOp a.eval o).run X.P w=.ok (.value v') w1:=by
  intro g1 g2 v' w1 e1 e2 e3
  simp [execOp,ho,e1,e2,resolve,invoke,builtin,hty2,e3]
 simp only [opA] at h
 cases hap:i0x fl H e size bytes (ev t x') (ev t y') with
 | none=>simp [hap,g0H] at h
 | some r =>
  obtain ⟨rv,rH⟩:=r
  simp only [hap,g0H,OpRes.val.injEq] at h
  obtain ⟨rfl,rfl⟩:=h
  generalize hg1:a.eval x=g1 at hvx
  generalize hg2:a.eval y=g2 at hvy
  unfold i0x at hap
  split at hap
  ·rename_i base len cap xb n xc e1 e2
   rw [e1] at hvx;rw [e2] at hvy
   split at hap
   ·-- nothing appended
    rename_i hn0;cases hap
    subst hn0
    have key:∀ (p':Option Addr) (c':Nat) (q':Option Addr) (d':Nat),g1=.slice p' len c'→g2=.slice q' 0 d'→len≤c'→b0k X fl φ H w o a (.slice base len cap) H:=by
     intro p' c' q' d' h1 h2 hlc
     subst h1 h2
     refine b0k.same hR (v':=.slice p' len c') (hexec _ _ _ _ hg1 hg2 ?_) hvx
     have hnew:(Builtin.firstCells size 0 (.slice q' 0 d')).run X.P w=.ok #[] w:=by cases q' <;> simp [Builtin.firstCells,loadCells,loadCellsFrom]
     cases p' <;> simp [Builtin.append_,run_underlying hu,sizeOf,typeInfo,hi,Builtin.lenOf,hlc,hsi,hnew,storeCells]
    cases hvx with
    | sle _ p' =>
     cases hvy with
     | snil=>exact key _ _ _ _ rfl rfl (i1j _)
     | sle _ q'=>exact key _ _ _ _ rfl rfl (i1j _)
     | sl _ q' _ _ d' B2 o2 _ _ _ _ _ _ _ _=>exact key _ _ _ _ rfl rfl (i1j _)
    | snil =>
     cases hvy with
     | snil=>exact key _ _ _ _ rfl rfl (i1j _)
     | sle _ q'=>exact key _ _ _ _ rfl rfl (i1j _)
     | sl _ q' _ _ d' B2 o2 _ _ _ _ _ _ _ _=>exact key _ _ _ _ rfl rfl (i1j _)
    | sl _ p' _ _ c' B o' k1 k2 k3 k4 k5 k6 k7 k8 =>
     cases hvy with
     | snil=>exact key _ _ _ _ rfl rfl k7
     | sle _ q'=>exact key _ _ _ _ rfl rfl k7
     | sl _ q' _ _ d' B2 o2 _ _ _ _ _ _ _ _=>exact key _ _ _ _ rfl rfl k7
   ·rename_i hn0
    split at hap
    ·rename_i hbd
     obtain ⟨hb1,hb2,_⟩:=hbd
     split at hap
     ·cases hap
     ·rename_i xp
      split at hap
      ·cases hap
      ·rename_i new hnew
       cases hvy with
       | sle _ q'=>exact i1A rfl hn0
       | sl _ q' _ _ d' B2 o2 k1 k2 k3 k4 k5 k6 k7 k8 =>
        have hoff2:=k5 (by omega)
        have hq:q' = ⟨B2,o2 + xp.off,none⟩:=by cases q';simp_all
        subst hq
        obtain ⟨hnl,new',hnl',hncr,hncell⟩:=hR.cells k2 hnew
        have hncell':=l0T hncell
        have hsmall:(len + n) * i.bytes≤140737488355328:=by
         have:(len + n) * i.bytes≤1073741824 * 1024:=j1f hb1 (by omega)
         omega
        -- the new row of a grown slice
        have grownRow:∀ (G:a0e),Rel X φ G w→G.size=H.size→∀ (olds olds':List Value) (m:Nat),olds.length=m * size→CR X φ w.shape? olds olds'→∀ cap0,
          (execOp a.eval o).run X.P w=.ok (.value (.slice (some ⟨w.heap.size,0,none⟩) (m + n) (grownCap w (m + n) cap0 e)))
           (w.drew.alloc (.cells (olds'.toArray ++ new'.toArray ++ Builtin.zeroCells zv.cells (grownCap w (m + n) cap0 e - (m + n))) e)) →
          ∃ φ' w' v',(execOp a.eval o).run X.P w=.ok (.value v') w'∧VR X φ' w'.shape? (.slice (some ⟨G.size,0,none⟩) (m + n) unk) v'∧d0s X fl φ G w φ' (G.push (.row false e (olds ++ new))) w':=by
         intro G hG hGs olds olds' m hol hocr cap0 hex
         have hge:=grownCap_ge w (m + n) cap0 e
         have hlen:(olds ++ new).length=(m + n) * size:=by rw [i1E,hol,hnl,i1D]
         have hcr:=hocr.append hncr
         have hlen':(olds' ++ new').length=(m + n) * size:=by rw [← hcr.1,hlen]
         have hst:=d0s.alloc (fl:=fl) (hG.drew) e (olds ++ new) (olds'.toArray ++ new'.toArray ++ Builtin.zeroCells zv.cells (grownCap w (m + n) cap0 e - (m + n)))
          (by simp only [Array.size_append,List.size_toArray,hlen];simp only [i1E] at hlen';omega)
          (by
           have:(olds'.toArray ++ new'.toArray ++ Builtin.zeroCells zv.cells (grownCap w (m + n) cap0 e - (m + n))).toList.take (olds ++ new).length=olds' ++ new':=by
            rw [hlen,← hlen',k1x,k1x]
            exact List.take_left
           rw [this];exact hcr) (by omega)
         refine ⟨_,_,_,hex,?_,(d0s.drew hG).trans hst (i1j _) hG⟩
         exact j0w (X:=X) (φ:=φ) (H:=G) (w:=w.drew) hG.drew (olds'.toArray ++ new'.toArray ++ Builtin.zeroCells zv.cells (grownCap w (m + n) cap0 e - (m + n))) e (m + n) unk (grownCap w (m + n) cap0 e) size hce (fun h=>i1A rfl h) hge (by
          simp only [Array.size_append,List.size_toArray,size_zeroCells,hzs]
          simp only [i1E] at hlen'
          rw [hlen',← i1D]
          exact i1r _ (by omega))
        split at hap
        ·cases hap
        rename_i hplain
        split at hap
        ·-- onto nil
         split at hap
         ·rename_i hz0;cases hap
          obtain ⟨rfl,rfl⟩:=hz0
          cases hvx
          have hr:=run_append_nil (P:=X.P) w ty ty2 e i zv hu hi hzv ⟨B2,o2 + xp.off,none⟩ n d' new' (by rw [hnl',hsi]) hncell' (by omega) (by omega) (by simp only [i1P] at hsmall;omega)
          obtain ⟨φ2,w2,v2,q1,q2,q3⟩:=grownRow H hR rfl [] [] 0 (by simp) CR.nil 0 (by simpa using hexec _ _ _ _ hg1 hg2 hr)
          exact ⟨φ2,w2,v2,.inl q1,by simpa using q2,by simpa using q3⟩
         ·cases hap
        ·rename_i sp
         split at hap
         ·rename_i h00;cases hap
          obtain ⟨rfl,rfl⟩:=h00
          have gg:∃ p',g1=.slice (some p') 0 0:=by
           cases hvx with
           | sle _ p'=>exact ⟨_,rfl⟩
           | sl _ p' _ _ c' B o' j1 j2 j3 j4 j5 j6 j7 j8=>have:=j6 (by simp [unk]);subst this;exact ⟨_,rfl⟩
          obtain ⟨p',hgg⟩:=gg
          have hr:=run_append_grow (P:=X.P) w ty ty2 e i zv hu hi hzv p' 0 0 [] (by simp) (fun j v hj=>by simp at hj) ⟨B2,o2 + xp.off,none⟩ n d' new' (by rw [hnl',hsi]) hncell' (by omega) (by omega) (growslice_fits (by omega) hsmall)
          rw [← hgg] at hr
          obtain ⟨φ2,w2,v2,q1,q2,q3⟩:=grownRow H hR rfl [] [] 0 (by simp) CR.nil 0 (by simpa using hexec _ _ _ _ hg1 hg2 hr)
          exact ⟨φ2,w2,v2,.inl q1,by simpa using q2,by simpa using q3⟩
         rename_i h00
         split at hap
         ·cases hap
         ·rename_i old hold
          cases hvx with
          | sle _ p'=>exact i1A ⟨rfl,rfl⟩ h00
          | sl _ p' _ _ c' B o' j1 j2 j3 j4 j5 j6 j7 j8 =>
           obtain ⟨hol,old',hol',hocr,hocell⟩:=hR.cells j2 hold
           have hocell2:∀ j v,old'[j]? = some v→w.cell? (p'.add j)=some v:=by
            intro j v hj
            have hlt:j < old'.length:=(i1M.1 hj).1
            have hlen0:0 < len:=by
             rcases k1o len with h0 | h0
             ·subst h0;rw [hol'] at hlt;simp at hlt
             ·exact h0
            have:=hocell j v hj
            rw [d0Y j3,j4,j5 hlen0];exact this
           have hgrow:c' < len + n→∀ (G:a0e),Rel X φ G w→G.size=H.size →
             ∃ φ' w' v',(execOp a.eval o).run X.P w=.ok (.value v') w'∧VR X φ' w'.shape? (.slice (some ⟨G.size,0,none⟩) (len + n) unk) v'∧d0s X fl φ G w φ' (G.push (.row false e (old ++ new))) w':=by
            intro hcl G hG hGs
            have hr:=run_append_grow (P:=X.P) w ty ty2 e i zv hu hi hzv p' len c' old' (by rw [hol',hsi]) hocell2 ⟨B2,o2 + xp.off,none⟩ n d' new' (by rw [hnl',hsi]) hncell' hcl (by omega) (growslice_fits hcl hsmall)
            exact grownRow G hG hGs old old' len hol hocr c' (hexec _ _ _ _ hg1 hg2 hr)
           split at hap
           ·rename_i hcap;cases hap
            obtain ⟨φ2,w2,v2,q1,q2,q3⟩:=hgrow (by rw [j6 hcap.1];exact hcap.2) H hR rfl
            exact ⟨φ2,w2,v2,.inl q1,q2,q3⟩
           ·split at hap
            ·rename_i e' cs0 hk
             split at hap
             ·rename_i hcond;cases hap
              obtain ⟨rfl,hflb⟩:=hcond
              obtain ⟨c,g1',g2',g3',g4'⟩:=hR.blkT j2 hk
              by_cases hroom:len + n≤c'
              ·-- in place
               obtain ⟨e3,nn,q1,q2⟩:=j8 (by rw [j4];exact g2')
               rw [j4] at q1
               simp only [World.shape?,g1',i1l,k1d] at q1
               obtain ⟨rfl,rfl⟩:=q1
               rw [hce] at q2
               have hfit:p'.off + len * size + new'.length≤c.size:=by
                rw [hnl']
                have:len * size + n * size≤c' * size:=by rw [← i1D];exact i1r _ hroom
                omega
               have hpl:∀ u ∈ new',u.oneCell' = true:=hncr.plain (by simpa using hplain)
               have hstc:=run_storeCells_at X.P B (p'.off + len * size) e' new' 0 c w g1' (by simpa using hfit) hpl
               simp only [j1p] at hstc
               rw [← h0L new' c.toList (p'.off + len * size) (by simpa using hfit)] at hstc
               have hp':p' = ⟨B,p'.off,none⟩:=by cases p';simp_all
               have hfirst:=run_firstCells_some (P:=X.P) w size n ⟨B2,o2 + xp.off,none⟩ n d' new' hnl' hncell'
               have hrunA:(Builtin.append_ #[ty,ty] ty2 #[.slice (some p') len c',.slice (some ⟨B2,o2 + xp.off,none⟩) n d']).run X.P w =
                 .ok (.slice (some p') (len + n) c') (w.setRow B (b0t c.toList (p'.off + len * size) new').toArray):=by
                have hadd:p'.add (len * size) = ⟨B,p'.off + len * size,none⟩:=by rw [d0Y j3,j4]
                simp [Builtin.append_,run_underlying hu,sizeOf,typeInfo,hi,hsi,Builtin.lenOf,hroom,hfirst,hadd,hstc]
               have hclen:(b0t c.toList (p'.off + len * size) new').toArray.size=c.size:=by simp [c0z]
               have hcr:CR X φ w.shape? (old ++ new) (((b0t c.toList (p'.off + len * size) new').toArray.toList.drop p'.off).take (old ++ new).length):=by
                have e4:((b0t c.toList (p'.off + len * size) new').drop p'.off).take (old ++ new).length=old' ++ new':=by
                 rw [j0c]
                 rw [h0L new' (c.toList.drop p'.off) (len * size) (by simp;omega)]
                 have e5:(c.toList.drop p'.off).take (len * size)=old':=by
                  apply k1s
                  intro j
                  by_cases hj:j < len * size
                  ·have hlt:j < old'.length:=by omega
                   have:=hocell2 j old'[j] (i1m hlt)
                   rw [d0Y j3] at this
                   simp only [World.cell?,j4,g1',Option.isSome_none,i1H,j1h] at this
                   rw [List.getElem?_take_of_lt hj,j1z,i1m hlt]
                   rw [j1P];exact this
                  ·rw [i1s (by simp;omega),i1s (by omega)]
                 rw [e5]
                 have:(old ++ new).length=(old' ++ new').length:=by simp;omega
                 rw [this]
                 exact List.take_left
                simp only []
                rw [e4];exact hocr.append hncr
               have hstep:=d0s.moved (fl:=fl) (off:=p'.off) hR j2 hk hflb hfl c _ g1' hclen (by rw [hclen];simp only [i1E,hol,hnl];omega) hcr
               refine ⟨_,_,_,.inl (hexec _ _ _ _ hg1 hg2 hrunA),?_,hstep⟩
               refine .sl _ _ _ _ _ B p'.off rfl (by simp) j3 j4 (fun _=>by simp) (fun h=>i1A rfl h) hroom (fun _=>⟨e',c.size,?_,by rw [hce];exact q2⟩)
               rw [j4,h0E w B c _ e' (0,0) g1' hclen]
               simp [World.shape?,g1']
              ·-- grown,and the old row forgotten
               have hkill:=d0s.kill (fl:=fl) hR (a0i hk) hflb
               obtain ⟨φ2,w2,v2,q1,q2,q3⟩:=hgrow (by omega) _ hkill.rel (by simp)
               exact ⟨φ2,w2,v2,.inl q1,by simpa using q2,hkill.trans q3 (i1j _) hR⟩
             ·cases hap
            ·cases hap
    ·cases hap
  ·cases hap
end
end
section
open Go
variable {X:Cx} {φ φ':Inj} {S:Shp} {H H':a0e} {w w':World} {fl:Nat} {t:b0b} {a:Act} {o:Oper} {so:SOp} {lone:Bool}
theorem Z0H (hc:cOp X.P lone o.op=some so) (hf:(a0y so).all a0T=true) (hR:Rel X φ H w) (hT:CR X φ w.shape? t a.tmps.toList) (hfl:fl≤H.size) {v:Value} (h:opA fl t H so=.val v H') :
  b0k X fl φ H w o a v H':=by
 cases ho:o.op
 case move x =>
  simp only [cOp,ho,k1k] at hc
  obtain ⟨x',hx,rfl⟩:=hc
  simp only [opA,OpRes.val.injEq] at h;obtain ⟨rfl,rfl⟩:=h
  exact U0d hR hT (.inl ho) hx (by simpa [a0y] using hf)
 case assign x =>
  simp only [cOp,ho,k1k] at hc
  obtain ⟨x',hx,rfl⟩:=hc
  simp only [opA,OpRes.val.injEq] at h;obtain ⟨rfl,rfl⟩:=h
  exact U0d hR hT (.inr ho) hx (by simpa [a0y] using hf)
 case pick c x y =>
  simp only [cOp,ho,i1o,i1i,i1q,i1l] at hc
  obtain ⟨c',h1,x',h2,y',h3,rfl⟩:=hc
  simp only [a0y,j1o,i1y,k1I] at hf
  exact M0A hR hT ho h1 h2 h3 hf.1 hf.2.1 hf.2.2.1 h
 case alloc e =>
  simp only [cOp,ho,i1o,i1i,i1q,i1l] at hc
  obtain ⟨z,h1,rfl⟩:=hc
  simp only [opA,OpRes.val.injEq] at h;obtain ⟨rfl,rfl⟩:=h
  exact J0h hR hT hfl ho h1
 case box e x =>
  simp only [cOp,ho,i1o,i1i,i1q,i1l] at hc
  obtain ⟨x',h1,rfl⟩:=hc
  simp only [opA,OpRes.val.injEq] at h;obtain ⟨rfl,rfl⟩:=h
  exact W0z hR hT hfl ho h1 (by simpa [a0y] using hf)
 case build ty ps =>
  simp only [cOp,ho,i1o,i1i,i1q,i1l] at hc
  obtain ⟨fs,h1,hc⟩:=hc
  split at hc
  ·rename_i hall
   simp only [i1i,i1l] at hc
   obtain ⟨z,h2,qs,h3,rfl⟩:=hc
   exact J0i hR hT ho h1 hall h2 h3 (by simpa [a0y] using hf) h
  ·cases hc
 case buildSlice ty n ps =>
  simp only [cOp,ho,i1o,i1i,i1q,i1l] at hc
  obtain ⟨e,h1,size,h2,z,h3,hc⟩:=hc
  split at hc
  ·rename_i hall
   simp only [i1i,i1l] at hc
   obtain ⟨qs,h4,rfl⟩:=hc
   exact W0G hR hT hfl ho h1 h2 h3 hall.1 hall.2.1 hall.2.2 h4 (by simpa [a0y] using hf) h
  ·cases hc
 case load ty x =>
  simp only [cOp,ho,i1o,i1i,i1q,i1l] at hc
  obtain ⟨b,h1,n,h2,x',h3,rfl⟩:=hc
  exact M0y hR hT ho h2 h1 h3 (by simpa [a0y] using hf) h
 case store ty x y =>
  simp only [cOp,ho,i1o,i1i,i1q,i1l] at hc
  obtain ⟨n,h1,x',h2,y',h3,rfl⟩:=hc
  simp only [a0y,j1o,i1y,k1I] at hf
  exact J0l hR hT ho h1 h2 h3 hf.1 hf.2.1 h
 case nilCheck x =>
  simp only [cOp,ho,i1o,i1i,i1q,i1l] at hc
  obtain ⟨x',h1,rfl⟩:=hc
  exact W0B hR hT ho h1 (by simpa [a0y] using hf) h
 case binOp b ty x y ty2 =>
  simp only [cOp,ho,i1o,i1i,i1q,i1l] at hc
  obtain ⟨d,h1,x',h2,y',h3,rfl⟩:=hc
  simp only [a0y,j1o,i1y,k1I] at hf
  exact W0y hR hT ho h1 h2 h3 hf.1 hf.2.1 h
 case unOp u ty x =>
  simp only [cOp,ho,i1o,i1i,i1q,i1l] at hc
  obtain ⟨x',h1,rfl⟩:=hc
  exact a1R hR hT ho h1 (by simpa [a0y] using hf) h
 case convert s d x =>
  simp only [cOp,ho,i1o,i1i,i1q,i1l] at hc
  obtain ⟨k0,h1,k,h2,x',h3,rfl⟩:=hc
  exact M0x hR hT ho h1 h2 h3 (by simpa [a0y] using hf) h
 case makeInterface ty x =>
  simp only [cOp,ho] at hc
  split at hc
  ·cases hc
  ·cases hc
  ·rename_i d hne hu
   simp only [i1o,i1i,i1q,i1l] at hc
   obtain ⟨x',h1,rfl⟩:=hc
   simp only [opA,OpRes.val.injEq] at h;obtain ⟨rfl,rfl⟩:=h
   exact J0j hR hT ho hu (fun m hm=>hne m hm) h1 (by simpa [a0y] using hf)
 case makeFunc f xs ys =>
  simp only [cOp,ho] at hc
  split at hc
  ·simp only [i1o,i1i,i1q,i1l] at hc
   obtain ⟨xs',h1,ys',h2,rfl⟩:=hc
   simp only [opA,OpRes.val.injEq] at h;obtain ⟨rfl,rfl⟩:=h
   simp only [a0y,k1H,i1y] at hf
   exact M0z hR hT ho h1 h2 hf.1 hf.2
  ·cases hc
 case makeSlice ty x y =>
  simp only [cOp,ho,i1o,i1i,i1q,i1l] at hc
  obtain ⟨e,h1,size,h2,z,h3,hc⟩:=hc
  split at hc
  ·rename_i hall
   simp only [i1i,i1l] at hc
   obtain ⟨by_,h4,x',h5,y',h6,rfl⟩:=hc
   simp only [a0y,j1o,i1y,k1I] at hf
   exact a1P hR hT hfl ho h1 h2 h4 h3 hall.1 hall.2 h5 h6 hf.1 hf.2.1 h
  ·cases hc
 case slice ty x lo hi mx =>
  simp only [cOp,ho,i1o,i1i,i1q,i1l] at hc
  obtain ⟨e,h1,size,h2,x',h3,lo',h4,hi',h5,mx',h6,rfl⟩:=hc
  simp only [a0y,k1H,i1y,j1o,k1I] at hf
  exact a1Q hR hT ho h1 h2 h3 h4 h5 h6 hf.1.1.1.1 hf.1.1.2 hf.1.2 hf.2 h
 case fieldAddr ty x i =>
  simp only [cOp,ho,i1o,i1i,i1q,i1l] at hc
  obtain ⟨fs,h1,f,h2,n,h3,hc⟩:=hc
  split at hc
  ·rename_i hn;subst hn
   split at hc
   ·rename_i hall
    simp only [i1i,i1l] at hc
    obtain ⟨x',h4,rfl⟩:=hc
    exact W0D hR hT ho h1 h2 h3 hall.1 hall.2.1 hall.2.2.1 hall.2.2.2 h4 (by simpa [a0y] using hf) h
   ·cases hc
  ·rename_i hn
   simp only [i1i,i1l] at hc
   obtain ⟨x',h4,rfl⟩:=hc
   exact a1N hR hT ho h1 h2 h3 hn h4 (by simpa [a0y] using hf) h
 case field ty x i =>
  simp only [cOp,ho,i1o,i1i,i1q,i1l] at hc
  obtain ⟨fs,h1,f,h2,b,h3,n,h4,x',h5,rfl⟩:=hc
  exact W0E hR hT ho h1 h2 h4 h3 h5 (by simpa [a0y] using hf) h
 case indexAddr ty x y =>
  simp only [cOp,ho,i1o,i1i,i1q,i1l] at hc
  obtain ⟨e,h1,n,h2,x',h3,y',h4,rfl⟩:=hc
  simp only [a0y,j1o,i1y,k1I] at hf
  exact a1O hR hT ho h1 h2 h3 h4 hf.1 hf.2.1 h
 case extract x i =>
  simp only [cOp,ho,i1o,i1i,i1q,i1l] at hc
  obtain ⟨x',h1,rfl⟩:=hc
  exact W0C hR hT ho h1 (by simpa [a0y] using hf) h
 case call c =>
  obtain ⟨callee,args,ats⟩:=c
  simp only [cOp,ho] at hc
  cases callee with
  | value f =>
   cases f with
   | func f =>
    simp only [] at hc
    split at hc
    ·simp only [i1o,i1i,i1q,i1l] at hc
     obtain ⟨x',h1,rfl⟩:=hc
     simp [opA] at h
    ·cases hc
   | _ =>
    simp only [i1o,i1i,i1q,i1l] at hc
    obtain ⟨x',h1,xs',h2,rfl⟩:=hc
    simp only [opA] at h
    split at h <;> cases h
  | invoke r name =>
   simp only [i1o,i1i,i1q,i1l] at hc
   obtain ⟨x',h1,xs',h2,rfl⟩:=hc
   simp only [opA] at h
   split at h
   ·split at h <;> cases h
   ·cases h
  | builtin b =>
   simp only [] at hc
   split at hc
   ·rename_i x t1 hargs hats
    simp only [i1o,i1i,i1q,i1l] at hc
    obtain ⟨e,h1,x',h2,rfl⟩:=hc
    exact W0F hR hT ho hargs hats h1 h2 (by simpa [a0y] using hf) h
   ·rename_i x t1 hargs hats
    simp only [i1o,i1i,i1q,i1l] at hc
    obtain ⟨e,h1,x',h2,rfl⟩:=hc
    exact W0A hR hT ho hargs hats h1 h2 (by simpa [a0y] using hf) h
   ·rename_i x ys _ hargs
    simp only [i1o,i1i,i1q,i1l] at hc
    obtain ⟨x',h1,ys',h2,rfl⟩:=hc
    simp only [a0y,j1o,i1y] at hf
    exact J0k hR hT ho rfl hargs h1 h2 hf.1 hf.2 h
   ·rename_i x ys _ hargs
    simp only [i1o,i1i,i1q,i1l] at hc
    obtain ⟨x',h1,ys',h2,rfl⟩:=hc
    simp only [a0y,j1o,i1y] at hf
    exact J0k hR hT ho rfl hargs h1 h2 hf.1 hf.2 h
   ·rename_i s x t1 u1 hargs hats
    simp only [i1o,i1i,i1q,i1l] at hc
    obtain ⟨e,h1,size,h2,z,h3,hc⟩:=hc
    split at hc
    ·rename_i hall
     obtain ⟨ha1,ha2,rfl⟩:=hall
     simp only [i1i,i1l] at hc
     obtain ⟨by_,h4,s',h5,x',h6,rfl⟩:=hc
     simp only [a0y,j1o,i1y,k1I] at hf
     exact W0x hR hT hfl ho rfl hargs hats h1 h2 h4 h3 ha1 ha2 h5 h6 hf.1 hf.2.1 h
    ·split at hc
     ·rename_i hall
      obtain ⟨ha1,ha2,ha3⟩:=hall
      simp only [i1i,i1l] at hc
      obtain ⟨by_,h4,s',h5,x',h6,rfl⟩:=hc
      simp only [a0y,j1o,i1y,k1I] at hf
      exact M0w hR hT hfl ho rfl hargs hats h1 h2 h4 h3 ha1 ha2 ha3 h5 h6 hf.1 hf.2.1 h
     ·cases hc
   ·cases hc
 case panic x =>
  simp only [cOp,ho,i1o,i1i,i1q,i1l] at hc
  obtain ⟨x',h1,rfl⟩:=hc
  simp only [opA] at h
  split at h <;> cases h
 all_goals (simp [cOp,ho] at hc)
theorem d0P {P:Program} {f:FuncId} (h:z0L P f=true) (args:Array Value) (w:World):(callFunc f args).run P w=.ok (.enter f args) w:=by
 unfold z0L at h
 cases hf:P.funcs[f]? with
 | none=>simp [hf] at h
 | some fn =>
  simp only [hf,i1y,k1e] at h
  obtain ⟨h1,h2⟩:=h
  cases hb:fn.body with
  | none=>simp [hb] at h2
  | some c=>simp [callFunc,hf,hb];simpa using h1
theorem o0D {α:Type} {k:Nat} {v:α}:∀ {l:List (Nat × α)},l.lookup k=some v→(k,v) ∈ l
 | [],h=>by simp at h
 | (k',v') :: r,h=>by
  rw [List.lookup_cons] at h
  split at h
  ·rename_i hk
   have:k=k':=by simpa using hk
   subst this
   simp only [i1l] at h
   subst h
   exact l1j
  ·exact k1r _ (o0D h)
def w0y:SOp→Bool
 | .call _ _ _ | .callv _ _ _ | .inv _ _ _ _=>true
 | _=>false
theorem m0n {f:FuncId} {args:List Value} {l:Bool} (h:opA fl t H so=.call f args l):w0y so=true:=by
 cases so <;> simp only [opA] at h <;> first
  | rfl
  | (simp at h;done)
  | (unfold b0C at h;split at h <;> cases h)
  | (unfold g0H at h;split at h <;> cases h)
  | (split at h <;> first | (cases h;done) | (split at h <;> first | (cases h;done) | (split at h <;> first | (cases h;done) | (unfold b0C at h;split at h <;> cases h))) | (unfold b0C at h;split at h <;> cases h))
theorem t0I (hc:cOp X.P lone o.op=some so) (hs:w0y so=true):∃ c,o.op=.call c:=by
 cases ho:o.op
 case call c=>exact ⟨c,rfl⟩
 all_goals
  exfalso
  cases so <;> simp only [w0y,i1H] at hs
  all_goals
   simp only [cOp,ho,k1k,i1o,i1i,i1q,i1l,reduceCtorEq,and_false,exists_const,exists_false] at hc
   try (repeat' (first | (simp only [i1i,i1l,reduceCtorEq,and_false,exists_const,exists_false] at hc;done) | (obtain ⟨_,_,hc⟩:=hc) | (split at hc)))
theorem B0A (hc:cOp X.P lone o.op=some so) (hf:(a0y so).all a0T=true) (hT:CR X φ w.shape? t a.tmps.toList) {f:FuncId} {args:List Value} {l:Bool} (h:opA fl t H so=.call f args l) :
  ∃ args':Array Value,CR X φ w.shape? args args'.toList∧(execOp a.eval o).run X.P w=(callFunc f args').run X.P w:=by
 cases ho:o.op
 case call c =>
  obtain ⟨callee,cargs,ats⟩:=c
  simp only [cOp,ho] at hc
  cases callee with
  | value g =>
   cases g with
   | func g =>
    simp only [] at hc
    split at hc
    ·simp only [i1o,i1i,i1q,i1l] at hc
     obtain ⟨xs',h1,rfl⟩:=hc
     simp only [opA,OpRes.call.injEq] at h
     obtain ⟨rfl,rfl,rfl⟩:=h
     refine ⟨cargs.map a.eval,by simpa using i0O hT h1 (by simpa [a0y] using hf),?_⟩
     simp [execOp,ho,resolve,Deferred.ofValue,Act.eval,invoke]
    ·cases hc
   | _ =>
    simp only [i1o,i1i,i1q,i1l] at hc
    obtain ⟨x',h1,xs',h2,rfl⟩:=hc
    simp only [a0y,j1o,i1y] at hf
    have hv:=b0D hT h1 hf.1
    have hvs:=i0O hT h2 hf.2
    simp only [opA] at h
    split at h
    ·rename_i g first captured e1
     simp only [OpRes.call.injEq] at h
     obtain ⟨rfl,rfl,rfl⟩:=h
     rw [e1] at hv
     generalize hg:a.eval _=gg at hv
     cases hv with
     | func _ _ _ f' c' k1 k2 k3 k4 =>
      have c1:CR X φ w.shape? first.toList f'.toList:=VR.agg_iff.1 (.agg _ _ k1 k2)
      have c2:CR X φ w.shape? captured.toList c'.toList:=VR.agg_iff.1 (.agg _ _ k3 k4)
      refine ⟨f' ++ cargs.map a.eval ++ c',by simpa using (c1.append hvs).append c2,?_⟩
      simp [execOp,ho,resolve,Deferred.ofValue,hg,invoke]
    ·cases h
  | invoke r name =>
   simp only [i1o,i1i,i1q,i1l] at hc
   obtain ⟨x',h1,xs',h2,rfl⟩:=hc
   simp only [a0y,j1o,i1y] at hf
   have hv:=b0D hT h1 hf.1
   have hvs:=i0O hT h2 hf.2
   simp only [opA] at h
   split at h
   ·rename_i ty v e1
    split at h
    ·rename_i g hlk
     simp only [OpRes.call.injEq] at h
     obtain ⟨rfl,rfl,rfl⟩:=h
     rw [e1] at hv
     generalize hg:a.eval r=gg at hv
     cases hv with
     | iface _ _ v' k1 =>
      refine ⟨#[v'] ++ cargs.map a.eval,by simpa using k1.cons_cr hvs,?_⟩
      -- the method is found, direct, of a value
      have hmem:(ty,g) ∈ u0b X.P name:=o0D hlk
      unfold u0b at hmem
      rw [List.mem_filterMap] at hmem
      obtain ⟨t0,ht0,hm⟩:=hmem
      have ht0:=j1r.1 ht0
      split at hm
      ·rename_i i hi
       split at hm
       ·rename_i m hfind
        split at hm
        ·rename_i g0 fs hfn hund
         split at hm
         ·rename_i hpr
          simp only [i1l,k1d] at hm
          obtain ⟨rfl,rfl⟩:=hm
          simp only [i1y] at hpr
          have hpath:m.path.toList=[]:=by simpa using hpr.1
          have hpos:∃ k,X.P.types.size + Made.depth=k + 1:=⟨X.P.types.size + Made.depth - 1,by omega⟩
          obtain ⟨k,hk⟩:=hpos
          have hmeth:(method (X.P.types.size + Made.depth) t0 v' name).run X.P w=.ok (g0,v') w:=by
           rw [hk,method]
           simp [typeInfo,hi,hfind,hpath,follow,hfn,receiverAt,run_underlying hund,Place.get]
          have hz:(#[Value.iface t0 v'] ++ cargs.map a.eval)[0]? = some (.iface t0 v'):=by simp [Array.getElem?_append]
          have hex:(#[Value.iface t0 v'] ++ cargs.map a.eval).extract 1 (#[Value.iface t0 v'] ++ cargs.map a.eval).size=cargs.map a.eval:=by
           apply Array.ext';simp [i1v]
          simp only [execOp,ho,resolve,Sem.run_bind,Sem.run_pure,Result.andThen_ok,hg,invoke,hz,hex,callMethod,run_program,hmeth]
         ·cases hm
        ·cases hm
       ·cases hm
      ·cases hm
    ·cases h
   ·cases h
  | builtin b =>
   simp only [] at hc
   split at hc
   ·simp only [i1o,i1i,i1q,i1l] at hc
    obtain ⟨e,h1,x',h2,rfl⟩:=hc
    simp only [opA] at h;split at h <;> cases h
   ·simp only [i1o,i1i,i1q,i1l] at hc
    obtain ⟨e,h1,x',h2,rfl⟩:=hc
    simp only [opA] at h;unfold b0C at h;split at h <;> cases h
   ·simp only [i1o,i1i,i1q,i1l] at hc
    obtain ⟨x',h1,ys',h2,rfl⟩:=hc
    simp only [opA] at h;unfold b0C at h;split at h <;> cases h
   ·simp only [i1o,i1i,i1q,i1l] at hc
    obtain ⟨x',h1,ys',h2,rfl⟩:=hc
    simp only [opA] at h;unfold b0C at h;split at h <;> cases h
   ·simp only [i1o,i1i,i1q,i1l] at hc
    obtain ⟨e,h1,size,h2,z,h3,hc⟩:=hc
    split at hc
    ·simp only [i1i,i1l] at hc
     obtain ⟨by_,h4,s',h5,x',h6,rfl⟩:=hc
     simp only [opA] at h;unfold g0H at h;split at h <;> cases h
    ·split at hc
     ·simp only [i1i,i1l] at hc
      obtain ⟨by_,h4,s',h5,x',h6,rfl⟩:=hc
      simp only [opA] at h;split at h <;> cases h
     ·cases hc
   ·cases hc
 all_goals
  obtain ⟨c,hcc⟩:=t0I hc (m0n h)
  rw [ho] at hcc;cases hcc
end
section
open Go
variable {H H' H1:a0e} {fl:Nat} {t:b0b} {so:SOp}
inductive Turn (fl:Nat) (ws:List Nat) (H:a0e):a0e→Prop
 | same:Turn fl ws H H
 | push (r:Blk):Turn fl ws H (H.push r)
 | set (b:Nat) (e:TypeId) (cs cs':List Value) (h:H.blk b=.row false e cs) (hb:b ∈ ws) (hf:fl≤b):Turn fl ws H (H.setIfInBounds b (.row false e cs'))
 | move (b:Nat) (e:TypeId) (cs:List Value) (r:Blk) (h:H.blk b=.row false e cs) (hb:b ∈ ws) (hf:fl≤b):Turn fl ws H ((H.setIfInBounds b .dead).push r)
theorem q0m {v:Value} (h:opA fl t H so=.val v H1):Turn fl (d0i t so).2 H H1:=by
 have opt:∀ {x:Option Value},b0C H x=.val v H1→Turn fl (d0i t so).2 H H1:=fun {x} hx=>by
  cases x with
  | none=>simp [b0C] at hx
  | some u=>simp [b0C] at hx;rw [← hx.2];exact .same
 cases so <;> simp only [opA] at h
 case mv=>simp at h;rw [← h.2];exact .same
 case pick=>split at h <;> simp at h <;> (rw [← h.2];exact .same)
 case alloc=>simp at h;rw [← h.2];exact .push _
 case box=>simp at h;rw [← h.2];exact .push _
 case build=>exact opt h
 case lit=>split at h <;> simp at h;rw [← h.2];exact .push _
 case load=>exact opt h
 case store n a x =>
  split at h
  ·rename_i p hp
   split at h
   ·cases h
   ·split at h
    ·rename_i H2 hw
     simp at h;rw [← h.2]
     unfold a0e.write? at hw
     split at hw
     ·rename_i e cs hk
      split at hw
      ·rename_i hc;cases hw
       exact .set _ _ _ _ hk (by simp [d0i,hp,blkOf]) hc.1
      ·cases hw
     ·cases hw
    ·cases h
  ·cases h
 case chk=>split at h <;> simp at h <;> (rw [← h.2];exact .same)
 case bin=>exact opt h
 case un=>exact opt h
 case conv=>split at h <;> simp at h;rw [← h.2];exact .same
 case iface=>simp at h;rw [← h.2];exact .same
 case mkfn=>simp at h;rw [← h.2];exact .same
 case mk =>
  split at h
  ·split at h <;> simp at h;rw [← h.2];exact .push _
  ·cases h
 case sl => split at h; · cases h
            ·exact opt h
 case fa => split at h
            ·split at h <;> simp at h;rw [← h.2];exact .same
            ·cases h
 case fa0 =>
  split at h
  ·split at h
   ·split at h <;> simp at h;rw [← h.2];exact .same
   ·cases h
  ·cases h
 case fld=>exact opt h
 case ia =>
  split at h
  ·split at h <;> simp at h;rw [← h.2];exact .same
  ·cases h
 case ext =>
  split at h
  ·exact opt h
  ·cases h
 case call=>cases h
 case callv=>split at h <;> cases h
 case inv =>
  split at h
  ·split at h <;> cases h
  ·cases h
 case len=>split at h <;> simp at h;rw [← h.2];exact .same
 case cap=>exact opt h
 case appz=>split at h <;> simp at h;rw [← h.2];exact .push _
 case mnx=>exact opt h
 case app e size bytes s x =>
  cases hap:i0x fl H e size bytes (ev t s) (ev t x) with
  | none=>simp [hap,g0H] at h
  | some r =>
   obtain ⟨rv,rH⟩:=r
   simp only [hap,g0H,OpRes.val.injEq] at h
   obtain ⟨rfl,rfl⟩:=h
   unfold i0x at hap
   split at hap
   ·rename_i base len cap xb n xc e1 e2
    split at hap
    ·cases hap;exact .same
    ·split at hap
     ·split at hap
      ·cases hap
      ·split at hap
       ·cases hap
       ·split at hap
        ·cases hap
        split at hap
        ·split at hap
         ·cases hap;exact .push _
         ·cases hap
        ·rename_i sp
         split at hap
         ·cases hap;exact .push _
         rename_i h00
         split at hap
         ·cases hap
         ·split at hap
          ·cases hap;exact .push _
          ·split at hap
           ·rename_i e' cs hk
            split at hap
            ·rename_i hc;cases hap
             exact .move _ _ _ _ hk (by simp only [d0i,e1,blkW];rw [i1k h00];simp) hc.2
            ·cases hap
           ·cases hap
     ·cases hap
   ·cases hap
 case pan=>split at h <;> cases h
structure f0Z (fl:Nat) (H H1:a0e):Prop where
 size:H.size≤H1.size
 low:∀ b,b < fl→H1.blk b=H.blk b
 kind:∀ b e cs,b < H.size→H1.blk b=.row false e cs→∃ cs0,H.blk b=.row false e cs0
 kindR:∀ b e cs,b < H.size→H1.blk b=.row true e cs→H.blk b=.row true e cs
theorem f0Z.refl:f0Z fl H H:=⟨i1j _,fun _ _=>rfl,fun _ _ cs _ h=>⟨cs,h⟩,fun _ _ _ _ h=>h⟩
theorem f0Z.trans {fl1:Nat} {H2:a0e} (h:f0Z fl H H1) (k:f0Z fl1 H1 H2) (hf:fl≤fl1):f0Z fl H H2 :=
 ⟨i1t h.size k.size,fun b hb=>(k.low b (by omega)).trans (h.low b hb),fun b e cs hb hk=>by
  obtain ⟨c1,h1⟩:=k.kind b e cs (i1C hb h.size) hk
  exact h.kind b e c1 hb h1,fun b e cs hb hk=>h.kindR b e cs hb (k.kindR b e cs (i1C hb h.size) hk)⟩
theorem Turn.keep {ws:List Nat} (hfl:fl≤H.size) (h:Turn fl ws H H1):f0Z fl H H1:=by
 cases h with
 | same=>exact f0Z.refl
 | push r=>exact ⟨by simp,fun b hb=>by rw [a0K,i1k (by omega)],fun b e cs hb hk=>by rw [a0K,i1k (by omega)] at hk;exact ⟨cs,hk⟩,fun b e cs hb hk=>by rw [a0K,i1k (by omega)] at hk;exact hk⟩
 | set b e cs cs' h hb hf =>
  have hl:=a0i h
  exact ⟨by simp,fun c hc=>by rw [a0Z _ _ _ _ hl,i1k (by omega)],fun c e1 cs1 hc hk=>by
   rw [a0Z _ _ _ _ hl] at hk
   split at hk
   ·rename_i hcb;subst hcb;cases hk;exact ⟨cs,h⟩
   ·exact ⟨cs1,hk⟩,fun c e1 cs1 hc hk=>by
   rw [a0Z _ _ _ _ hl] at hk
   split at hk
   ·cases hk
   ·exact hk⟩
 | move b e cs r h hb hf =>
  have hl:=a0i h
  exact ⟨by simp,fun c hc=>by rw [a0K,i1k (by simp;omega),a0Z _ _ _ _ hl,i1k (by omega)],fun c e1 cs1 hc hk=>by
   rw [a0K,i1k (by simp;omega),a0Z _ _ _ _ hl] at hk
   split at hk
   ·cases hk
   ·exact ⟨cs1,hk⟩,fun c e1 cs1 hc hk=>by
   rw [a0K,i1k (by simp;omega),a0Z _ _ _ _ hl] at hk
   split at hk
   ·cases hk
   ·exact hk⟩
theorem Turn.changed {ws:List Nat} (h:Turn fl ws H H1) {b:Nat} (hb:b < H.size) (hne:H1.blk b ≠ H.blk b):b ∈ ws:=by
 cases h with
 | same=>exact i1A rfl hne
 | push r=>rw [a0K,i1k (by omega)] at hne;exact i1A rfl hne
 | set c e cs cs' h hc hf =>
  by_cases hcb:b=c
  ·subst hcb;exact hc
  ·rw [a0Z _ _ _ _ (a0i h),i1k hcb] at hne;exact i1A rfl hne
 | move c e cs r h hc hf =>
  by_cases hcb:b=c
  ·subst hcb;exact hc
  ·rw [a0K,i1k (by simp;omega),a0Z _ _ _ _ (a0i h),i1k hcb] at hne;exact i1A rfl hne
def h0M (call:Nat→FuncId→List Value→a0e→Res (Value × a0e)):Prop :=
 ∀ fl f args H v H1,call fl f args H=.ok (v,H1)→fl≤H.size→f0Z fl H H1
section
variable {call:Nat→FuncId→List Value→a0e→Res (Value × a0e)} (hcall:h0M call)
include hcall
theorem k0A {v:Value} (hfl:fl≤H.size) (h:b0z call fl t H so=.ok (v,H1)):f0Z fl H H1:=by
 unfold b0z at h
 split at h
 ·cases h
 ·cases h
 ·rename_i v' H2 hv
  simp at h;obtain ⟨rfl,rfl⟩:=h
  exact (q0m hv).keep hfl
 ·rename_i f args lone hc
  have hk:=hcall _ _ _ _ _ _ h (by split <;> omega)
  exact ⟨hk.size,fun b hb=>hk.low b (by split <;> omega),hk.kind,hk.kindR⟩
theorem n0k:∀ (ops:List a0I) (t:b0b) (H:a0e),fl≤H.size→∀ {e t1 H1},f0l call fl ops t H=.fin e t1 H1→f0Z fl H H1∧e=.normal
 | [],t,H,_,e,t1,H1,h=>by simp [f0l] at h;obtain ⟨rfl,rfl,rfl⟩:=h;exact ⟨f0Z.refl,rfl⟩
 | o :: r,t,H,hfl,e,t1,H1,h=>by
  simp only [f0l] at h
  split at h
  ·split at h
   ·cases h
   ·cases h
   ·rename_i v H2 hs
    have k:=k0A hcall hfl hs
    obtain ⟨k2,he⟩:=n0k r _ H2 (i1t hfl k.size) h
    exact ⟨k.trans k2 (i1j _),he⟩
  ·exact n0k r _ H hfl h
theorem f0M (bef:List Nat) (pairs:List (Nat × Nat)):∀ (ops:List a0I) (i:Nat) (t:b0b) (H:a0e) (p:Option (Nat × Value)) (log:List (List Nat × List Nat)),fl≤H.size →
  ∀ {e t1 H1},b0S call fl bef pairs i ops t H p log=.fin e t1 H1→f0Z fl H H1∧e=.normal
 | [],i,t,H,p,log,_,e,t1,H1,h=>by
  simp only [b0S] at h
  split at h
  ·split at h
   ·cases h;exact ⟨f0Z.refl,rfl⟩
   ·cases h
  ·cases h
 | o :: r,i,t,H,p,log,hfl,e,t1,H1,h=>by
  simp only [b0S] at h
  split at h
  ·exact f0M bef pairs r _ _ H _ _ hfl h
  ·split at h
   ·split at h
    ·cases h
    ·split at h
     ·exact f0M bef pairs r _ _ H _ _ hfl h
     ·cases h
    ·rename_i v H2 hs
     have k:=k0A hcall hfl hs
     obtain ⟨k2,he⟩:=f0M bef pairs r _ _ H2 _ _ (i1t hfl k.size) h
     exact ⟨k.trans k2 (i1j _),he⟩
   ·exact f0M bef pairs r _ _ H _ _ hfl h
theorem c0m:∀ (n:Nat) (c:SCode) (t:b0b) (H:a0e),fl≤H.size→∀ {e t1 H1},b0f call fl n c t H=.fin e t1 H1→f0Z fl H H1
 | 0,_,_,_,_,_,_,_,h=>by simp [b0f] at h
 | n + 1,c,t,H,hfl,e,t1,H1,h=>by
  cases c <;> simp only [b0f] at h
  case skip=>cases h;exact f0Z.refl
  case exit=>cases h;exact f0Z.refl
  case ret=>cases h;exact f0Z.refl
  case seq a b =>
   split at h
   ·rename_i t2 H2 ha
    have k:=c0m n a t H hfl ha
    exact k.trans (c0m n b t2 H2 (i1t hfl k.size) h) (i1j _)
   ·exact c0m n a t H hfl h
  case cond c a b =>
   split at h
   ·exact c0m n a t H hfl h
   ·exact c0m n b t H hfl h
   ·cases h
  case block id c =>
   split at h
   ·rename_i id' t2 H2 hc
    have k:=c0m n c t H hfl hc
    split at h <;> (cases h;exact k)
   ·exact c0m n c t H hfl h
  case loop c =>
   split at h
   ·rename_i t2 H2 hc
    have k:=c0m n c t H hfl hc
    exact k.trans (c0m n (.loop c) t2 H2 (i1t hfl k.size) h) (i1j _)
   ·exact c0m n c t H hfl h
  case reg ops=>exact (n0k hcall ops t H hfl h).1
  case draw ops bef pairs=>exact (f0M hcall bef pairs ops 0 t H none [] hfl h).1
end
theorem h0P (E:Env):∀ n,h0M (b0p E n)
 | 0=>fun _ _ _ _ _ _ h=>by simp [b0p] at h
 | n + 1=>fun fl f args H v H1 h hfl=>by
  simp only [b0p] at h
  split at h
  ·split at h
   ·simp at h;obtain ⟨_,rfl⟩:=h;exact f0Z.refl
   split at h
   ·split at h
    ·split at h
     ·rename_i q hq hfq p s
      split at h
      case isFalse=>cases h
      unfold d0Z at h
      split at h
      ·cases h
      ·simp at h;obtain ⟨_,rfl⟩:=h;exact f0Z.refl
      ·cases h
      ·rename_i vs H2 hc
       split at h
       ·split at h
        case isFalse=>cases h
        simp at h;obtain ⟨_,rfl⟩:=h
        have k:=h0P E n _ _ _ _ _ _ hc (by omega)
        exact ⟨k.size,fun b hb=>k.low b (by omega),k.kind,k.kindR⟩
       ·cases h
      ·cases h
     ·cases h
    ·cases h
   ·cases h
  ·split at h
   ·split at h
    ·cases h
    ·cases h
    ·rename_i e t1 H2 hx
     have k:=c0m (h0P E n) n _ _ H hfl hx
     split at h
     ·cases h
     ·split at h
      ·simp at h;obtain ⟨_,rfl⟩:=h;exact k
      ·cases h
   ·cases h
end
section
open Go
variable {H H' H1 G G1:a0e} {fl:Nat} {t:b0b} {so:SOp}
structure Par (H H1 G G1:a0e):Prop where
 size:G1.size=H1.size
 same:∀ b,b < H.size→H1.blk b=H.blk b→G1.blk b=G.blk b
 diff:∀ b,b < H.size→H1.blk b ≠ H.blk b→G1.blk b=H1.blk b
 more:∀ b,H.size≤b→G1.blk b=H1.blk b
theorem i0y {H:a0e} {b:Nat} (h:H.size≤b):H.blk b=.dead:=by
 simp only [a0e.blk,i1u]
 rw [k1j h];rfl
theorem Par.refl (hs:G.size=H.size):Par H H G G :=
 ⟨hs,fun _ _ _=>rfl,fun _ _ h=>i1A rfl h,fun b hb=>by rw [i0y hb,i0y (by omega)]⟩
theorem Par.push (hs:G.size=H.size) (r:Blk):Par H (H.push r) G (G.push r) :=
 ⟨by simp [hs],fun b hb _=>by rw [a0K,i1k (by omega)],fun b hb h=>by rw [a0K,i1k (by omega)] at h;exact i1A rfl h,fun b hb=>by
  rw [a0K,a0K,hs]
  split
  ·rfl
  ·rw [i0y (show G.size≤b by omega),i0y hb]⟩
theorem Par.set (hs:G.size=H.size) {c:Nat} (hc:c < H.size) (hk:G.blk c=H.blk c) (r:Blk):Par H (H.setIfInBounds c r) G (G.setIfInBounds c r) :=
 ⟨by simp [hs],fun b hb h=>by
  rw [a0Z _ _ _ _ hc] at h;rw [a0Z _ _ _ _ (by omega)]
  split at h
  ·rename_i hbc;subst hbc;rw [i1n rfl,h,hk]
  ·rename_i hbc;rw [i1k hbc],fun b hb h=>by
  rw [a0Z _ _ _ _ hc] at h ⊢;rw [a0Z _ _ _ _ (by omega)]
  split at h
  ·rename_i hbc;rw [i1n hbc,i1n hbc]
  ·exact i1A rfl h,fun b hb=>by
  rw [a0Z _ _ _ _ hc,a0Z _ _ _ _ (by omega),i1k (by omega),i1k (by omega),i0y hb,i0y (by omega)]⟩
theorem Par.move (hs:G.size=H.size) {c:Nat} (hc:c < H.size) (hk:G.blk c=H.blk c) (r s:Blk):Par H ((H.setIfInBounds c r).push s) G ((G.setIfInBounds c r).push s):=by
 have p:=Par.set hs hc hk r
 have sz1:(H.setIfInBounds c r).size=H.size:=by simp
 have sz2:(G.setIfInBounds c r).size=G.size:=by simp
 refine ⟨by simp [hs],fun b hb h=>?_,fun b hb h=>?_,fun b hb=>?_⟩
 ·rw [a0K,i1k (by omega)] at h ⊢;exact p.same b hb h
 ·rw [a0K,i1k (by omega)] at h ⊢;rw [a0K,i1k (by omega)];exact p.diff b hb h
 ·rw [a0K,a0K,sz1,sz2,hs]
  split
  ·rfl
  ·exact p.more b hb
theorem i0M {b off n:Nat} (h:G.blk b=H.blk b):G.cells? b off n=H.cells? b off n:=by unfold a0e.cells?;rw [h]
theorem B0z {v:Value} (h:opA fl t H so=.val v H1) (hs:G.size=H.size) (hfp:∀ b,b ∈ (d0i t so).1 ∨ b ∈ (d0i t so).2→G.blk b=H.blk b) :
  ∃ G1,opA fl t G so=.val v G1∧Par H H1 G G1:=by
 have opt:∀ {x y:Option Value},b0C H x=.val v H1→y=x→∃ G1,b0C G y=.val v G1∧Par H H1 G G1:=fun {x y} hx hxy=>by
  subst hxy
  cases y with
  | none=>simp [b0C] at hx
  | some u=>simp [b0C] at hx;obtain ⟨rfl,rfl⟩:=hx;exact ⟨G,rfl,Par.refl hs⟩
 cases so <;> simp only [opA] at h ⊢
 case mv=>simp at h;obtain ⟨rfl,rfl⟩:=h;exact ⟨G,rfl,Par.refl hs⟩
 case pick=>split at h <;> simp at h <;> (obtain ⟨rfl,rfl⟩:=h;exact ⟨G,rfl,Par.refl hs⟩)
 case alloc=>simp at h;obtain ⟨rfl,rfl⟩:=h;rw [hs];exact ⟨_,rfl,Par.push hs _⟩
 case box=>simp at h;obtain ⟨rfl,rfl⟩:=h;rw [hs];exact ⟨_,rfl,Par.push hs _⟩
 case build=>exact opt h rfl
 case lit=>split at h <;> simp at h;obtain ⟨rfl,rfl⟩:=h;rw [hs];exact ⟨_,rfl,Par.push hs _⟩
 case load agg n a =>
  refine opt h ?_
  unfold b0r
  split
  ·rename_i p hp
   have hb:G.blk p.block=H.blk p.block:=hfp _ (.inl (by simp [d0i,hp,blkOf]))
   rw [i0M hb]
  ·rfl
 case store n a x =>
  split at h
  ·rename_i p hp
   have hb:G.blk p.block=H.blk p.block:=hfp _ (.inr (by simp [d0i,hp,blkOf]))
   split at h
   ·cases h
   ·rename_i hc
    rw [i1k hc]
    split at h
    ·rename_i H2 hw
     simp at h;obtain ⟨rfl,rfl⟩:=h
     unfold a0e.write? at hw ⊢
     rw [hb]
     split at hw
     ·rename_i e cs hk
      split at hw
      ·rename_i hc2;cases hw
       rw [i1n hc2]
       exact ⟨_,rfl,Par.set hs (a0i hk) hb _⟩
      ·cases hw
     ·cases hw
    ·cases h
  ·cases h
 case chk=>split at h <;> simp at h <;> (obtain ⟨rfl,rfl⟩:=h;exact ⟨G,rfl,Par.refl hs⟩)
 case bin=>exact opt h rfl
 case un=>exact opt h rfl
 case conv=>split at h <;> simp at h;obtain ⟨rfl,rfl⟩:=h;exact ⟨G,rfl,Par.refl hs⟩
 case iface=>simp at h;obtain ⟨rfl,rfl⟩:=h;exact ⟨G,rfl,Par.refl hs⟩
 case mkfn=>simp at h;obtain ⟨rfl,rfl⟩:=h;exact ⟨G,rfl,Par.refl hs⟩
 case mk =>
  split at h
  ·split at h
   ·rename_i hc;simp at h;obtain ⟨rfl,rfl⟩:=h;rw [i1n hc,hs];exact ⟨_,rfl,Par.push hs _⟩
   ·cases h
  ·cases h
 case sl e size x lo hi mx =>
  have he:elemOk G e (ev t x)=elemOk H e (ev t x):=by
   unfold elemOk
   split
   ·rename_i p _ _ hp
    have hb:G.blk p.block=H.blk p.block:=hfp _ (.inl (by simp [d0i,hp,blkOf]))
    rw [hb]
   ·rfl
  rw [he]
  split at h
  ·cases h
  ·rename_i hc;rw [i1k hc];exact opt h rfl
 case fa =>
  split at h
  ·split at h
   ·cases h
   ·rename_i hc;simp at h;obtain ⟨rfl,rfl⟩:=h;rw [i1k hc];exact ⟨G,rfl,Par.refl hs⟩
  ·cases h
 case fa0 e x =>
  split at h
  ·rename_i p hp
   have hb:G.blk p.block=H.blk p.block:=hfp _ (.inl (by simp [d0i,hp,blkOf]))
   rw [hb]
   split at h
   ·split at h
    ·rename_i hc;simp at h;obtain ⟨rfl,rfl⟩:=h;rw [i1n hc];exact ⟨G,rfl,Par.refl hs⟩
    ·cases h
   ·cases h
  ·cases h
 case fld=>exact opt h rfl
 case ia =>
  split at h
  ·split at h
   ·rename_i hc;simp at h;obtain ⟨rfl,rfl⟩:=h;rw [i1n hc];exact ⟨G,rfl,Par.refl hs⟩
   ·cases h
  ·cases h
 case ext =>
  split at h
  ·exact opt h rfl
  ·cases h
 case call=>cases h
 case callv=>split at h <;> cases h
 case inv =>
  split at h
  ·split at h <;> cases h
  ·cases h
 case len=>split at h <;> simp at h;obtain ⟨rfl,rfl⟩:=h;exact ⟨G,rfl,Par.refl hs⟩
 case cap=>exact opt h rfl
 case appz=>split at h <;> simp at h;obtain ⟨rfl,rfl⟩:=h;rw [hs];exact ⟨_,rfl,Par.push hs _⟩
 case mnx=>exact opt h rfl
 case app e size bytes s x =>
  cases hap:i0x fl H e size bytes (ev t s) (ev t x) with
  | none=>simp [hap,g0H] at h
  | some r =>
   obtain ⟨rv,rH⟩:=r
   simp only [hap,g0H,OpRes.val.injEq] at h
   obtain ⟨rfl,rfl⟩:=h
   unfold i0x at hap ⊢
   split at hap
   ·rename_i base len cap xb n xc e1 e2
    split at hap
    ·rename_i hn;cases hap;rw [i1n hn];exact ⟨G,rfl,Par.refl hs⟩
    ·rename_i hn;rw [i1k hn]
     split at hap
     ·rename_i hbd;rw [i1n hbd]
      split at hap
      ·cases hap
      ·rename_i xp
       have hbx:G.blk xp.block=H.blk xp.block:=hfp _ (.inl (by simp [d0i,e2,blkOf]))
       simp only [i0M hbx]
       split at hap
       ·cases hap
       ·rename_i new hnew
        try simp only []
        split at hap
        ·cases hap
        rename_i hpl;rw [i1k hpl]
        split at hap
        ·split at hap
         ·rename_i hz;cases hap;rw [i1n hz,hs];exact ⟨_,rfl,Par.push hs _⟩
         ·cases hap
        ·rename_i sp
         split at hap
         ·rename_i h00;cases hap;rw [i1n h00,hs];exact ⟨_,rfl,Par.push hs _⟩
         rename_i h00;rw [i1k h00]
         have hbs:G.blk sp.block=H.blk sp.block:=hfp _ (.inr (by simp only [d0i,e1,blkW];rw [i1k h00];simp))
         simp only [i0M hbs]
         split at hap
         ·cases hap
         ·rename_i old hold
          try simp only []
          split at hap
          ·rename_i hc;cases hap;rw [i1n hc,hs];exact ⟨_,rfl,Par.push hs _⟩
          ·rename_i hc;rw [i1k hc,hbs]
           split at hap
           ·rename_i e' cs hk
            try simp only []
            split at hap
            ·rename_i hc2;cases hap;rw [i1n hc2,hs];exact ⟨_,rfl,Par.move hs (a0i hk) hbs _ _⟩
            ·cases hap
           ·cases hap
     ·cases hap
   ·cases hap
 case pan=>split at h <;> cases h
theorem i0B {f:FuncId} {args:List Value} {l:Bool} (h:opA fl t H so=.call f args l):∀ fl G,opA fl t G so=.call f args l:=by
 intro fl' G
 cases so <;> simp only [opA] at h ⊢
 case call=>simpa using h
 case callv=>split at h <;> simp_all
 case inv =>
  split at h
  ·split at h <;> simp_all
  ·cases h
 case ext=>split at h;(unfold b0C at h;split at h <;> cases h);cases h
 case app=>unfold g0H at h;split at h <;> cases h
 case store=>split at h;(split at h;cases h;(split at h <;> cases h));cases h
 case fa0=>split at h;(split at h;(split at h <;> cases h);cases h);cases h
 case sl=>split at h;cases h;(unfold b0C at h;split at h <;> cases h)
 all_goals first
  | (simp at h;done)
  | (unfold b0C at h;split at h <;> cases h)
  | (split at h <;> first | (cases h;done) | (split at h <;> cases h))
theorem g0m {v:Value} (h:opA fl t H so=.pan v):(∃ ty u,v=.iface ty u)∧∃ x,so=.pan x∧ev t x=v:=by
 cases so <;> simp only [opA] at h
 case pan x=>split at h <;> cases h;rename_i ty u hx;exact ⟨⟨_,_,rfl⟩,x,rfl,hx⟩
 case call=>cases h
 case callv=>split at h <;> cases h
 case inv =>
  split at h
  ·split at h <;> cases h
  ·cases h
 case ext=>split at h;(unfold b0C at h;split at h <;> cases h);cases h
 case app=>unfold g0H at h;split at h <;> cases h
 case store=>split at h;(split at h;cases h;(split at h <;> cases h));cases h
 case fa0=>split at h;(split at h;(split at h <;> cases h);cases h);cases h
 case sl=>split at h;cases h;(unfold b0C at h;split at h <;> cases h)
 all_goals first
  | (simp at h;done)
  | (unfold b0C at h;split at h <;> cases h)
  | (split at h <;> first | (cases h;done) | (split at h <;> cases h))
end
section
open Go
variable {X:Cx} {φ φ':Inj} {S:Shp} {H H':a0e} {w w':World} {fl:Nat} {t:b0b} {a:Act} {o:Oper} {so:SOp} {lone:Bool}
structure Pan (X:Cx) (fl:Nat) (φ:Inj) (H:a0e) (w:World) (w':World):Prop where
 shp:∀ B x,w.shape? B=some x→w'.shape? B=some x
 wsz:w.heap.size≤w'.heap.size
 os:w'.os=w.os
 tape:w'.tape=w.tape
 out:w'.output=w.output
 frame:∀ B,B < w.heap.size→(∀ b o e cs,φ b=some (B,o)→fl≤b→H.blk b ≠ .row false e cs)→w'.heap[B]? = w.heap[B]?
theorem Pan.after {fl1:Nat} {φ1:Inj} {H1:a0e} {w1 w2:World} (h:d0s X fl φ H w φ1 H1 w1) (k:Pan X fl1 φ1 H1 w1 w2) (hf:fl≤fl1) (hr:Rel X φ H w):Pan X fl φ H w w2 :=
 { shp := fun B x hb => k.shp _ _ (h.shp _ _ hb)
   wsz:=i1t h.wsz k.wsz
   os:=k.os.trans h.os
   tape:=k.tape.trans h.tape
   out:=k.out.trans h.out
   frame:=fun B hB hno=>by
    rw [k.frame B (i1C hB h.wsz) ?_,h.frame B hB hno]
    intro b o e cs hb hfl hrow
    cases h1:φ b with
    | none =>
     rcases h.newB b B o hb h1 with h2 | ⟨b0,o0,e0,cs0,h2,h3,h4⟩
     ·omega
     ·exact hno b0 o0 e0 cs0 h2 h3 h4
    | some y =>
     have:=h.ext b y h1
     rw [hb] at this;cases this
     obtain ⟨cs0,h6⟩:=h.kind b e cs (hr.lt b _ h1) hrow
     exact hno b o e cs0 h1 (by omega) h6 }
theorem d0s.lower {fl1:Nat} (h:d0s X fl1 φ H w φ' H' w') (hf:fl≤fl1):d0s X fl φ H w φ' H' w' :=
 { h with
   keep:=fun b hb=>h.keep b (by omega)
   newB:=fun b B o hb hn=>by
    rcases h.newB b B o hb hn with h1 | ⟨b0,o0,e,cs,h1,h2,h3⟩
    ·exact .inl h1
    ·exact .inr ⟨b0,o0,e,cs,h1,by omega,h3⟩
   frame:=fun B hB hno=>h.frame B hB (fun b o e cs hb hfl=>hno b o e cs hb (by omega)) }
theorem Pan.lower {fl1:Nat} (h:Pan X fl1 φ H w w') (hf:fl≤fl1):Pan X fl φ H w w' :=
 { h with frame:=fun B hB hno=>h.frame B hB (fun b o e cs hb hfl=>hno b o e cs hb (by omega)) }
theorem Pan.same:Pan X fl φ H w w:=⟨fun _ _ h=>h,i1j _,rfl,rfl,rfl,fun _ _ _=>rfl⟩
def e1h:XA→Exit
 | .normal=>.normal
 | .exit id=>.exit id
 | .ret=>.ret
def J0B (X:Cx) (D:List Deferred) (fl:Nat) (φ:Inj) (H:a0e) (w:World):Out→Exit→Act→World→Prop
 | .bad,_,_,_=>False
 | .pan _,e,a',w'=>(∃ ty u,e=.panic [{ v:=.iface ty u,recovered:=false }])∧a'.defers=D∧Pan X fl φ H w w'
 | .fin x t' H',e,a',w'=>e=e1h x∧a'.defers=D∧∃ φ',CR X φ' w'.shape? t' a'.tmps.toList∧d0s X fl φ H w φ' H' w'
theorem J0B.after {D:List Deferred} {φ1:Inj} {H1:a0e} {w1 w2:World} {out:Out} {e:Exit} {a':Act} (h:d0s X fl φ H w φ1 H1 w1) (hr:Rel X φ H w) (k:J0B X D fl φ1 H1 w1 out e a' w2):J0B X D fl φ H w out e a' w2:=by
 cases out with
 | bad=>exact k
 | pan v=>exact ⟨k.1,k.2.1,Pan.after h k.2.2 (i1j _) hr⟩
 | fin x t' H' =>
  obtain ⟨h1,h2,φ',h3,h4⟩:=k
  exact ⟨h1,h2,φ',h3,h.trans h4 (i1j _) hr⟩
def e0g (X:Cx) (call:Nat→FuncId→List Value→a0e→Res (Value × a0e)):Prop :=
 ∀ (fl:Nat) (f:FuncId) (args:List Value) (H:a0e) (φ:Inj) (w:World) (args':Array Value),Rel X φ H w→CR X φ w.shape? args args'.toList→fl≤H.size →
  (∀ v H',call fl f args H=.ok (v,H')→z0L X.P f=true∧Calls X.P f args' w fun e w'=>∃ v' φ',e=.returned v'∧VR X φ' w'.shape? v v'∧d0s X fl φ H w φ' H' w') ∧
  (∀ v,call fl f args H=.pan v→(∃ ty u,v=.iface ty u)∧z0L X.P f=true ∧
   Calls X.P f args' w fun e w'=>(∃ ty u,e=.panicked [{ v:=.iface ty u,recovered:=false }])∧Pan X fl φ H w w')
section
variable {call:Nat→FuncId→List Value→a0e→Res (Value × a0e)}
theorem y0s {P:Program} {op:Op} {x:Opd} (hc:cOp P lone op=some (.pan x)):∃ x0,op=.panic x0∧c0q x0=some x:=by
 cases op
 case panic x0 =>
  simp only [cOp,i1o,i1i,i1q,i1l,SOp.pan.injEq] at hc
  obtain ⟨x',h1,rfl⟩:=hc
  exact ⟨x0,rfl,h1⟩
 case call c =>
  exfalso
  obtain ⟨callee,args,ats⟩:=c
  cases callee with
  | value f=>cases f <;> simp only [cOp] at hc <;> (try split at hc) <;> simp [i1i] at hc
  | invoke r n=>simp [cOp,i1i] at hc
  | builtin b =>
   simp only [cOp] at hc
   split at hc
   ·simp [i1i] at hc
   ·simp [i1i] at hc
   ·simp [i1i] at hc
   ·simp [i1i] at hc
   ·simp only [i1o,i1i] at hc
    obtain ⟨_,_,_,_,_,_,hc⟩:=hc
    split at hc
    ·simp [i1i] at hc
    ·split at hc
     ·simp [i1i] at hc
     ·cases hc
   ·cases hc
 all_goals
  exfalso
  simp only [cOp,k1k,i1o,i1i,i1q,i1l,reduceCtorEq,and_false,exists_const,exists_false] at hc
  try (repeat' (first | (simp only [i1i,i1l,reduceCtorEq,and_false,exists_const,exists_false] at hc;done) | (obtain ⟨_,_,hc⟩:=hc) | (split at hc)))
theorem v0P {P:Program} {K K':Act→World→Prop} {Q Q':Exit→Act→World→Prop} (hk:∀ a w,K a w→K' a w) (hq:∀ e a w,Q e a w→Q' e a w) (h:o.wp P a w K Q):o.wp P a w K' Q':=by
 unfold Oper.wp at *
 generalize (execOp a.eval o).run P w=r at *
 cases r with
 | ok n w' =>
  cases n <;> simp only [Oper.upon] at h ⊢ <;>
   first
    | exact hk _ _ h
    | exact Calls.mono h (fun e w'' he=>by cases e <;> first | exact hk _ _ he | exact hq _ _ _ he | (obtain ⟨a1,w1,h1⟩:=he;exact ⟨a1,w1,hq _ _ _ h1⟩))
    | exact Rows.mono h (fun _ _ he=>hk _ _ he)
 | halt x w'=>cases x <;> simp only [Oper.upon] at h ⊢ <;> exact hq _ _ _ h
theorem LetsOut.mono {Q Q':Exit→Act→World→Prop} (hq:∀ e a w,Q e a w→Q' e a w) (h:LetsOut Q):LetsOut Q':=by
 obtain ⟨a1,w1,h1⟩:=h;exact ⟨a1,w1,hq _ _ _ h1⟩
theorem d0j {P:Program} {ops:Array Oper} {Q Q':Exit→Act→World→Prop} (hq:∀ e a w,Q e a w→Q' e a w):∀ {l:List Nat} {a:Act} {w:World},wpOps P ops Q l a w→wpOps P ops Q' l a w
 | [],_,_,h=>hq _ _ _ h
 | i :: r,a,w,h=>by
  unfold wpOps at h ⊢
  split at h
  ·exact d0j hq h
  ·split at h
   ·rename_i hw
    rw [i1n hw]
    rcases h with h | ⟨h1,h2⟩
    ·exact .inl (v0P (fun _ _ h=>d0j hq h) hq h)
    ·exact .inr ⟨h1,LetsOut.mono hq h2⟩
   ·rename_i hw
    rw [i1k hw]
    exact d0j hq h
theorem l0B (hcall:e0g X call) (hc:cOp X.P lone o.op=some so) (hf:(a0y so).all a0T=true) (hR:Rel X φ H w) (hT:CR X φ w.shape? t a.tmps.toList) (hfl:fl≤H.size)
  {v:Value} (h:b0z call fl t H so=.ok (v,H')) {K:Act→World→Prop} {Q:Exit→Act→World→Prop} (a2:Act) (he:execOp a2.eval o=execOp a.eval o)
  (hK:∀ φ' v' w',VR X φ' w'.shape? v v'→d0s X fl φ H w φ' H' w'→K (a2.put o.dst v') w'):o.wp X.P a2 w K Q:=by
 unfold b0z at h
 unfold Oper.wp
 rw [he]
 split at h
 ·cases h
 ·cases h
 ·rename_i v1 H1 hv
  simp only [Res.ok.injEq,k1d] at h;obtain ⟨rfl,rfl⟩:=h
  obtain ⟨φ',w',v',hr,hvr,hst⟩:=Z0H hc hf hR hT hfl hv
  rcases hr with hr | ⟨rfl,hr⟩
  ·rw [hr];exact hK φ' v' w' hvr hst
  ·rw [hr];exact hK φ' _ w' hvr hst
 ·rename_i f args l hv
  obtain ⟨args',hca,hrun⟩:=B0A hc hf hT hv
  obtain ⟨hruns,hcalls⟩:=(hcall _ f args H φ w args' hR hca (show (if l=true then fl else max fl H.size)≤H.size by split <;> omega)).1 v H' h
  rw [hrun,d0P hruns]
  refine Calls.mono hcalls ?_
  rintro e w' ⟨v',φ',rfl,hvr,hst⟩
  exact hK φ' v' w' hvr (hst.lower (by split <;> omega))
theorem t0q (hcall:e0g X call) (hc:cOp X.P lone o.op=some so) (hf:(a0y so).all a0T=true) (hR:Rel X φ H w) (hT:CR X φ w.shape? t a.tmps.toList) (hfl:fl≤H.size)
  {v:Value} (h:b0z call fl t H so=.pan v) {K:Act→World→Prop} {Q:Exit→Act→World→Prop} (a2:Act) (he:execOp a2.eval o=execOp a.eval o)
  (hQ:∀ ty u w',Pan X fl φ H w w'→Q (.panic [{ v:=.iface ty u,recovered:=false }]) a2 w'):o.wp X.P a2 w K Q:=by
 unfold b0z at h
 unfold Oper.wp
 rw [he]
 split at h
 ·cases h
 ·rename_i v1 hv
  obtain ⟨⟨ty,u,rfl⟩,x,rfl,hx⟩:=g0m hv
  obtain ⟨x0,ho,h1⟩:=y0s hc
  have hv:=b0D hT h1 (by simpa [a0y] using hf)
  rw [hx] at hv
  generalize hg:a.eval x0=g at hv
  cases hv with
  | iface _ _ u' hu =>
   have:(execOp a.eval o).run X.P w=.halt (.panic (.iface ty u')) w:=by simp [execOp,ho,hg,Instr.panic,goPanic]
   rw [this]
   exact hQ ty u' w Pan.same
 ·cases h
 ·rename_i f args l hv
  obtain ⟨args',hca,hrun⟩:=B0A hc hf hT hv
  obtain ⟨_,hruns,hcalls⟩:=(hcall _ f args H φ w args' hR hca (show (if l=true then fl else max fl H.size)≤H.size by split <;> omega)).2 v h
  rw [hrun,d0P hruns]
  refine Calls.mono hcalls ?_
  rintro e w' ⟨⟨ty,u,rfl⟩,hp⟩
  exact hQ ty u w' (hp.lower (by split <;> omega))
theorem n0y {ops:Array Oper} {sop:a0I} (hc:g0N X.P ops lone o=some sop) (hT:∀ d want,sop.g=some (d,want)→VR X φ S (get t d) (a.tmps.getD d undef)):Region.wanted o (yielded ops a.tmps)=b0j t sop.g:=by
 unfold g0N at hc
 simp only [i1o,i1i] at hc
 obtain ⟨op,_,hc⟩:=hc
 split at hc
 ·split at hc
  ·rename_i hg
   simp only [i1q,i1l] at hc;subst hc
   simp [Region.wanted,hg,b0j]
  ·rename_i j want hg
   simp only [i1o,i1i,i1q,i1l] at hc
   obtain ⟨oj,h1,d,h2,rfl⟩:=hc
   have hv:=hT d want rfl
   simp only [Region.wanted,hg,b0j,yielded,h1,Option.bind_some,h2,get]
   simp only [get] at hv
   have e1:a.tmps.getD d undef=(a.tmps[d]?).getD undef:=by simp
   rw [e1] at hv
   cases hd:a.tmps[d]? with
   | none =>
    rw [hd] at hv
    simp only [Option.getD_none] at hv
    generalize t.getD d undef=q at hv ⊢
    cases hv;rfl
   | some u =>
    rw [hd] at hv
    simp only [i1O] at hv
    generalize t.getD d undef=q at hv ⊢
    cases hv <;> first | rfl | simp
 ·cases hc
theorem p0C {ops:Array Oper} {sop:a0I} (hc:g0N X.P ops lone o=some sop) (hT:CR X φ w.shape? t a.tmps.toList):Region.wanted o (yielded ops a.tmps)=b0j t sop.g :=
 n0y hc (fun d _ _=>by rw [a0U];exact hT.get d)
theorem e0j {ops:Array Oper} {sop:a0I} (hc:g0N X.P ops lone o=some sop):cOp X.P lone o.op=some sop.op∧(a0y sop.op).all a0T=true∧sop.dst=o.dst:=by
 unfold g0N at hc
 simp only [i1o,i1i] at hc
 obtain ⟨op,h1,hc⟩:=hc
 split at hc
 ·rename_i hf
  split at hc
  ·simp only [i1q,i1l] at hc;subst hc;exact ⟨h1,hf,rfl⟩
  ·simp only [i1o,i1i,i1q,i1l] at hc
   obtain ⟨oj,_,d,_,rfl⟩:=hc
   exact ⟨h1,hf,rfl⟩
 ·cases hc
theorem r0g (hcall:e0g X call) {D:List Deferred} {ops:Array Oper}:∀ (r:List a0I) (k:Nat) (t:b0b) (H:a0e) (φ:Inj) (w:World) (a:Act),
  (∀ i s,r[i]? = some s→∃ o,ops[k + i]? = some o∧g0N X.P ops true o=some s)→Rel X φ H w→CR X φ w.shape? t a.tmps.toList→fl≤H.size→a.defers=D→f0l call fl r t H ≠ .bad →
  wpOps X.P ops (J0B X D fl φ H w (f0l call fl r t H)) (List.range' k r.length) a w
 | [],k,t,H,φ,w,a,_,hR,hT,_,hd,_=>⟨rfl,hd,φ,hT,d0s.refl hR⟩
 | s :: r,k,t,H,φ,w,a,hops,hR,hT,hfl,hd,hne=>by
  obtain ⟨o,ho,hco⟩:=hops 0 s rfl
  simp only [j1p] at ho
  obtain ⟨hc,hf,hdst⟩:=e0j hco
  have hw:=p0C hco hT
  have hops':∀ i s',r[i]? = some s'→∃ o,ops[k + 1 + i]? = some o∧g0N X.P ops true o=some s':=fun i s' hi=>by
   obtain ⟨o',h1,h2⟩:=hops (i + 1) s' (by simpa using hi)
   exact ⟨o',by rw [← h1];congr 1;omega,h2⟩
  rw [i1Y,k1Z]
  unfold wpOps
  simp only [ho]
  simp only [f0l] at hne ⊢
  by_cases hwt:b0j t s.g=true
  ·rw [hw,i1n hwt]
   simp only [hwt,i1X] at hne ⊢
   refine .inl ?_
   cases hs:b0z call fl t H s.op with
   | bad=>simp [hs] at hne
   | pan v =>
    simp only [hs] at hne ⊢
    exact t0q hcall hc hf hR hT hfl hs a rfl (fun ty u w' hp=>⟨⟨ty,u,rfl⟩,hd,hp⟩)
   | ok vH =>
    obtain ⟨v,H1⟩:=vH
    simp only [hs] at hne ⊢
    refine l0B hcall hc hf hR hT hfl hs a rfl (fun φ' v' w' hvr hst=>?_)
    have hT':CR X φ' w'.shape? t a.tmps.toList:=hT.mono hst.ext hst.shp
    have ih:=r0g hcall (D:=D) r (k + 1) (put t s.dst v) H1 φ' w' (a.put o.dst v') hops' hst.rel (by rw [hdst];exact i0W hT' hvr o.dst) (i1t hfl hst.hsz) (by rw [c0G];exact hd) hne
    exact d0j (fun e a2 w2 h2=>J0B.after hst hR h2) ih
  ·rw [hw,i1k hwt]
   simp only [k1X] at hwt
   simp only [hwt,i1H,j1h] at hne ⊢
   exact r0g hcall (D:=D) r (k + 1) (put t s.dst undef) H φ w (a.put o.dst undef) hops' hR (by rw [hdst];exact i0W hT VR.undef o.dst) hfl (by rw [c0G];exact hd) hne
end
end
section
open Go
variable {X:Cx} {φ φ':Inj} {S:Shp} {H H':a0e} {w w':World} {fl:Nat} {t:b0b} {a:Act}
section
variable {call:Nat→FuncId→List Value→a0e→Res (Value × a0e)}
def r0A (X:Cx) (call:Nat→FuncId→List Value→a0e→Res (Value × a0e)):Prop :=
 ∀ (ops:Array Oper) (l:List a0I) (bef:List Nat) (pairs:List (Nat × Nat)),A0o X.P ops=some (.draw l bef pairs) →
  ∀ (D:List Deferred) (fl:Nat) (t:b0b) (H:a0e) (φ:Inj) (w:World) (a:Act),Rel X φ H w→CR X φ w.shape? t a.tmps.toList→fl≤H.size→a.defers=D →
   b0S call fl bef pairs 0 l t H none [] ≠ .bad→∀ id,(Code.region id ops true).wp X.P (J0B X D fl φ H w (b0S call fl bef pairs 0 l t H none [])) a w
def k0J (P:Program) (c:Code) (Q:Exit→Act→World→Prop) (a:Act) (w:World):Prop :=
 ∀ (b:Frame) (k:List Item) (cs:List Frame),∃ e a' w',Q e a' w'∧Arrives P (lone (b.at a (.code c :: .inLoop c :: k)) cs w) b k cs e a' w'
theorem k0J.wp {P:Program} {c:Code} {Q:Exit→Act→World→Prop} (h:k0J P c Q a w):(Code.loop c).wp P Q a w :=
 fun b k cs=>let ⟨e,a',w',q,r⟩:=h b k cs;⟨e,a',w',q,.of_steps (.one step_loop) r⟩
theorem k0J.round {P:Program} {c:Code} {Q:Exit→Act→World→Prop} (h:c.wp P (Exit.then (k0J P c Q) Q) a w):k0J P c Q a w:=by
 intro b k cs
 obtain ⟨e,a₁,w₁,hq,harr⟩:=h b (.inLoop c :: k) cs
 cases e with
 | normal =>
  obtain ⟨e₂,a₂,w₂,hq₂,harr₂⟩:=hq b k cs
  exact ⟨e₂,a₂,w₂,hq₂,.of_steps (Steps.trans harr (.one step_inLoop)) harr₂⟩
 | exit id=>exact ⟨_,a₁,w₁,hq,.pass (x:=.inLoop c) rfl (fun _ _=>.inl (by simp)) harr⟩
 | goto l=>exact ⟨_,a₁,w₁,hq,.pass (x:=.inLoop c) rfl (fun _ _=>.inl (by simp)) harr⟩
 | ret=>exact ⟨_,a₁,w₁,hq,.pass (x:=.inLoop c) rfl (fun _ _=>.inl (by simp)) harr⟩
 | panic ch=>exact ⟨_,a₁,w₁,hq,.pass (x:=.inLoop c) rfl (fun _ _=>.inl (by simp)) harr⟩
 | outgrown=>exact ⟨_,a₁,w₁,hq,.pass (x:=.inLoop c) rfl (fun _ _=>.inl (by simp)) harr⟩
def wpx (P:Program) (c:Code) (Q:Exit→Act→World→Prop) (a:Act) (w:World):Prop :=
 match c with
 | .loop d=>k0J P d Q a w
 | c=>c.wp P Q a w
theorem wpx.wp {P:Program} {c:Code} {Q:Exit→Act→World→Prop} (h:wpx P c Q a w):c.wp P Q a w:=by
 cases c <;> first | exact k0J.wp h | exact h
theorem l0x {α β:Type} {f:α→Option β}:∀ {l:List α} {r:List β},l.mapM f=some r→∀ (i:Nat) (y:β),r[i]? = some y→∃ x,l[i]? = some x∧f x=some y
 | [],r,h,i,y,hi=>by simp at h;subst h;simp at hi
 | x :: l,r,h,i,y,hi=>by
  rw [k1C] at h
  simp only [i1o,i1i,i1q,i1l] at h
  obtain ⟨b,h1,bs,h2,rfl⟩:=h
  cases i with
  | zero=>simp at hi;subst hi;exact ⟨x,rfl,h1⟩
  | succ i=>obtain ⟨x',h3,h4⟩:=l0x h2 i y (by simpa using hi);exact ⟨x',by simpa using h3,h4⟩
theorem j0t {α β:Type} {f:α→Option β}:∀ {l:List α} {r:List β},l.mapM f=some r→r.length=l.length
 | [],r,h=>by simp at h;subst h;rfl
 | x :: l,r,h=>by
  rw [k1C] at h
  simp only [i1o,i1i,i1q,i1l] at h
  obtain ⟨b,h1,bs,h2,rfl⟩:=h
  simp [j0t h2]
theorem e0u (hcall:e0g X call) (hdraw:r0A X call) {D:List Deferred}:∀ (n:Nat) (c:Code) (c':SCode) (fl:Nat) (t:b0b) (H:a0e) (φ:Inj) (w:World) (a:Act),e0i X.P c=some c'→Rel X φ H w →
  CR X φ w.shape? t a.tmps.toList→fl≤H.size→a.defers=D→b0f call fl n c' t H ≠ .bad→wpx X.P c (J0B X D fl φ H w (b0f call fl n c' t H)) a w
 | 0,c,c',fl,t,H,φ,w,a,_,_,_,_,_,hne=>i1A rfl hne
 | n + 1,c,c',fl,t,H,φ,w,a,hc,hR,hT,hfl,hd,hne=>by
  cases c with
  | skip =>
   simp only [e0i,i1l] at hc;subst hc
   exact wp_skip ⟨rfl,hd,φ,hT,d0s.refl hR⟩
  | label l =>
   simp only [e0i,i1l] at hc;subst hc
   exact wp_label ⟨rfl,hd,φ,hT,d0s.refl hR⟩
  | exit id =>
   simp only [e0i,i1l] at hc;subst hc
   exact wp_exit ⟨rfl,hd,φ,hT,d0s.refl hR⟩
  | ret =>
   simp only [e0i,i1l] at hc;subst hc
   exact wp_ret ⟨rfl,hd,φ,hT,d0s.refl hR⟩
  | seq x y =>
   simp only [e0i,i1o,i1i,i1q,i1l] at hc
   obtain ⟨x',hx,y',hy,rfl⟩:=hc
   have hx1:b0f call fl n x' t H ≠ .bad:=fun e=>hne (by simp [b0f,e])
   have ih1:=(e0u hcall hdraw n x x' fl t H φ w a hx hR hT hfl hd hx1).wp
   refine wp_seq (wp_mono ih1 ?_)
   intro e a1 w1 hp
   simp only [b0f]
   cases hr:b0f call fl n x' t H with
   | bad=>exact i1A hr hx1
   | pan v =>
    rw [hr] at hp
    obtain ⟨⟨ty,u,rfl⟩,h2,h3⟩:=hp
    exact ⟨⟨ty,u,rfl⟩,h2,h3⟩
   | fin xx t1 H1 =>
    rw [hr] at hp
    obtain ⟨rfl,hd1,φ1,hT1,hst⟩:=hp
    cases xx with
    | normal =>
     have hne2:b0f call fl n y' t1 H1 ≠ .bad:=fun e=>hne (by simp [b0f,hr,e])
     have ih2:=(e0u hcall hdraw n y y' fl t1 H1 φ1 w1 a1 hy hst.rel hT1 (i1t hfl hst.hsz) hd1 hne2).wp
     exact wp_mono ih2 (fun e a2 w2 h2=>J0B.after hst hR h2)
    | exit id=>exact ⟨rfl,hd1,φ1,hT1,hst⟩
    | ret=>exact ⟨rfl,hd1,φ1,hT1,hst⟩
  | cond c x y =>
   simp only [e0i,i1o,i1i,i1q,i1l] at hc
   obtain ⟨c',hcc,hc⟩:=hc
   split at hc
   ·rename_i hflat
    simp only [i1i,i1l] at hc
    obtain ⟨x',hx,y',hy,rfl⟩:=hc
    have hv:=b0D hT hcc hflat
    simp only [b0f] at hne ⊢
    generalize hg:a.eval c=g at hv
    split at hne
    ·rename_i hb
     rw [hb] at hv;cases hv
     exact wp_cond_true hg (e0u hcall hdraw n x x' fl t H φ w a hx hR hT hfl hd hne).wp
    ·rename_i hb
     rw [hb] at hv;cases hv
     exact wp_cond_false hg (e0u hcall hdraw n y y' fl t H φ w a hy hR hT hfl hd hne).wp
    ·exact i1A rfl hne
   ·cases hc
  | block id c =>
   simp only [e0i,i1o,i1i,i1q,i1l] at hc
   obtain ⟨x',hx,rfl⟩:=hc
   have hx1:b0f call fl n x' t H ≠ .bad:=fun e=>hne (by simp [b0f,e])
   have ih1:=(e0u hcall hdraw n c x' fl t H φ w a hx hR hT hfl hd hx1).wp
   refine wp_block (wp_mono ih1 ?_)
   intro e a1 w1 hp
   simp only [b0f]
   cases hr:b0f call fl n x' t H with
   | bad=>exact i1A hr hx1
   | pan v =>
    rw [hr] at hp
    obtain ⟨⟨ty,u,rfl⟩,h2,h3⟩:=hp
    exact ⟨⟨ty,u,rfl⟩,h2,h3⟩
   | fin xx t1 H1 =>
    rw [hr] at hp
    obtain ⟨rfl,hd1,φ1,hT1,hst⟩:=hp
    cases xx with
    | normal=>exact ⟨rfl,hd1,φ1,hT1,hst⟩
    | ret=>exact ⟨rfl,hd1,φ1,hT1,hst⟩
    | exit id' =>
     show Exit.inBlock id _ (.exit id') a1 w1
     unfold Exit.inBlock
     by_cases hid:id' = id
     ·simp only [hid,i1X];exact ⟨rfl,hd1,φ1,hT1,hst⟩
     ·simp only [hid,j1h];exact ⟨rfl,hd1,φ1,hT1,hst⟩
  | loop c =>
   simp only [e0i,i1o,i1i,i1q,i1l] at hc
   obtain ⟨x',hx,rfl⟩:=hc
   have hx1:b0f call fl n x' t H ≠ .bad:=fun e=>hne (by simp [b0f,e])
   have ih1:=(e0u hcall hdraw n c x' fl t H φ w a hx hR hT hfl hd hx1).wp
   refine k0J.round (wp_mono ih1 ?_)
   intro e a1 w1 hp
   simp only [b0f]
   cases hr:b0f call fl n x' t H with
   | bad=>exact i1A hr hx1
   | pan v =>
    rw [hr] at hp
    obtain ⟨⟨ty,u,rfl⟩,h2,h3⟩:=hp
    exact ⟨⟨ty,u,rfl⟩,h2,h3⟩
   | fin xx t1 H1 =>
    rw [hr] at hp
    obtain ⟨rfl,hd1,φ1,hT1,hst⟩:=hp
    cases xx with
    | normal =>
     have hne2:b0f call fl n (.loop x') t1 H1 ≠ .bad:=fun e=>hne (by simp [b0f,hr,e])
     have ih2:=e0u hcall hdraw n (.loop c) (.loop x') fl t1 H1 φ1 w1 a1 (by simp [e0i,hx]) hst.rel hT1 (i1t hfl hst.hsz) hd1 hne2
     intro b k cs
     obtain ⟨e,a2,w2,h2,h3⟩:=ih2 b k cs
     exact ⟨e,a2,w2,J0B.after hst hR h2,h3⟩
    | exit id=>exact ⟨rfl,hd1,φ1,hT1,hst⟩
    | ret=>exact ⟨rfl,hd1,φ1,hT1,hst⟩
  | region id ops d =>
   cases d with
   | true =>
    simp only [e0i] at hc
    have hc0:=hc
    unfold A0o at hc
    simp only [i1o,i1i] at hc
    obtain ⟨l,_,hc⟩:=hc
    split at hc
    ·simp only [i1q,i1l] at hc
     subst hc
     simp only [b0f] at hne ⊢
     exact hdraw ops _ _ _ hc0 D fl t H φ w a hR hT hfl hd hne id
    ·cases hc
   | false =>
    simp only [e0i,i1o,i1i,i1q,i1l] at hc
    obtain ⟨l,hl,rfl⟩:=hc
    simp only [b0f] at hne ⊢
    refine wp_region ?_
    have hlen:ops.size=l.length:=by rw [j0t hl];simp
    rw [List.range_eq_range',hlen]
    exact r0g hcall l 0 t H φ w a (fun i s hi=>by
     obtain ⟨x,h1,h2⟩:=l0x hl i s hi
     exact ⟨x,by simpa using h1,h2⟩) hR hT hfl hd hne
  | _=>simp [e0i] at hc
end
theorem B0r (hR:Rel X φ H w) {ty:TypeId} {n:Nat} {b:Bool} (hn:d0g X.P ty=some n) (hb:k0O X.P ty=some b) {v v' r:Value} (hv:VR X φ w.shape? v v') (hr:b0r H b n v=some r) :
  ∃ q r',v' = .pointer (some q)∧(loadVar ty q).run X.P w=.ok r' w∧VR X φ w.shape? r r':=by
 unfold b0r at hr
 split at hr
 ·rename_i p
  cases hv with
  | ptr _ q B o' h1 h2 h3 =>
   subst h3
   split at hr
   ·rename_i hbn;cases hr
    obtain ⟨rfl,rfl⟩:=hbn
    exact ⟨_,.agg #[],rfl,by simp [loadVar,h0g hb,d0G hn,loadCells,loadCellsFrom],VR.agg_iff.2 CR.nil⟩
   ·split at hr
    ·cases hr
    ·split at hr
     ·rename_i cs hcs
      obtain ⟨hlen,cs',hl',hcr,hcell⟩:=hR.cells h2 hcs
      cases b with
      | true =>
       simp only [i1X] at hr hlen hl';cases hr
       have hld:=run_loadCells_list (P:=X.P) w ⟨B,o' + p.off,none⟩ cs' (l0T hcell)
       rw [hl'] at hld
       exact ⟨_,.agg cs'.toArray,rfl,by simp [loadVar,h0g hb,d0G hn,hld],VR.agg_iff.2 (by simpa using hcr)⟩
      | false =>
       simp only [i1H,j1h] at hr hlen hl'
       cases cs with
       | nil=>simp at hlen
       | cons u r' =>
        simp only [List.head?_cons,i1l] at hr;subst hr
        obtain ⟨u',r2,rfl,hu,_⟩:=hcr.cons_left
        have hc0:=hcell 0 u' rfl
        simp only [j1p] at hc0
        exact ⟨_,u',rfl,by simp [loadVar,h0g hb,hc0],hu⟩
     ·cases hr
 ·cases hr
def n0l (tmps:Array Value):ResultVar→Sem Value
 | .tmp t=>pure (tmps.getD t undef)
 | .cell a t=>do loadVar t (← asAddr (tmps.getD a undef))
theorem J0a {sr:List SRes}:∀ {rs:List ResultVar} {vs:List Value},rs.mapM (Y0q X.P)=some sr→e0O H t sr=some vs→Rel X φ H w→CR X φ w.shape? t a.tmps.toList →
  ∃ vs',CR X φ w.shape? vs vs'∧(rs.mapM (n0l a.tmps)).run X.P w=.ok vs' w:=by
 induction sr with
 | nil =>
  intro rs vs h h2 hR hT
  have:rs=[]:=by have:=j0t h;exact i1I.1 this.symm
  subst this
  simp [e0O] at h2;subst h2
  exact ⟨[],CR.nil,by simp⟩
 | cons s sr ih =>
  intro rs vs h h2 hR hT
  cases rs with
  | nil=>simp at h
  | cons r rs =>
   rw [k1C] at h
   simp only [i1o,i1i,i1q,i1l] at h
   obtain ⟨s',h3,sr',h4,h5⟩:=h
   cases h5
   simp only [e0O] at h2
   split at h2
   ·rename_i v vs2 h6 h7
    cases h2
    obtain ⟨vs',hvs,hrun⟩:=ih h4 h7 hR hT
    rw [k1C,Sem.run_bind]
    cases r with
    | tmp i =>
     simp only [Y0q,i1l] at h3;subst h3
     simp only [r0z,i1l] at h6;subst h6
     refine ⟨a.tmps.getD i undef :: vs',CR.cons ?_ hvs,by simp only [n0l,Sem.run_pure,Result.andThen_ok,Sem.run_bind,hrun]⟩
     rw [a0U];exact hT.get i
    | cell c ty =>
     simp only [Y0q,i1o,i1i,i1q,i1l] at h3
     obtain ⟨b,hb,n,hn,rfl⟩:=h3
     simp only [r0z] at h6
     obtain ⟨q,v'',hq,hrun2,hvr⟩:=B0r hR hn hb (hT.get c) h6
     rw [← a0U] at hq
     exact ⟨v'' :: vs',CR.cons hvr hvs,by
      have hsa:(asAddr (a.tmps.getD c undef)).run X.P w=.ok q w:=by rw [hq];rfl
      simp only [n0l,hsa,hrun2,Result.andThen_ok,Sem.run_bind,hrun,Sem.run_pure]⟩
   ·cases h2
theorem w0J {vs vs':List Value} (h:CR X φ S vs vs'):VR X φ S (d0v vs) (if h:vs'.toArray.size=1 then vs'.toArray[0] else .tuple vs'.toArray):=by
 cases vs with
 | nil=>rw [h.nil_left];exact VR.tuple_iff.2 CR.nil
 | cons v r =>
  obtain ⟨v',r',rfl,hv,hr⟩:=h.cons_left
  cases r with
  | nil=>rw [hr.nil_left];simpa [d0v] using hv
  | cons u r2 =>
   obtain ⟨u',r3,rfl,_,_⟩:=hr.cons_left
   simp only [d0v]
   rw [dif_neg (by simp)]
   exact VR.tuple_iff.2 (by simpa using h)
def v0V (call:Nat→FuncId→List Value→a0e→Res (Value × a0e)):Prop:=∀ fl f args H v,call fl f args H=.pan v→∃ ty u,v=.iface ty u
section
variable {call:Nat→FuncId→List Value→a0e→Res (Value × a0e)} (hp:v0V call)
include hp
theorem h0G {so:SOp} {v:Value} (h:b0z call fl t H so=.pan v):∃ ty u,v=.iface ty u:=by
 unfold b0z at h
 split at h
 ·cases h
 ·rename_i v1 hv;simp only [Res.pan.injEq] at h;subst h;exact (g0m hv).1
 ·cases h
 ·exact hp _ _ _ _ _ h
theorem f0D:∀ (r:List a0I) (t:b0b) (H:a0e) {v:Value},f0l call fl r t H=.pan v→∃ ty u,v=.iface ty u
 | [],t,H,v,h=>by simp [f0l] at h
 | s :: r,t,H,v,h=>by
  simp only [f0l] at h
  split at h
  ·split at h
   ·cases h
   ·rename_i v1 hs;simp only [Out.pan.injEq] at h;subst h;exact h0G hp hs
   ·exact f0D r _ _ h
  ·exact f0D r _ _ h
theorem d0a (bef:List Nat) (pairs:List (Nat × Nat)):∀ (r:List a0I) (i:Nat) (t:b0b) (H:a0e) (p:Option (Nat × Value)) (log:List (List Nat × List Nat)) {v:Value},
  (∀ j u,p=some (j,u)→∃ ty x,u=.iface ty x)→b0S call fl bef pairs i r t H p log=.pan v→∃ ty u,v=.iface ty u
 | [],i,t,H,p,log,v,hpp,h=>by
  simp only [b0S] at h
  split at h
  ·split at h
   ·cases h
   ·rename_i j u;simp only [Out.pan.injEq] at h;subst h;exact hpp _ _ rfl
  ·cases h
 | s :: r,i,t,H,p,log,v,hpp,h=>by
  simp only [b0S] at h
  split at h
  ·exact d0a bef pairs r _ _ _ _ _ hpp h
  ·split at h
   ·split at h
    ·cases h
    ·rename_i v1 hs
     split at h
     ·refine d0a bef pairs r _ _ _ _ _ ?_ h
      intro j u hju;cases hju;exact h0G hp hs
     ·cases h
    ·exact d0a bef pairs r _ _ _ _ _ hpp h
   ·exact d0a bef pairs r _ _ _ _ _ hpp h
theorem c0c:∀ (n:Nat) (c:SCode) (t:b0b) (H:a0e) {v:Value},b0f call fl n c t H=.pan v→∃ ty u,v=.iface ty u
 | 0,c,t,H,v,h=>by simp [b0f] at h
 | n + 1,c,t,H,v,h=>by
  cases c <;> simp only [b0f] at h
  case skip=>cases h
  case exit=>cases h
  case ret=>cases h
  case seq a b =>
   split at h
   ·exact c0c n b _ _ h
   ·exact c0c n a _ _ h
  case cond c a b =>
   split at h
   ·exact c0c n a _ _ h
   ·exact c0c n b _ _ h
   ·cases h
  case block id c =>
   split at h
   ·split at h <;> cases h
   ·exact c0c n c _ _ h
  case loop c =>
   split at h
   ·exact c0c n (.loop c) _ _ h
   ·exact c0c n c _ _ h
  case reg ops=>exact f0D hp _ _ _ h
  case draw ops bef pairs=>exact d0a hp bef pairs _ _ _ _ _ _ (fun _ _ e=>by cases e) h
end
theorem h0h (E:Env):∀ n,v0V (b0p E n)
 | 0=>fun _ _ _ _ _ h=>by simp [b0p] at h
 | n + 1=>fun fl f args H v h=>by
  simp only [b0p] at h
  split at h
  ·split at h
   ·cases h
   split at h
   ·split at h
    ·split at h
     ·split at h
      case isFalse=>cases h
      unfold d0Z at h
      split at h
      ·cases h
      ·cases h
      ·cases h
      ·split at h
       ·split at h <;> cases h
       ·cases h
      ·cases h
     ·cases h
    ·cases h
   ·cases h
  ·split at h
   ·split at h
    ·cases h
    ·rename_i v1 hx
     simp only [Res.pan.injEq] at h;subst h
     exact c0c (h0h E n) n _ _ _ hx
    ·split at h
     ·cases h
     ·split at h <;> cases h
   ·cases h
structure X0F (X:Cx) (E:Env):Prop where
 code:∀ f sf,E.code f=some sf→b0g X.P f=some sf
 mixed:X.P.follows .mixedOrders=true
def U0j (X:Cx) (E:Env):Prop:=∀ f v,E.known.lookup f=some v→e0g X fun _ g args H=>if g=f∧args=[] then .ok (v,H) else .bad
def z0V (X:Cx) (E:Env):Prop :=
 ∀ q,E.quick=some q→∀ call,e0g X call→h0M call→e0g X fun fl f args H =>
  if f=q.f then match args with | [.agg p,.agg s]=>(if p.size=q.np∧s.size=q.ns then d0Z q.zero H (call (max fl H.size) q.solved [.agg #[],.agg p,.agg s] H) else .bad) | _=>.bad else .bad
theorem w0k (E:Env) (hE:X0F X E) (hkn:U0j X E) (hq:z0V X E) (hdraw:∀ call,e0g X call→h0M call→r0A X call):∀ n,e0g X (b0p E n)
 | 0=>fun _ _ _ _ _ _ _ _ _ _=>⟨fun _ _ h=>by simp [b0p] at h,fun _ h=>by simp [b0p] at h⟩
 | n + 1=>fun fl f args H φ w args' hR hA hfl=>by
  have ih:=w0k E hE hkn hq hdraw n
  have hk:=h0P E n
  cases hcode:E.code f with
  | none =>
   cases hkw:E.know f args with
   | some v =>
    have hargs:args=[]:=by
     cases args with
     | nil=>rfl
     | cons x r=>simp [Env.know] at hkw
    have hl:E.known.lookup f=some v:=by rw [hargs] at hkw;simpa [Env.know] using hkw
    have h1:=hkn f v hl fl f args H φ w args' hR hA hfl
    simp only [b0p,hcode,hkw]
    simp only [hargs,and_self,i1X] at h1 ⊢
    exact h1
   | none =>
   cases hqk:E.quick with
   | none=>exact ⟨fun _ _ h=>by simp [b0p,hcode,hkw,hqk] at h,fun _ h=>by simp [b0p,hcode,hkw,hqk] at h⟩
   | some q =>
    have h1:=hq q hqk (b0p E n) ih hk fl f args H φ w args' hR hA hfl
    simp only [b0p,hcode,hkw,hqk]
    exact h1
  | some sf =>
   have hcf:=hE.code f sf hcode
   unfold b0g at hcf
   cases hfn:X.P.funcs[f]? with
   | none=>simp [hfn] at hcf
   | some fn =>
    simp only [hfn] at hcf
    cases hb:fn.body with
    | none=>simp [hb] at hcf
    | some c =>
     simp only [hb] at hcf
     split at hcf
     ·cases hcf
     rename_i hruns
     have hruns:z0L X.P f=true:=by simpa using hruns
     simp only [i1o,i1i] at hcf
     obtain ⟨res,hres,body,hbody,hcf⟩:=hcf
     split at hcf
     ·rename_i hnt
      simp only [i1q,i1l] at hcf;subst hcf
      by_cases hlen:args.length=fn.params.size + fn.nfree
      ·have hlen':args'.size=args.length:=by have:=hA.1;simpa using this.symm
       -- the frame at the call's entry
       have hT:CR X φ w.shape? (args ++ List.replicate (fn.ntmps - args.length) undef) (args' ++ Array.replicate (fn.ntmps - args'.size) undef).toList:=by
        rw [hlen']
        have:(args' ++ Array.replicate (fn.ntmps - args.length) undef).toList=args'.toList ++ List.replicate (fn.ntmps - args.length) undef:=by simp
        rw [this]
        refine hA.append ?_
        generalize fn.ntmps - args.length=m
        induction m with
        | zero=>exact CR.nil
        | succ m ih=>exact CR.cons VR.undef ih
       have hx:=fun hne=>(e0u ih (hdraw _ ih hk) n c body fl _ H φ w { tmps:=args' ++ Array.replicate (fn.ntmps - args'.size) undef,defers:=[] } hbody hR hT hfl rfl hne).wp
       cases hr:b0f (b0p E n) fl n body (args ++ List.replicate (fn.ntmps - args.length) undef) H with
       | bad =>
        refine ⟨fun _ _ h=>?_,fun _ h=>?_⟩
        ·simp only [b0p,hcode] at h;rw [i1n hlen,hr] at h;cases h
        ·simp only [b0p,hcode] at h;rw [i1n hlen,hr] at h;cases h
       | pan v0 =>
        rw [hr] at hx
        have hx:=hx (by simp)
        refine ⟨fun _ _ h=>?_,fun v h=>?_⟩
        ·simp only [b0p,hcode] at h;rw [i1n hlen,hr] at h;cases h
        ·simp only [b0p,hcode] at h;rw [i1n hlen,hr] at h
         simp only [Res.pan.injEq] at h;subst h
         refine ⟨c0c (h0h E n) n body _ H hr,hruns,calls_of_wp hfn hb (wp_mono hx ?_)⟩
         rintro e a' w' ⟨⟨ty,u,rfl⟩,hd,hp⟩
         exact ⟨hd,⟨ty,u,rfl⟩,hp⟩
       | fin e t1 H1 =>
        rw [hr] at hx
        have hx:=hx (by simp)
        refine ⟨fun v H' h=>?_,fun v h=>?_⟩
        ·simp only [b0p,hcode] at h;rw [i1n hlen,hr] at h
         refine ⟨hruns,calls_of_wp hfn hb (wp_mono hx ?_)⟩
         rintro e2 a' w' ⟨rfl,hd,φ',hT',hst⟩
         have key:∀ vs,e0O H1 t1 res=some vs→v=d0v vs→H' = H1→∃ v',(results fn a'.tmps).run X.P w' = .ok v' w' ∧
           ∃ v2 φ',Ending.returned v' = .returned v2∧VR X φ' w'.shape? v v2∧d0s X fl φ H w φ' H' w':=by
          intro vs hvs hv hH
          subst hv hH
          obtain ⟨vs',hcr,hrun⟩:=J0a hres hvs hst.rel hT'
          refine ⟨_,?_,_,φ',rfl,w0J hcr,hst⟩
          have e1:results fn a'.tmps=(do let vs ← fn.results.mapM (n0l a'.tmps);pure (if h:vs.size=1 then vs[0] else .tuple vs)):=rfl
          rw [e1,k1T]
          simp only [Sem.run_bind,Sem.run_map,hrun]
          rfl
         cases e with
         | exit id=>cases h
         | normal =>
          simp only [] at h
          split at h
          ·rename_i vs hvs
           simp only [Res.ok.injEq,k1d] at h
           obtain ⟨v',h1,h2⟩:=key vs hvs h.1.symm h.2.symm
           exact ⟨hd,v',h1,h2⟩
          ·cases h
         | ret =>
          simp only [] at h
          split at h
          ·rename_i vs hvs
           simp only [Res.ok.injEq,k1d] at h
           obtain ⟨v',h1,h2⟩:=key vs hvs h.1.symm h.2.symm
           exact ⟨hd,v',h1,h2⟩
          ·cases h
        ·simp only [b0p,hcode] at h;rw [i1n hlen,hr] at h
         cases e with
         | exit id=>cases h
         | normal=>simp only [] at h;split at h <;> cases h
         | ret=>simp only [] at h;split at h <;> cases h
      ·exact ⟨fun _ _ h=>by simp [b0p,hcode,hlen] at h,fun _ h=>by simp [b0p,hcode,hlen] at h⟩
     ·cases hcf
theorem w0u (bef:List Nat) (i:Nat):∀ (l:List Edge) (s:Nat),(l.foldl (fun s e=>if Region.binds .any e then s ||| 2 ^ e.on ||| bef.getD e.on 0 else s) s).testBit i=true ↔
  s.testBit i=true ∨ ∃ e ∈ l,Region.binds .any e=true∧(i=e.on ∨ (bef.getD e.on 0).testBit i=true)
 | [],s=>by simp
 | e :: l,s=>by
  rw [List.foldl_cons,w0u bef i l]
  by_cases hb:Region.binds .any e=true
  ·simp only [hb,i1X,Nat.testBit_or,Bool.or_eq_true,Nat.testBit_two_pow,j1n,j1M]
   constructor
   ·rintro (((h | h) | h) | ⟨e',h1,h2⟩)
    ·exact .inl h
    ·exact .inr ⟨e,.inl rfl,hb,.inl h.symm⟩
    ·exact .inr ⟨e,.inl rfl,hb,.inr h⟩
    ·exact .inr ⟨e',.inr h1,h2⟩
   ·rintro (h | ⟨e',rfl | h1,h2,h3⟩)
    ·exact .inl (.inl (.inl h))
    ·rcases h3 with h3 | h3
     ·exact .inl (.inl (.inr h3.symm))
     ·exact .inl (.inr h3)
    ·exact .inr ⟨e',h1,h2,h3⟩
  ·simp only [hb,j1h,j1M]
   constructor
   ·rintro (h | ⟨e',h1,h2⟩)
    ·exact .inl h
    ·exact .inr ⟨e',.inr h1,h2⟩
   ·rintro (h | ⟨e',rfl | h1,h2,h3⟩)
    ·exact .inl h
    ·exact i1A h2 hb
    ·exact .inr ⟨e',h1,h2,h3⟩
structure y0o (X:Cx) (ops:Array Oper) (l:List a0I) (bef:List Nat) (pairs:List (Nat × Nat)):Prop where
 len:l.length=ops.size
 op:∀ (k:Nat) (s:a0I),l[k]? = some s→∃ o,ops[k]? = some o∧g0N X.P ops (w0A bef (ops.toList.map fun o=>o0m o.op) k) o=some s
 bit:∀ (i j:Nat) (o:Oper),ops[j]? = some o→(b0s bef i j=true ↔ ∃ e ∈ o.after.toList,Region.binds .any e=true∧(i=e.on ∨ b0s bef i e.on=true))
 back:∀ (j:Nat) (o:Oper),ops[j]? = some o→∀ e ∈ o.after.toList,Region.binds .any e=true→e.on < j
 un:∀ (i j:Nat),i < j→j < ops.size→b0s bef i j=false→B0W ops l (i,j)=true∧(j0G l (i,j)=true→(i,j) ∈ pairs)
 nosel:∀ (j:Nat) (o:Oper) (cs:Array SelectCase) (b:Bool),ops[j]? = some o→o.op ≠ .select cs b
theorem o0t {P:Program} {ops:Array Oper} {bef ws:List Nat}:∀ {os:List Oper} {k:Nat} {l:List a0I},r0P P ops bef ws k os=some l →
  l.length=os.length∧∀ i s,l[i]? = some s→∃ o,os[i]? = some o∧g0N P ops (w0A bef ws (k + i)) o=some s
 | [],k,l,h=>by simp [r0P] at h;subst h;simp
 | o :: os,k,l,h=>by
  simp only [r0P] at h
  split at h
  ·rename_i x l' h1 h2
   cases h
   obtain ⟨h3,h4⟩:=o0t h2
   refine ⟨by simp [h3],fun i s hi=>?_⟩
   cases i with
   | zero=>simp at hi;subst hi;exact ⟨o,rfl,h1⟩
   | succ i =>
    obtain ⟨o',h5,h6⟩:=h4 i s (by simpa using hi)
    exact ⟨o',by simpa using h5,by rw [show k + (i + 1)=k + 1 + i by omega];exact h6⟩
  ·cases h
theorem s0x {n i j:Nat} (h:i < j) (hj:j < n):(i,j) ∈ l0r n:=by
 unfold l0r
 rw [List.mem_flatMap]
 exact ⟨j,j1r.2 hj,j1e.2 ⟨i,j1r.2 h,rfl⟩⟩
theorem M0B {ops:Array Oper} {l:List a0I} {bef:List Nat} {pairs:List (Nat × Nat)} (h:A0o X.P ops=some (.draw l bef pairs)):y0o X ops l bef pairs:=by
 unfold A0o at h
 simp only [i1o,i1i] at h
 obtain ⟨l',h1,h⟩:=h
 split at h
 ·rename_i hc
  obtain ⟨he,hu,hn⟩:=hc
  simp only [i1q,i1l,SCode.draw.injEq] at h
  obtain ⟨rfl,rfl,rfl⟩:=h
  obtain ⟨hl1,hl2⟩:=o0t h1
  have hedge:∀ j o,ops[j]? = some o→(o.after.toList.all fun e=>!Region.binds .any e || e.on < j)=true ∧
    (Region.before ops).toList.getD j 0=(o.after.toList.foldl (fun s e=>if Region.binds .any e then s ||| 2 ^ e.on ||| (Region.before ops).toList.getD e.on 0 else s) 0):=by
   intro j o ho
   have hj:j < ops.size:=(i1T.1 ho).1
   have:=i1U.1 he j (j1r.2 hj)
   simp only [ho,i1y,beq_iff_eq] at this
   exact this
  refine ⟨by simpa using hl1,fun k s hk=>?_,fun i j o ho=>?_,fun j o ho e hm hb=>?_,fun i j hij hj hord=>?_,fun j o cs b ho hs=>?_⟩
  ·obtain ⟨o,h2,h3⟩:=hl2 k s hk
   exact ⟨o,by simpa using h2,by simpa using h3⟩
  ·unfold b0s
   rw [(hedge j o ho).2,w0u]
   simp
  ·have:=i1U.1 (hedge j o ho).1 e hm
   simpa [hb] using this
  ·have hm:(i,j) ∈ (l0r ops.size).filter fun p=>!b0s (Region.before ops).toList p.1 p.2:=List.mem_filter.2 ⟨s0x hij hj,by simp [hord]⟩
   exact ⟨i1U.1 hu _ hm,fun hw=>List.mem_filter.2 ⟨hm,hw⟩⟩
  ·have:=i1U.1 hn o (by rw [← j1P] at ho;exact List.mem_of_getElem? ho)
   simp [j0x,hs] at this
 ·cases h
section
variable {ops:Array Oper} {l:List a0I} {bef:List Nat} {pairs:List (Nat × Nat)} (hT:y0o X ops l bef pairs)
include hT
theorem y0o.lt:∀ j i,j < ops.size→b0s bef i j=true→i < j:=by
 intro j
 induction j using Nat.strongRecOn with
 | _ j ih =>
  intro i hj ho
  have hoj:ops[j]? = some ops[j]:=i1S hj
  obtain ⟨e,hm,hb,h⟩:=(hT.bit i j _ hoj).1 ho
  have he:=hT.back j _ hoj e hm hb
  rcases h with rfl | h
  ·exact he
  ·have:=ih e.on he i (by omega) h;omega
theorem y0o.ready {listed:Array Bool} {j:Nat} (hr:j ∈ Region.ready .any ops listed) (hdown:∀ j,j < ops.size→listed.getD j false=true→∀ i,b0s bef i j=true→listed.getD i false=true) :
  j < ops.size∧listed.getD j true=false∧∀ i,b0s bef i j=true→listed.getD i false=true:=by
 unfold Region.ready at hr
 rw [List.mem_filter] at hr
 obtain ⟨hj,hr⟩:=hr
 have hj:=j1r.1 hj
 simp only [i1y,k1e] at hr
 have hoj:ops[j]? = some ops[j]:=i1S hj
 refine ⟨hj,hr.1,fun i hi=>?_⟩
 have hr2:=hr.2
 simp only [hoj,j1B,i1O] at hr2
 obtain ⟨e,hm,hb,h⟩:=(hT.bit i j _ hoj).1 hi
 rw [Array.all_eq_true'] at hr2
 have h3:=hr2 e (by simpa using hm)
 simp only [hb,Bool.not_true,k1Q] at h3
 rcases h with rfl | h
 ·exact h3
 ·have:=hT.back j _ hoj e hm hb
  exact hdown e.on (by omega) h3 i h
theorem y0o.two {i j:Nat} (hij:i ≠ j) (hi:i < ops.size) (hj:j < ops.size) (h1:b0s bef i j=false) (h2:b0s bef j i=false) {oi oj:Oper} {x y:a0I} (hoi:ops[i]? = some oi) (hoj:ops[j]? = some oj)
  (hx:l[i]? = some x) (hy:l[j]? = some y) :
  (∀ d,x.dst=some d→d ∉ i0u oj y∧y.dst ≠ some d)∧(∀ d,y.dst=some d→d ∉ i0u oi x)∧¬ (way x.op=3∧way y.op=2)∧¬ (way x.op=2∧way y.op=3) ∧
  ((way x.op=2∧way y.op ≠ 0)→(i,j) ∈ pairs ∨ (j,i) ∈ pairs):=by
 have key:∀ {p q:Nat} {op oq:Oper} {u v:a0I},p < q→q < ops.size→b0s bef p q=false→ops[p]? = some op→ops[q]? = some oq→l[p]? = some u→l[q]? = some v →
   (∀ d,u.dst=some d→d ∉ i0u oq v∧v.dst ≠ some d)∧(∀ d,v.dst=some d→d ∉ i0u op u)∧¬ (way u.op=3∧way v.op=2)∧¬ (way u.op=2∧way v.op=3) ∧
   ((way u.op=2∧way v.op ≠ 0)→(p,q) ∈ pairs)∧((way v.op=2∧way u.op ≠ 0)→(p,q) ∈ pairs):=by
  intro p q op oq u v hpq hq ho h3 h4 h5 h6
  obtain ⟨h7,h8⟩:=hT.un p q hpq hq ho
  simp only [B0W,h3,h4,h5,h6,i1y,p0y,w0E] at h7
  obtain ⟨⟨h9,h10⟩,h11⟩:=h7
  refine ⟨fun d hd=>?_,fun d hd=>?_,?_,?_,fun h=>h8 ?_,fun h=>h8 ?_⟩
  ·rw [hd] at h9;simpa using h9
  ·rw [hd] at h10;simpa using h10
  ·intro ⟨a1,a2⟩;simp [a1,a2] at h11
  ·intro ⟨a1,a2⟩;simp [a1,a2] at h11
  ·simp [j0G,h5,h6,h.1,h.2]
  ·simp [j0G,h5,h6,h.1,h.2]
 rcases Nat.lt_or_gt_of_ne hij with hlt | hlt
 ·obtain ⟨k1,k2,k3,k4,k5,k6⟩:=key hlt hj h1 hoi hoj hx hy
  exact ⟨k1,k2,k3,k4,fun h=>.inl (k5 h)⟩
 ·obtain ⟨k1,k2,k3,k4,k5,k6⟩:=key hlt hi h2 hoj hoi hy hx
  refine ⟨fun d hd=>⟨k2 d hd,fun e=>(k1 d e).2 hd⟩,fun d hd=>(k1 d hd).1,fun h=>k4 ⟨h.2,h.1⟩,fun h=>k3 ⟨h.2,h.1⟩,fun h=>.inr (k6 h)⟩
end
section
variable (call:Nat→FuncId→List Value→a0e→Res (Value × a0e)) (fl:Nat) (bef:List Nat)
structure Run where
 T:Nat→b0b
 Hh:Nat→a0e
 Pn:Nat→Option (Nat × Value)
 val:Nat→Value
 tc:Nat→List Nat × List Nat
 st:Nat→Nat
 ds:List Deferred
def j0g (R:Run) (k:Nat) (s:a0I):Prop :=
 (R.st k=0∧h0m bef k (R.Pn k)=true∧R.T (k + 1)=R.T k∧R.Hh (k + 1)=R.Hh k∧R.Pn (k + 1)=R.Pn k∧R.tc k=([],[])) ∨
 (R.st k=1∧h0m bef k (R.Pn k)=false∧b0j (R.T k) s.g=false∧R.val k=undef∧R.T (k + 1)=put (R.T k) s.dst undef∧R.Hh (k + 1)=R.Hh k∧R.Pn (k + 1)=R.Pn k∧R.tc k=([],[])) ∨
 (R.st k=2∧h0m bef k (R.Pn k)=false∧b0j (R.T k) s.g=true∧b0z call fl (R.T k) (R.Hh k) s.op=.ok (R.val k,R.Hh (k + 1))∧R.T (k + 1)=put (R.T k) s.dst (R.val k)∧R.Pn (k + 1)=R.Pn k ∧
  R.tc k=d0i (R.T k) s.op) ∨
 (R.st k=3∧h0m bef k (R.Pn k)=false∧b0j (R.T k) s.g=true∧b0z call fl (R.T k) (R.Hh k) s.op=.pan (R.val k)∧R.Pn k=none∧R.Pn (k + 1)=some (k,R.val k)∧R.T (k + 1)=R.T k∧R.Hh (k + 1)=R.Hh k ∧
  R.tc k=([],[]))
def Run.cons (i:Nat) (t:b0b) (H:a0e) (p:Option (Nat × Value)) (v:Value) (c:List Nat × List Nat) (s:Nat) (R:Run):Run :=
 { T := fun k => if k = i then t else R.T k, Hh := fun k => if k = i then H else R.Hh k, Pn := fun k => if k = i then p else R.Pn k, val := fun k => if k = i then v else R.val k,
   tc:=fun k=>if k=i then c else R.tc k,st:=fun k=>if k=i then s else R.st k,ds:=R.ds }
variable {call fl bef}
theorem j0g.cons {R:Run} {i k:Nat} {t:b0b} {H:a0e} {p:Option (Nat × Value)} {v:Value} {c:List Nat × List Nat} {n:Nat} {s:a0I} (hk:i < k) (h:j0g call fl bef R k s) :
  j0g call fl bef (R.cons i t H p v c n) k s:=by
 unfold j0g Run.cons at *
 simp only [i1k (show k ≠ i by omega),i1k (show k + 1 ≠ i by omega)]
 exact h
theorem U0c {pairs:List (Nat × Nat)}:∀ (r:List a0I) (i:Nat) (t:b0b) (H:a0e) (p:Option (Nat × Value)) (log:List (List Nat × List Nat)),b0S call fl bef pairs i r t H p log ≠ .bad →
  ∃ R:Run,R.T i=t∧R.Hh i=H∧R.Pn i=p∧(∀ m s,r[m]? = some s→j0g call fl bef R (i + m) s)∧c0U (log.reverse ++ (List.range' i r.length).map R.tc) pairs=true ∧
   b0S call fl bef pairs i r t H p log=match R.Pn (i + r.length) with | none=>.fin .normal (R.T (i + r.length)) (R.Hh (i + r.length)) | some (_,v)=>.pan v
 | [],i,t,H,p,log,h=>by
  refine ⟨⟨fun _=>t,fun _=>H,fun _=>p,fun _=>undef,fun _=>([],[]),fun _=>0,[]⟩,rfl,rfl,rfl,fun m s hm=>by simp at hm,?_,?_⟩
  ·simp only [b0S] at h
   split at h
   ·rename_i ha;simpa using ha
   ·exact i1A rfl h
  ·simp only [b0S] at h ⊢
   split at h
   ·rename_i ha;rw [i1n ha];rfl
   ·exact i1A rfl h
 | s :: r,i,t,H,p,log,h=>by
  have fin:∀ (t1:b0b) (H1:a0e) (p1:Option (Nat × Value)) (c:List Nat × List Nat) (v:Value) (n:Nat),b0S call fl bef pairs i (s :: r) t H p log=b0S call fl bef pairs (i + 1) r t1 H1 p1 (c :: log) →
    (∀ R:Run,R.T (i + 1)=t1→R.Hh (i + 1)=H1→R.Pn (i + 1)=p1→j0g call fl bef (R.cons i t H p v c n) i s) →
    ∃ R:Run,R.T i=t∧R.Hh i=H∧R.Pn i=p∧(∀ m s',(s :: r)[m]? = some s'→j0g call fl bef R (i + m) s')∧c0U (log.reverse ++ (List.range' i (s :: r).length).map R.tc) pairs=true ∧
     b0S call fl bef pairs i (s :: r) t H p log=match R.Pn (i + (s :: r).length) with | none=>.fin .normal (R.T (i + (s :: r).length)) (R.Hh (i + (s :: r).length)) | some (_,v)=>.pan v:=by
   intro t1 H1 p1 c v n heq hst
   rw [heq] at h
   obtain ⟨R,h1,h2,h3,h4,h5,h6⟩:=U0c r (i + 1) t1 H1 p1 (c :: log) h
   refine ⟨R.cons i t H p v c n,by simp [Run.cons],by simp [Run.cons],by simp [Run.cons],fun m s' hm=>?_,?_,?_⟩
   ·cases m with
    | zero=>simp at hm;subst hm;exact hst R h1 h2 h3
    | succ m=>rw [show i + (m + 1)=i + 1 + m by omega];exact (h4 m s' (by simpa using hm)).cons (by omega)
   ·have e:(List.range' i (s :: r).length).map (R.cons i t H p v c n).tc=c :: (List.range' (i + 1) r.length).map R.tc:=by
     rw [i1Y,k1Z,List.map_cons]
     congr 1
     ·simp [Run.cons]
     ·apply j1O
      intro x hx
      have:=(List.mem_range'_1.1 hx).1
      simp only [Run.cons]
      rw [i1k (by omega)]
    rw [e]
    simpa using h5
   ·rw [heq,h6]
    simp only [Run.cons,i1Y]
    rw [show i + (r.length + 1)=i + 1 + r.length by omega,i1k (by omega),i1k (by omega),i1k (by omega)]
  by_cases hh:h0m bef i p=true
  ·refine fin t H p ([],[]) undef 0 (by simp [b0S,hh]) (fun R h1 h2 h3=>.inl ?_)
   simp only [Run.cons,i1X,i1k (show i + 1 ≠ i by omega)]
   exact ⟨trivial,hh,h1,h2,h3,trivial⟩
  ·simp only [k1X] at hh
   by_cases hw:b0j t s.g=true
   ·cases hs:b0z call fl t H s.op with
    | bad=>exact i1A (by simp [b0S,hh,hw,hs]) h
    | pan v =>
     cases hp:p with
     | some u=>subst hp;exact i1A (by simp [b0S,hh,hw,hs]) h
     | none =>
      subst hp
      refine fin t H (some (i,v)) ([],[]) v 3 (by simp [b0S,hh,hw,hs]) (fun R h1 h2 h3=>.inr (.inr (.inr ?_)))
      simp only [Run.cons,i1X,i1k (show i + 1 ≠ i by omega)]
      exact ⟨trivial,hh,hw,hs,trivial,h3,h1,h2,trivial⟩
    | ok vH =>
     obtain ⟨v,H1⟩:=vH
     refine fin (put t s.dst v) H1 p (d0i t s.op) v 2 (by simp [b0S,hh,hw,hs]) (fun R h1 h2 h3=>.inr (.inr (.inl ?_)))
     simp only [Run.cons,i1X,i1k (show i + 1 ≠ i by omega)]
     exact ⟨trivial,hh,hw,by rw [h2];exact hs,h1,h3,trivial⟩
   ·simp only [k1X] at hw
    refine fin (put t s.dst undef) H p ([],[]) undef 1 (by simp [b0S,hh,hw]) (fun R h1 h2 h3=>.inr (.inl ?_))
    simp only [Run.cons,i1X,i1k (show i + 1 ≠ i by omega)]
    exact ⟨trivial,hh,hw,trivial,h1,h2,h3,trivial⟩
end
end
section
open Go
variable {X:Cx} {φ φ' ψ:Inj} {S S':Shp} {H H' H1:a0e} {w w':World} {fl:Nat} {t t':b0b} {a:Act} {so:SOp} {lone:Bool} {op:Op}
theorem j0z (h:∀ x ∈ a0y so,ev t x=ev t' x):opA fl t H so=opA fl t' H so:=by
 have lst:∀ {xs:List Opd},(∀ x ∈ xs,x ∈ a0y so)→xs.map (ev t)=xs.map (ev t'):=fun hx=>j1O (fun x hm=>h x (hx x hm))
 have opt:∀ {x:Option Opd},(∀ y,x=some y→y ∈ a0y so)→x.map (ev t)=x.map (ev t'):=fun {x} hx=>by cases x with | none=>rfl | some y=>simp [h y (hx y rfl)]
 have parts:∀ {ps:List (Nat × Nat × Opd)},(∀ p ∈ ps,p.2.2 ∈ a0y so)→b0y t ps=b0y t' ps:=fun hp=>j1O (fun p hm=>by rw [h _ (hp p hm)])
 cases so <;> simp only [opA]
 case build z ps=>rw [parts (fun p hm=>by simp only [a0y,j1e];exact ⟨p,hm,rfl⟩)]
 case lit e z n ps=>rw [parts (fun p hm=>by simp only [a0y,j1e];exact ⟨p,hm,rfl⟩)]
 case mkfn f xs ys=>rw [lst (xs:=xs) (fun x hm=>by simp [a0y,hm]),lst (xs:=ys) (fun x hm=>by simp [a0y,hm])]
 case sl e size x lo hi mx=>rw [h x (by simp [a0y]),opt (x:=lo) (fun y e=>by simp [a0y,e]),opt (x:=hi) (fun y e=>by simp [a0y,e]),opt (x:=mx) (fun y e=>by simp [a0y,e])]
 case call f xs l=>rw [lst (xs:=xs) (fun x hm=>by simp [a0y,hm])]
 case callv x xs l=>rw [h x (by simp [a0y]),lst (xs:=xs) (fun x hm=>by simp [a0y,hm])]
 case inv x tb xs l=>rw [h x (by simp [a0y]),lst (xs:=xs) (fun x hm=>by simp [a0y,hm])]
 case mnx b x xs=>rw [h x (by simp [a0y]),lst (xs:=xs) (fun x hm=>by simp [a0y,hm])]
 case pick c x y=>rw [h c (by simp [a0y]),h x (by simp [a0y]),h y (by simp [a0y])]
 case store n x y=>rw [h x (by simp [a0y]),h y (by simp [a0y])]
 case bin tg b x y=>rw [h x (by simp [a0y]),h y (by simp [a0y])]
 case appz e b z x y=>rw [h x (by simp [a0y]),h y (by simp [a0y])]
 case mk e b z x y=>rw [h x (by simp [a0y]),h y (by simp [a0y])]
 case ia n x y=>rw [h x (by simp [a0y]),h y (by simp [a0y])]
 case app e n b x y=>rw [h x (by simp [a0y]),h y (by simp [a0y])]
 case mv x=>rw [h x (by simp [a0y])]
 case box e x=>rw [h x (by simp [a0y])]
 case load g n x=>rw [h x (by simp [a0y])]
 case chk x=>rw [h x (by simp [a0y])]
 case un u x=>rw [h x (by simp [a0y])]
 case conv k x=>rw [h x (by simp [a0y])]
 case iface ty x=>rw [h x (by simp [a0y])]
 case fa o x=>rw [h x (by simp [a0y])]
 case fa0 e x=>rw [h x (by simp [a0y])]
 case fld g o n x=>rw [h x (by simp [a0y])]
 case ext x i=>rw [h x (by simp [a0y])]
 case len x=>rw [h x (by simp [a0y])]
 case cap x=>rw [h x (by simp [a0y])]
 case pan x=>rw [h x (by simp [a0y])]
theorem v0M (h:∀ x ∈ a0y so,ev t x=ev t' x):d0i t so=d0i t' so:=by
 cases so <;> simp only [d0i]
 case store n x y=>rw [h x (by simp [a0y])]
 case app e n b x y=>rw [h x (by simp [a0y]),h y (by simp [a0y])]
 case load g n x=>rw [h x (by simp [a0y])]
 case fa0 e x=>rw [h x (by simp [a0y])]
 case sl e size x lo hi mx=>rw [h x (by simp [a0y])]
theorem p0z {b:Nat} (h:b ∈ (d0i t so).2):way so=2:=by cases so <;> simp [d0i] at h <;> rfl
theorem z0F {b:Nat} (h:b ∈ (d0i t so).1):way so=1 ∨ way so=2:=by cases so <;> simp [d0i] at h <;> simp [way]
def d0M:SOp→Bool
 | .call _ _ b | .callv _ _ b | .inv _ _ _ b=>b
 | _=>false
theorem f0t {f:FuncId} {args:List Value} {l:Bool} (h:opA fl t H so=.call f args l):way so=3∧d0M so=l:=by
 have hc:=m0n h
 cases so <;> simp only [w0y,i1H] at hc
 case call=>simp [opA] at h;simp [way,d0M,h.2.2]
 case callv=>simp only [opA] at h;split at h <;> simp at h;simp [way,d0M,h.2.2]
 case inv =>
  simp only [opA] at h
  split at h
  ·split at h <;> simp at h;simp [way,d0M,h.2.2]
  ·cases h
theorem J0w {v:Value} (hw:way so=0) (h:opA fl t H so=.val v H1):H1=H:=by
 have ht:=q0m h
 cases so <;> simp only [way] at hw <;> first | (exact i1A hw (by decide)) | skip
 all_goals
  simp only [opA] at h
  first
   | (simp at h;exact h.2.symm)
   | (unfold b0C at h;split at h <;> simp at h;exact h.2.symm)
   | (split at h <;> first | (simp at h;exact h.2.symm) | (cases h;done) | (split at h <;> first | (simp at h;exact h.2.symm) | (cases h;done)) | (unfold b0C at h;split at h <;> simp at h;exact h.2.symm))
theorem r0Q (hc:cOp X.P lone op=some so):(way so ≠ 0→o0m op ≠ 0)∧(d0M so=true→lone=true):=by
 cases op
 case call c =>
  obtain ⟨callee,args,ats⟩:=c
  cases callee with
  | value f =>
   refine ⟨fun _=>by simp [o0m],fun hl=>?_⟩
   cases f <;> simp only [cOp] at hc
   case func f =>
    split at hc
    ·simp only [i1o,i1i,i1q,i1l] at hc
     obtain ⟨_,_,rfl⟩:=hc;exact hl
    ·cases hc
   all_goals
    simp only [i1o,i1i,i1q,i1l] at hc
    obtain ⟨_,_,_,_,rfl⟩:=hc;exact hl
  | invoke r n =>
   refine ⟨fun _=>by simp [o0m],fun hl=>?_⟩
   simp only [cOp,i1o,i1i,i1q,i1l] at hc
   obtain ⟨_,_,_,_,rfl⟩:=hc;exact hl
  | builtin b =>
   simp only [cOp] at hc
   split at hc
   ·simp only [i1o,i1i,i1q,i1l] at hc
    obtain ⟨_,_,_,_,rfl⟩:=hc
    exact ⟨fun h=>by simp [way] at h,fun h=>by simp [d0M] at h⟩
   ·simp only [i1o,i1i,i1q,i1l] at hc
    obtain ⟨_,_,_,_,rfl⟩:=hc
    exact ⟨fun h=>by simp [way] at h,fun h=>by simp [d0M] at h⟩
   ·simp only [i1o,i1i,i1q,i1l] at hc
    obtain ⟨_,_,_,_,rfl⟩:=hc
    exact ⟨fun h=>by simp [way] at h,fun h=>by simp [d0M] at h⟩
   ·simp only [i1o,i1i,i1q,i1l] at hc
    obtain ⟨_,_,_,_,rfl⟩:=hc
    exact ⟨fun h=>by simp [way] at h,fun h=>by simp [d0M] at h⟩
   ·simp only [i1o,i1i] at hc
    obtain ⟨_,_,_,_,_,_,hc⟩:=hc
    split at hc
    ·simp only [i1i,i1q,i1l] at hc
     obtain ⟨_,_,_,_,_,_,rfl⟩:=hc
     exact ⟨fun _=>by simp [o0m],fun h=>by simp [d0M] at h⟩
    ·split at hc
     ·simp only [i1i,i1q,i1l] at hc
      obtain ⟨_,_,_,_,_,_,rfl⟩:=hc
      exact ⟨fun _=>by simp [o0m],fun h=>by simp [d0M] at h⟩
     ·cases hc
   ·cases hc
 all_goals
  simp only [cOp,k1k,i1o,i1i,i1q,i1l,reduceCtorEq] at hc
 all_goals (try (split at hc))
 all_goals (try (simp only [i1o,i1q,i1i,i1l,reduceCtorEq] at hc))
 case move=>obtain ⟨_,_,rfl⟩:=hc;exact ⟨fun h=>by simp [way] at h,fun h=>by simp [d0M] at h⟩
 case assign=>obtain ⟨_,_,rfl⟩:=hc;exact ⟨fun h=>by simp [way] at h,fun h=>by simp [d0M] at h⟩
 all_goals
  (repeat' (first | (obtain ⟨_,_,hc⟩:=hc) | (split at hc) | (simp only [i1i,i1q,i1l,reduceCtorEq] at hc)))
 all_goals (try subst hc)
 all_goals
  refine ⟨fun h=>?_,fun h=>?_⟩
  ·first
    | (simp [o0m];done)
    | (simp [way] at h;done)
  ·simp [d0M] at h
def cut (φ:Inj) (m:Nat):Inj:=fun b=>if b < m then φ b else none
theorem b0w {m b:Nat} {y:Nat × Nat}:cut φ m b=some y ↔ b < m∧φ b=some y:=by
 unfold cut;split
 ·rename_i h;simp [h]
 ·rename_i h;simp [h]
theorem j0m {m k:Nat} (hmk:m≤k) (hφ:∀ b y,b < m→φ b=some y→φ' b=some y):∀ b y,cut φ m b=some y→cut φ' k b=some y:=fun b y h=>by
 rw [b0w] at h ⊢
 exact ⟨by omega,hφ b y h.1 h.2⟩
theorem VR.cut {m:Nat} (hm:∀ b y,φ b=some y→b < m) {v u:Value} (h:VR X φ S v u):∀ {u'},VR X ψ S' v u'→VR X (cut ψ m) S' v u':=by
 induction h with
 | bool b=>intro u' k;cases k;exact .bool _
 | int k n=>intro u' k;cases k;exact .int _ _
 | str s=>intro u' k;cases k;exact .str _
 | pnil=>intro u' k;cases k;exact .pnil
 | ptr a a' B o h1 h2 h3=>intro u' k;cases k with | ptr _ a2 B2 o2 g1 g2 g3=>exact .ptr _ _ B2 o2 g1 (b0w.2 ⟨hm _ _ h2,g2⟩) g3
 | snil=>intro u' k;cases k;exact .snil
 | sle a a' =>
  intro u' k
  cases k with
  | sle _ a2=>exact .sle _ _
  | sl _ a2 _ _ c2 B2 o2 g1 g2 g3 g4 g5 g6 g7 g8=>rw [g6 (by simp [unk])];exact .sle _ _
 | sl a a' len cap cap' B o h1 h2 h3 h4 h5 h6 h7 h8 =>
  intro u' k
  cases k with
  | sle _ a2=>exact .sle _ _
  | sl _ a2 _ _ c2 B2 o2 g1 g2 g3 g4 g5 g6 g7 g8=>exact .sl _ _ _ _ _ B2 o2 g1 (b0w.2 ⟨hm _ _ h2,g2⟩) g3 g4 g5 g6 g7 g8
 | nilFunc=>intro u' k;cases k;exact .nilFunc
 | nilIface=>intro u' k;cases k;exact .nilIface
 | func f a b a' b' h1 _ h3 _ ih1 ih2 =>
  intro u' k
  cases k with
  | func _ _ _ a2 b2 g1 g2 g3 g4=>exact .func _ _ _ _ _ g1 (fun i hi=>ih1 i hi (g2 i hi)) g3 (fun i hi=>ih2 i hi (g4 i hi))
 | iface ty v v' _ ih=>intro u' k;cases k with | iface _ _ v2 g=>exact .iface _ _ _ (ih g)
 | agg a a' h1 _ ih=>intro u' k;cases k with | agg _ a2 g1 g2=>exact .agg _ _ g1 (fun i hi=>ih i hi (g2 i hi))
 | tuple a a' h1 _ ih=>intro u' k;cases k with | tuple _ a2 g1 g2=>exact .tuple _ _ g1 (fun i hi=>ih i hi (g2 i hi))
theorem CR.cut {m:Nat} (hm:∀ b y,φ b=some y→b < m) {l u u':List Value} (h:CR X φ S l u) (k:CR X ψ S' l u'):CR X (cut ψ m) S' l u' :=
 ⟨k.1,fun i hi=>(h.2 i hi).cut hm (k.2 i hi)⟩
def y0l (X:Cx) (φ:Inj) (w:World) (B o:Nat) (ro:Bool) (e:TypeId) (cs:List Value):Prop :=
 ∃ c el fz,w.heap[B]? = some (.cells c el fz)∧o + cs.length≤c.size∧CR X φ w.shape? cs ((c.toList.drop o).take cs.length)∧(ro=false→X.base≤B∧fz=(0,0)∧el=e)∧(ro=true→B < X.base)
theorem y0l.mono {B o:Nat} {ro:Bool} {e:TypeId} {cs:List Value} (h:y0l X φ w B o ro e cs) (hφ:∀ b x,φ b=some x→φ' b=some x) (hS:∀ b x,w.shape? b=some x→w'.shape? b=some x) (hw:w'.heap[B]? = w.heap[B]?) :
  y0l X φ' w' B o ro e cs:=by
 obtain ⟨c,el,fz,h1,h2,h3,h4,h5⟩:=h
 exact ⟨c,el,fz,by rw [hw];exact h1,h2,h3.mono hφ hS,h4,h5⟩
theorem y0l.lt {B o:Nat} {ro:Bool} {e:TypeId} {cs:List Value} (h:y0l X φ w B o ro e cs):B < w.heap.size:=by
 obtain ⟨c,el,fz,h1,_⟩:=h
 exact (i1T.1 h1).1
end
end Go.Proofs.YtilekhkgobmolaaGreat.AI
