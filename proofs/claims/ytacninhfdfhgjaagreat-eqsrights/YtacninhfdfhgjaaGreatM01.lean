/- Part 2 of the proof. -/
import Derived.Orders
import Derived.Test.YtacninhfdfhgjaaGreatM00
set_option linter.unusedVariables false
set_option linter.unusedSimpArgs false
set_option linter.unusedSectionVars false
namespace Go.Proofs.YtacninhfdfhgjaaGreat.AI
section
open Go
variable {X:Cx} {φ φ':Inj} {S:Shp} {H H':a0c} {w w':World} {fl:Nat} {t:a0Q} {a:Act} {o:Oper}
theorem Rel.drew (hR:Rel X φ H w):Rel X φ H w.drew:=⟨hR.bs,hR.lt,hR.row,hR.sep,hR.mp⟩
theorem c0T.drew (hR:Rel X φ H w):c0T X fl φ H w φ H w.drew :=
 { ext := fun _ _ h => h, rel := hR.drew, shp := fun _ _ h => h, wsz := Q0W _, os := rfl, tape := rfl, out := rfl, hsz := Q0W _, keep := fun _ _ => rfl,
   kind:=fun _ _ cs _ h=>⟨cs,h⟩,fresh:=(fun b x h h'=>by rw [h] at h';cases h'),newB:=(fun b B o h h'=>by rw [h] at h';cases h'),frame:=fun _ _ _=>rfl }
theorem c0T.kill (hR:Rel X φ H w) {b:Nat} (hbl:b < H.size) (hfl:fl≤b):c0T X fl φ H w φ (H.setIfInBounds b .dead) w:=by
 have hsub:∀ b1 ro e cs,a0c.blk (H.setIfInBounds b .dead) b1=.row ro e cs→b1 ≠ b∧H.blk b1=.row ro e cs:=fun b1 ro e cs h=>by
  rw [b0k _ _ _ _ hbl] at h
  split at h
  ·cases h
  ·rename_i hne;exact ⟨hne,h⟩
 refine
  { ext := fun _ _ h => h
    rel:=?_
    shp:=fun _ _ h=>h
    wsz:=Q0W _
    os:=rfl
    tape:=rfl
    out:=rfl
    hsz:=by simp
    keep:=fun b1 hb1=>by rw [b0k _ _ _ _ hbl,R0c (by omega)]
    kind:=fun b1 e cs _ h=>⟨cs,(hsub _ _ _ _ h).2⟩
    fresh:=fun b x h h'=>by rw [h] at h';cases h'
    newB:=fun b B o h h'=>by rw [h] at h';cases h'
    frame:=fun _ _ _=>rfl }
 refine { bs:=hR.bs,lt:=fun b x h=>by simpa using hR.lt b x h,row:=fun b1 B o ro e cs h hr=>hR.row b1 B o ro e cs h (hsub _ _ _ _ hr).2,sep:=?_,mp:=fun b1 B o h hm=>hR.mp b1 B o h (by
  rw [b0k _ _ _ _ hbl] at hm
  split at hm
  ·cases hm
  ·exact hm) }
 intro b1 b2 B o o' e cs h1 h2 hne hr
 have:=hR.sep b1 b2 B o o' e cs h1 h2 hne (hsub _ _ _ _ hr).2
 rw [b0k _ _ _ _ hbl]
 split
 ·rfl
 ·exact this
theorem j0M (z:Array Value) (n:Nat) (hz:0 < z.size):(Builtin.zeroCells z n).toList=b0Q z.toList n:=h0i z n hz
theorem m0m (z:List Value):∀ (m n:Nat),m≤n→(b0Q z n).take (m * z.length)=b0Q z m
 | 0,n,_=>by simp [b0Q]
 | m + 1,0,h=>by omega
 | m + 1,n + 1,h=>by
  simp only [b0Q]
  rw [Nat.succ_mul,Nat.add_comm (m * z.length),List.take_append]
  simp [m0m z m n (by omega),R0j]
theorem c0T.moved (hR:Rel X φ H w) {b B o off:Nat} {e:TypeId} {cs0 cs:List Value} (hb:φ b=some (B,o)) (hk:H.blk b=.row false e cs0) (hfl:fl≤b) (hflH:fl≤H.size)
  (c:Array Value) (c':Array Value) (h1:w.heap[B]? = some (.cells c e (0,0))) (hsz:c'.size=c.size) (hle:off + cs.length≤c'.size) (hc:CR X φ w.shape? cs ((c'.toList.drop off).take cs.length)) :
  c0T X fl φ H w (fun b1=>if b1=H.size then some (B,off) else φ b1) ((H.setIfInBounds b .dead).push (.row false e cs)) (w.setRow B c'):=by
 have hbl:=a0k hk
 obtain ⟨c0,g1,g2,g3,g4⟩:=hR.blkT hb hk
 have hsh:=f0h w B c c' e (0,0) h1 hsz
 have hshp:(w.setRow B c').shape? = w.shape?:=funext hsh
 have hBl:B < w.heap.size:=(R0n.1 h1).1
 have hext:∀ b1 x,φ b1=some x→(fun b1=>if b1=H.size then some (B,off) else φ b1) b1=some x:=fun b1 x hx=>by
  have:=hR.lt b1 x hx
  show (if _ then _ else _)=_
  rw [R0c (by omega)];exact hx
 have hsize:(H.setIfInBounds b .dead).size=H.size:=by simp
 have hblk:∀ b1,a0c.blk ((H.setIfInBounds b .dead).push (.row false e cs)) b1=if b1=H.size then .row false e cs else if b1=b then .dead else H.blk b1:=fun b1=>by
  rw [a0y,hsize]
  split
  ·rfl
  ·exact b0k _ _ _ _ hbl
 refine
  { ext := hext
    rel:=?_
    shp:=fun B1 x h=>by rw [hsh];exact h
    wsz:=by simp [World.setRow]
    os:=rfl
    tape:=rfl
    out:=rfl
    hsz:=by simp
    keep:=fun b1 hb1=>by rw [hblk,R0c (by omega),R0c (by omega)]
    kind:=fun b1 e1 cs1 hb1 hrow=>by
     rw [hblk,R0c (by omega)] at hrow
     split at hrow
     ·cases hrow
     ·exact ⟨cs1,hrow⟩
    fresh:=fun b1 x hb1 hn=>by
     by_cases h:b1=H.size
     ·omega
     ·simp only [R0c h] at hb1;rw [hb1] at hn;cases hn
    newB:=fun b1 B1 o1 hb1 hn=>by
     by_cases h:b1=H.size
     ·simp only [R0k h,Q0V,S0L] at hb1
      exact .inr ⟨b,o,e,cs0,by rw [hb,hb1.1],hfl,hk⟩
     ·simp only [R0c h] at hb1;rw [hb1] at hn;cases hn
    frame:=fun B1 _ hno=>setRow_other w B B1 _ (fun h=>by subst h;exact hno b o e cs0 hb hfl hk) }
 refine { bs:=by have:=hR.bs;simpa [World.setRow] using this,lt:=?_,row:=?_,sep:=?_,mp:=?_ }
 ·intro b1 x hb1
  simp only [S0Z,hsize]
  by_cases h:b1=H.size
  ·omega
  ·simp only [R0c h] at hb1;have:=hR.lt b1 x hb1;omega
 ·intro b1 B1 o1 ro e1 cs1 hb1 hrow
  rw [hblk] at hrow
  rw [hshp]
  by_cases h:b1=H.size
  ·simp only [R0k h] at hb1 hrow
   cases hb1;cases hrow
   exact ⟨c',e,(0,0),setRow_heap w B c c' e (0,0) h1,hle,hc.mono hext (fun _ _ h=>h),fun _=>⟨g2,rfl,rfl⟩,fun h=>by cases h⟩
  ·simp only [R0c h] at hb1 hrow
   split at hrow
   ·cases hrow
   ·rename_i hne
    by_cases hB:B1=B
    ·subst hB
     have:=hR.sep b b1 B1 o o1 e cs0 hb hb1 (fun e=>hne e.symm) hk
     rw [this] at hrow;cases hrow
    ·obtain ⟨c1,el,fz,h6,h7,h8,h9⟩:=hR.row b1 B1 o1 ro e1 cs1 hb1 hrow
     exact ⟨c1,el,fz,by rw [setRow_other w B B1 _ hB];exact h6,h7,h8.mono hext (fun _ _ h=>h),h9⟩
 ·intro b1 b2 B1 o1 o2 e1 cs1 hb1 hb2 hne hrow
  rw [hblk] at hrow ⊢
  by_cases h:b1=H.size
  ·have h':b2 ≠ H.size:=fun e=>hne (h.trans e.symm)
   simp only [R0k h] at hb1 hrow
   simp only [R0c h'] at hb2 ⊢
   cases hb1
   by_cases h2:b2=b
   ·rw [R0k h2]
   ·rw [R0c h2]
    exact hR.sep b b2 _ o o2 e cs0 hb hb2 (fun e=>h2 e.symm) hk
  ·simp only [R0c h] at hb1 hrow
   split at hrow
   ·cases hrow
   ·rename_i hnb
    by_cases h':b2=H.size
    ·simp only [R0k h'] at hb2
     cases hb2
     have:=hR.sep b1 b _ o1 o e1 cs1 hb1 hb hnb hrow
     rw [this] at hk;cases hk
    ·simp only [R0c h'] at hb2 ⊢
     split
     ·rfl
     ·exact hR.sep b1 b2 B1 o1 o2 e1 cs1 hb1 hb2 hne hrow
 ·intro b1 B1 o1 hb1 hm
  rw [hblk] at hm
  by_cases h:b1=H.size
  ·rw [R0k h] at hm;cases hm
  ·simp only [R0c h] at hb1 hm
   split at hm
   ·cases hm
   ·have h6:=hR.mp b1 B1 o1 hb1 hm
    have hB:B1 ≠ B:=by rintro rfl;rw [h1] at h6;cases h6
    rw [setRow_other w B B1 _ hB];exact h6
section
variable (hR:Rel X φ H w) (hT:CR X φ w.shape? t a.tmps.toList)
include hR hT
omit hT in
theorem v0L (hfl:fl≤H.size) {ty:TypeId} (ho:o.op=.makeMap ty none):a0F X fl φ H w o a (.map (some H.size)) (H.push .emap):=by
 refine ⟨_,_,.map (some w.heap.size),.inl ?_,?_,c0T.emap hR hfl⟩
 ·simp [execOp,ho,Instr.makeMap]
 ·exact .mp _ _ 0 (by simp)
theorem x0G {ty k e:TypeId} {x i:Operand} {x' i':Opd} {z:Value} (ho:o.op=.lookup ty x i false) (hu:X.P.underlying ty=some (.map k e)) (hk:j0R X.P k=true) (hz:(X.P.info? e).bind (·.zero)=some z) (hfz:q0O z=true)
  (hx:b0E x=some x') (hi:b0E i=some i') (fx:a0v x' = true) (fi:a0v i' = true) {v:Value} (h:opA fl t H (.look z x' i')=.val v H'):a0F X fl φ H w o a v H':=by
 have hvx:=a0Z hT hx fx
 have hvi:=a0Z hT hi fi
 simp only [opA] at h
 unfold m0E at h
 split at h
 ·rename_i b kk n hb hn
  cases hbl:H.blk b with
  | dead=>rw [hbl] at h;cases h
  | row _ _ _=>rw [hbl] at h;cases h
  | emap =>
   rw [hbl] at h
   simp only [b0b,OpRes.val.injEq] at h
   obtain ⟨rfl,rfl⟩:=h
   rw [hb] at hvx
   rw [hn] at hvi
   generalize hg:a.eval x=g at hvx
   generalize hg2:a.eval i=g2 at hvi
   cases hvx with
   | mp b B oo hφ =>
    cases hvi with
    | int kk n =>
     have hm:=hR.mp b B oo hφ hbl
     obtain ⟨ik,hik⟩:∃ ik,X.P.underlying k=some (.int ik):=by
      unfold j0R at hk;split at hk
      ·rename_i ik h;exact ⟨ik,h⟩
      ·cases hk
     obtain ⟨inf,hinf,hzero⟩:∃ inf,X.P.info? e=some inf∧inf.zero=some z:=by
      cases hi:X.P.info? e with
      | none=>rw [hi] at hz;cases hz
      | some inf=>rw [hi] at hz;exact ⟨inf,rfl,hz⟩
     have hck:∀ m:Nat,(Instr.checkKey true (m + 1) k (.int kk n)).run X.P w=.ok () w:=fun m=>by
      unfold Instr.checkKey
      simp [run_underlying hik]
     have hgo:(getObj B).run X.P w=.ok (.map #[] 0) w:=by simp [getObj,Sem.run,hm]
     have hfk:(Instr.findKey k (.int kk n) []).run X.P w=.ok none w:=by
      simp [Instr.findKey,run_underlying hik,Instr.findNow]
     have hzv:(zeroValue e).run X.P w=.ok z w:=by simp [zeroValue,typeInfo,hinf,hzero]
     have hck2:=hck 9999
     have key:(Instr.lookup ty (.map (some B)) (.int kk n) false).run X.P w=.ok z w:=by
      unfold Instr.lookup
      simp [run_underlying hu,hgo,hck2,hfk,hzv]
     refine a0F.same hR (v':=z) ?_ (k0r hfz)
     simp [execOp,ho,hg,hg2,key]
 ·cases h
theorem L0a (hfl:fl≤H.size) {ty e:TypeId} {z:List Value} {size bytes:Nat} {x y:Operand} {x' y':Opd} (ho:o.op=.makeSlice ty x y) (he:e0P X.P ty=some e) (hs:b0U X.P e=some size)
  (hb:g0v X.P e=some bytes) (hz:h0B X.P e=some z) (hsz:size=z.length) (hpos:0 < size) (hx:b0E x=some x') (hy:b0E y=some y') (fx:a0v x' = true) (fy:a0v y' = true)
  {v:Value} (h:opA fl t H (.mk e bytes z x' y')=.val v H'):a0F X fl φ H w o a v H':=by
 have hu:=d0x he
 obtain ⟨hf,zv,i,hi,hzv,_,hvz,hrun⟩:=f0t hz
 have hzs:zv.cells.size=size:=by rw [hsz,← hvz];simp
 have hvx:=a0Z hT hx fx
 have hvy:=a0Z hT hy fy
 have hbi:i.bytes=bytes:=by simpa [g0v,hi] using hb
 have hsi:i.size=size:=by simpa [b0U,hi] using hs
 simp only [opA] at h
 split at h
 ·rename_i k1 l k2 c e1 e2
  split at h
  ·rename_i hc
   obtain ⟨h0,h1,h2,h3⟩:=hc
   simp only [OpRes.val.injEq] at h
   obtain ⟨rfl,rfl⟩:=h
   rw [e1] at hvx;rw [e2] at hvy
   generalize hg1:a.eval x=g1 at hvx
   generalize hg2:a.eval y=g2 at hvy
   cases hvx;cases hvy
   have hbc:(i.bytes:Int) * c≤281474976710656:=by
    have h4:i.bytes * c.toNat≤1024 * 1073741824:=S0k (by omega) (by omega)
    have h5:((i.bytes * c.toNat:Nat):Int)=(i.bytes:Int) * c:=by rw [S0F,S0J (by omega)]
    omega
   have hmk:=run_make (P:=X.P) w ty e i zv hu hi hzv k1 k2 l c h0 h1 hbc (by omega)
   have hcl:(madeCells zv.cells (c.toNat * i.size)).toList=b0Q z c.toNat:=by
    have:=h0i zv.cells c.toNat (by omega)
    rw [hzs,hvz] at this
    rw [hsi];simpa [madeCells,hzs] using this
   have hcs:(madeCells zv.cells (c.toNat * i.size)).size=c.toNat * size:=by rw [size_madeCells,hsi]
   have hlc:l.toNat * size≤c.toNat * size:=R0h _ (by omega)
   refine a0F.made hR hT hfl e _ _ (by rw [c0J,hcs,← hsz];exact hlc) ?_ _ (.slice (some ⟨w.heap.size,0,none⟩) l.toNat c.toNat) (by simp [execOp,ho,hg1,hg2,hmk])
    (g0C hR _ e _ _ _ size (c0Z hs) (fun _=>rfl) (by omega) (by rw [hcs];exact Q0W _))
   rw [hcl,c0J,m0m _ _ _ (by omega)]
   exact d0N (g0T hf _)
  ·cases h
 ·cases h
theorem v0N {ty:TypeId} {n:Nat} {x y:Operand} {x' y':Opd} (ho:o.op=.store ty x y) (hn:b0U X.P ty=some n) (hx:b0E x=some x') (hy:b0E y=some y') (fx:a0v x' = true) (fy:a0v y' = true)
  {v:Value} (h:opA fl t H (.store n x' y')=.val v H'):a0F X fl φ H w o a v H':=by
 have hvx:=a0Z hT hx fx
 have hvy:=(a0Z hT hy fy).cells
 simp only [opA] at h
 split at h
 ·rename_i p e1
  split at h
  ·cases h
  ·rename_i hc
   split at h
   ·rename_i H2 hw
    simp only [OpRes.val.injEq] at h
    obtain ⟨rfl,rfl⟩:=h
    rw [e1] at hvx
    generalize hg1:a.eval x=g1 at hvx
    cases hvx with
    | ptr _ q B o' h1 h2 h3 =>
     subst h3
     obtain ⟨w',hst,hstep⟩:=c0T.store hR h2 hw hvy
     have hlen:=hvy.1
     have hsz:(a.eval y).cells.size=n:=by
      have:¬ (a0M (ev t y')).length ≠ n:=fun e=>hc (.inr e)
      simp only [S0W] at hlen;omega
     refine ⟨φ,w',undef,.inr ⟨rfl,?_⟩,VR.undef,hstep⟩
     simp [execOp,ho,hg1,Instr.storeAt,Instr.sureAddr,storeVar,c0o hn,hsz,hst]
   ·cases h
 ·cases h
omit hR hT in
theorem j0i (w:World) (t u ty e:TypeId) (i:TypeInfo) (z:Value) (k k':IntKind) (ht:X.P.underlying t=some (.slice e)) (hk:X.P.underlying u=some (.int k)) (hi:X.P.info? e=some i) (hz:i.zero=some z) (n:Int) (h0:0 < n) (h1:n≤1073741824) (hb:i.bytes≤1024) (hs:0 < i.size) :
  (Builtin.append_ #[t,u] ty #[.slice none 0 0,.int k' n]).run X.P w=.ok (.slice (some ⟨w.heap.size,0,none⟩) n.toNat (grownCap w n.toNat 0 e))
   (w.drew.alloc (.cells (Builtin.zeroCells z.cells n.toNat ++ Builtin.zeroCells z.cells (grownCap w n.toNat 0 e - n.toNat)) e)):=by
 have wl:IntKind.i64.wrap n=n:=by rw [IntKind.wrap_i64];omega
 obtain ⟨m,rfl⟩:∃ m:Nat,n=m:=⟨n.toNat,by omega⟩
 have n1:¬ (m:Int) < 0:=by omega
 have hm0:m ≠ 0:=by omega
 have hsm:m * i.bytes≤1073741824 * 1024:=S0k (by omega) hb
 have n2:¬ (281474976710656 < (m:Int) * (i.bytes:Int)):=by
  have:((m * i.bytes:Nat):Int)=(m:Int) * (i.bytes:Int):=S0F _ _
  omega
 have hms:m * i.size ≠ 0:=by have:=Nat.mul_pos (show 0 < m by omega) hs;omega
 have h63:¬ (9223372036854775807 < (m:Int)):=by omega
 have h48:¬ (281474976710656 < Builtin.nextslicecap m 0 * i.bytes):=by rw [nextslicecap_zero (by omega)];omega
 have hms2:¬ (m=0 ∨ i.size=0):=by omega
 simp [Builtin.append_,run_underlying ht,run_underlying hk,sizeOf,typeInfo,zeroValue,hi,hz,asInt,asIntOf,wl,n1,n2,hm0,hms,hms2,h63,h48,Question.forced,run_firstCells_none,newRow,grownCap]
theorem x0D (hfl:fl≤H.size) {ty u e ty2:TypeId} {z:List Value} {size bytes:Nat} {as:Array Operand} {ats:Array TypeId} {x y:Operand} {x' y':Opd}
  (ho:o.op=.call { callee:=.builtin .append,args:=as,argTypes:=ats }) (hty2:o.type=ty2) (has:as.toList=[x,y]) (hats:ats.toList=[ty,u]) (he:e0P X.P ty=some e) (hs:b0U X.P e=some size)
  (hb:g0v X.P e=some bytes) (hz:h0B X.P e=some z) (hsz:size=z.length) (hpos:0 < size) (hu2:j0R X.P u=true) (hx:b0E x=some x') (hy:b0E y=some y') (fx:a0v x' = true) (fy:a0v y' = true)
  {v:Value} (h:opA fl t H (.appz e bytes z x' y')=.val v H'):a0F X fl φ H w o a v H':=by
 have hu:=d0x he
 obtain ⟨hf,zv,i,hi,hzv,_,hvz,hrun⟩:=f0t hz
 have hzs:zv.cells.size=size:=by rw [hsz,← hvz];simp
 have hvx:=a0Z hT hx fx
 have hvy:=a0Z hT hy fy
 have hbi:i.bytes=bytes:=by simpa [g0v,hi] using hb
 have hsi:i.size=size:=by simpa [b0U,hi] using hs
 have hce:=c0Z hs
 have has':as = #[x,y]:=by rw [← R0F (xs:=as),has]
 have hats':ats = #[ty,u]:=by rw [← R0F (xs:=ats),hats]
 subst has' hats'
 obtain ⟨k,hk⟩:∃ k,X.P.underlying u=some (.int k):=by
  unfold j0R at hu2;split at hu2
  ·rename_i k hk;exact ⟨k,hk⟩
  ·cases hu2
 simp only [opA] at h
 split at h
 ·rename_i m hg
  simp only [OpRes.val.injEq] at h
  obtain ⟨rfl,rfl⟩:=h
  unfold w0F at hg
  split at hg
  ·rename_i k' n e1 e2
   split at hg
   ·rename_i hc
    obtain ⟨c0,c1,c2⟩:=hc
    simp only [Q0V] at hg
    subst hg
    rw [e1] at hvx;rw [e2] at hvy
    generalize hg1:a.eval x=g1 at hvx
    generalize hg2:a.eval y=g2 at hvy
    cases hvx;cases hvy
    have hr:=j0i (X:=X) w ty u ty2 e i zv k k' hu hk hi hzv n c0 c1 (by omega) (by omega)
    have hex:(execOp a.eval o).run X.P w=.ok (.value (.slice (some ⟨w.heap.size,0,none⟩) n.toNat (grownCap w n.toNat 0 e))) (w.drew.alloc (.cells (Builtin.zeroCells zv.cells n.toNat ++ Builtin.zeroCells zv.cells (grownCap w n.toNat 0 e - n.toNat)) e)):=by
     simp [execOp,ho,hg1,hg2,resolve,invoke,builtin,hty2,hr]
    have hge:=grownCap_ge w n.toNat 0 e
    obtain ⟨m,hm⟩:∃ m,m=n.toNat:=⟨_,rfl⟩
    rw [← hm] at hex hge ⊢
    have hzl:(Builtin.zeroCells zv.cells m).toList=b0Q z m:=by rw [j0M _ _ (by omega),hvz]
    have hzsz:(Builtin.zeroCells zv.cells m).size=m * size:=by rw [size_zeroCells,hzs]
    have hrl:(b0Q z m).length=m * size:=by rw [c0J,← hsz]
    have hst:=c0T.alloc (fl:=fl) (hR.drew) e (b0Q z m) (Builtin.zeroCells zv.cells m ++ Builtin.zeroCells zv.cells (grownCap w m 0 e - m))
     (by rw [hrl,Array.size_append,hzsz];omega)
     (by
      have:(Builtin.zeroCells zv.cells m ++ Builtin.zeroCells zv.cells (grownCap w m 0 e - m)).toList.take (b0Q z m).length=b0Q z m:=by
       rw [Array.toList_append,hzl];exact List.take_left
      rw [this];exact d0N (g0T hf _)) hfl
    refine ⟨_,_,_,.inl hex,?_,(c0T.drew hR).trans hst (Q0W _) hR⟩
    exact g0C (X:=X) (φ:=φ) (H:=H) (w:=w.drew) hR.drew (Builtin.zeroCells zv.cells m ++ Builtin.zeroCells zv.cells (grownCap w m 0 e - m)) e m unk (grownCap w m 0 e) size hce (fun h=>R0q rfl h) hge (by
     rw [Array.size_append,hzsz,size_zeroCells,hzs,← R0o]
     exact R0h _ (by omega))
   ·cases hg
  ·cases hg
 ·cases h
theorem G0t (hfl:fl≤H.size) {ty e ty2:TypeId} {z:List Value} {size bytes:Nat} {as:Array Operand} {ats:Array TypeId} {x y:Operand} {x' y':Opd}
  (ho:o.op=.call { callee:=.builtin .append,args:=as,argTypes:=ats }) (hty2:o.type=ty2) (has:as.toList=[x,y]) (hats:ats.toList=[ty,ty]) (he:e0P X.P ty=some e) (hs:b0U X.P e=some size)
  (hb:g0v X.P e=some bytes) (hz:h0B X.P e=some z) (hsz:size=z.length) (_:0 < size) (hx:b0E x=some x') (hy:b0E y=some y') (fx:a0v x' = true) (fy:a0v y' = true)
  {v:Value} (h:opA fl t H (.app e size bytes x' y')=.val v H'):a0F X fl φ H w o a v H':=by
 have hu:=d0x he
 obtain ⟨hf,zv,i,hi,hzv,_,hvz,hrun⟩:=f0t hz
 have hzs:zv.cells.size=size:=by rw [hsz,← hvz];simp
 have hvx:=a0Z hT hx fx
 have hvy:=a0Z hT hy fy
 have hbi:i.bytes=bytes:=by simpa [g0v,hi] using hb
 have hsi:i.size=size:=by simpa [b0U,hi] using hs
 have hce:=c0Z hs
 have has':as = #[x,y]:=by rw [← R0F (xs:=as),has]
 have hats':ats = #[ty,ty]:=by rw [← R0F (xs:=ats),hats]
 subst has' hats'
 have hexec:∀ (g1 g2 v':Value) (w1:World),a.eval x=g1→a.eval y=g2→(Builtin.append_ #[ty,ty] ty2 #[g1,g2]).run X.P w=.ok v' w1→(execOp a.eval o).run X.P w=.ok (.value v') w1:=by
  intro g1 g2 v' w1 e1 e2 e3
  simp [execOp,ho,e1,e2,resolve,invoke,builtin,hty2,e3]
 simp only [opA] at h
 cases hap:j0u fl H e size bytes (ev t x') (ev t y') with
 | none=>simp [hap,e0A] at h
 | some r =>
  obtain ⟨rv,rH⟩:=r
  simp only [hap,e0A,OpRes.val.injEq] at h
  obtain ⟨rfl,rfl⟩:=h
  generalize hg1:a.eval x=g1 at hvx
  generalize hg2:a.eval y=g2 at hvy
  unfold j0u at hap
  split at hap
  ·rename_i base len cap xb n xc e1 e2
   rw [e1] at hvx;rw [e2] at hvy
   split at hap
   ·-- nothing appended
    rename_i hn0;cases hap
    subst hn0
    have key:∀ (p':Option Addr) (c':Nat) (q':Option Addr) (d':Nat),g1=.slice p' len c'→g2=.slice q' 0 d'→len≤c'→a0F X fl φ H w o a (.slice base len cap) H:=by
     intro p' c' q' d' h1 h2 hlc
     subst h1 h2
     refine a0F.same hR (v':=.slice p' len c') (hexec _ _ _ _ hg1 hg2 ?_) hvx
     have hnew:(Builtin.firstCells size 0 (.slice q' 0 d')).run X.P w=.ok #[] w:=by cases q' <;> simp [Builtin.firstCells,loadCells,loadCellsFrom]
     cases p' <;> simp [Builtin.append_,run_underlying hu,sizeOf,typeInfo,hi,Builtin.lenOf,hlc,hsi,hnew,storeCells]
    cases hvx with
    | sle _ p' =>
     cases hvy with
     | snil=>exact key _ _ _ _ rfl rfl (Q0W _)
     | sle _ q'=>exact key _ _ _ _ rfl rfl (Q0W _)
     | sl _ q' _ _ d' B2 o2 _ _ _ _ _ _ _ _=>exact key _ _ _ _ rfl rfl (Q0W _)
    | snil =>
     cases hvy with
     | snil=>exact key _ _ _ _ rfl rfl (Q0W _)
     | sle _ q'=>exact key _ _ _ _ rfl rfl (Q0W _)
     | sl _ q' _ _ d' B2 o2 _ _ _ _ _ _ _ _=>exact key _ _ _ _ rfl rfl (Q0W _)
    | sl _ p' _ _ c' B o' k1 k2 k3 k4 k5 k6 k7 k8 =>
     cases hvy with
     | snil=>exact key _ _ _ _ rfl rfl k7
     | sle _ q'=>exact key _ _ _ _ rfl rfl k7
     | sl _ q' _ _ d' B2 o2 _ _ _ _ _ _ _ _=>exact key _ _ _ _ rfl rfl k7
   ·rename_i hn0
    split at hap
    ·rename_i hbd
     obtain ⟨hb1,hb2,_⟩:=hbd
     split at hap
     ·cases hap
     ·rename_i xp
      split at hap
      ·cases hap
      ·rename_i new hnew
       cases hvy with
       | sle _ q'=>exact R0q rfl hn0
       | sl _ q' _ _ d' B2 o2 k1 k2 k3 k4 k5 k6 k7 k8 =>
        have hoff2:=k5 (by omega)
        have hq:q' = ⟨B2,o2 + xp.off,none⟩:=by cases q';simp_all
        subst hq
        obtain ⟨hnl,new',hnl',hncr,hncell⟩:=hR.cells k2 hnew
        have hncell':=i0v hncell
        have hsmall:(len + n) * i.bytes≤140737488355328:=by
         have:(len + n) * i.bytes≤1073741824 * 1024:=S0k hb1 (by omega)
         omega
        -- the new row of a grown slice
        have grownRow:∀ (G:a0c),Rel X φ G w→G.size=H.size→∀ (olds olds':List Value) (m:Nat),olds.length=m * size→CR X φ w.shape? olds olds'→∀ cap0,
          (execOp a.eval o).run X.P w=.ok (.value (.slice (some ⟨w.heap.size,0,none⟩) (m + n) (grownCap w (m + n) cap0 e)))
           (w.drew.alloc (.cells (olds'.toArray ++ new'.toArray ++ Builtin.zeroCells zv.cells (grownCap w (m + n) cap0 e - (m + n))) e)) →
          ∃ φ' w' v',(execOp a.eval o).run X.P w=.ok (.value v') w'∧VR X φ' w'.shape? (.slice (some ⟨G.size,0,none⟩) (m + n) unk) v'∧c0T X fl φ G w φ' (G.push (.row false e (olds ++ new))) w':=by
         intro G hG hGs olds olds' m hol hocr cap0 hex
         have hge:=grownCap_ge w (m + n) cap0 e
         have hlen:(olds ++ new).length=(m + n) * size:=by rw [R0A,hol,hnl,R0o]
         have hcr:=hocr.append hncr
         have hlen':(olds' ++ new').length=(m + n) * size:=by rw [← hcr.1,hlen]
         have hst:=c0T.alloc (fl:=fl) (hG.drew) e (olds ++ new) (olds'.toArray ++ new'.toArray ++ Builtin.zeroCells zv.cells (grownCap w (m + n) cap0 e - (m + n)))
          (by simp only [Array.size_append,List.size_toArray,hlen];simp only [R0A] at hlen';omega)
          (by
           have:(olds'.toArray ++ new'.toArray ++ Builtin.zeroCells zv.cells (grownCap w (m + n) cap0 e - (m + n))).toList.take (olds ++ new).length=olds' ++ new':=by
            rw [hlen,← hlen',Array.toList_append,Array.toList_append]
            exact List.take_left
           rw [this];exact hcr) (by omega)
         refine ⟨_,_,_,hex,?_,(c0T.drew hG).trans hst (Q0W _) hG⟩
         exact g0C (X:=X) (φ:=φ) (H:=G) (w:=w.drew) hG.drew (olds'.toArray ++ new'.toArray ++ Builtin.zeroCells zv.cells (grownCap w (m + n) cap0 e - (m + n))) e (m + n) unk (grownCap w (m + n) cap0 e) size hce (fun h=>R0q rfl h) hge (by
          simp only [Array.size_append,List.size_toArray,size_zeroCells,hzs]
          simp only [R0A] at hlen'
          rw [hlen',← R0o]
          exact R0h _ (by omega))
        split at hap
        ·cases hap
        rename_i hplain
        split at hap
        ·-- onto nil
         split at hap
         ·rename_i hz0;cases hap
          obtain ⟨rfl,rfl⟩:=hz0
          cases hvx
          have hr:=run_append_nil (P:=X.P) w ty ty2 e i zv hu hi hzv ⟨B2,o2 + xp.off,none⟩ n d' new' (by rw [hnl',hsi]) hncell' (by omega) (by omega) (by simp only [R0B] at hsmall;omega)
          obtain ⟨φ2,w2,v2,q1,q2,q3⟩:=grownRow H hR rfl [] [] 0 (by simp) CR.nil 0 (by simpa using hexec _ _ _ _ hg1 hg2 hr)
          exact ⟨φ2,w2,v2,.inl q1,by simpa using q2,by simpa using q3⟩
         ·cases hap
        ·rename_i sp
         split at hap
         ·rename_i h00;cases hap
          obtain ⟨rfl,rfl⟩:=h00
          have gg:∃ p',g1=.slice (some p') 0 0:=by
           cases hvx with
           | sle _ p'=>exact ⟨_,rfl⟩
           | sl _ p' _ _ c' B o' j1 j2 j3 j4 j5 j6 j7 j8=>have:=j6 (by simp [unk]);subst this;exact ⟨_,rfl⟩
          obtain ⟨p',hgg⟩:=gg
          have hr:=run_append_grow (P:=X.P) w ty ty2 e i zv hu hi hzv p' 0 0 [] (by simp) (fun j v hj=>by simp at hj) ⟨B2,o2 + xp.off,none⟩ n d' new' (by rw [hnl',hsi]) hncell' (by omega) (by omega) (growslice_fits (by omega) hsmall)
          rw [← hgg] at hr
          obtain ⟨φ2,w2,v2,q1,q2,q3⟩:=grownRow H hR rfl [] [] 0 (by simp) CR.nil 0 (by simpa using hexec _ _ _ _ hg1 hg2 hr)
          exact ⟨φ2,w2,v2,.inl q1,by simpa using q2,by simpa using q3⟩
         rename_i h00
         split at hap
         ·cases hap
         ·rename_i old hold
          cases hvx with
          | sle _ p'=>exact R0q ⟨rfl,rfl⟩ h00
          | sl _ p' _ _ c' B o' j1 j2 j3 j4 j5 j6 j7 j8 =>
           obtain ⟨hol,old',hol',hocr,hocell⟩:=hR.cells j2 hold
           have hocell2:∀ j v,old'[j]? = some v→w.cell? (p'.add j)=some v:=by
            intro j v hj
            have hlt:j < old'.length:=(R0t.1 hj).1
            have hlen0:0 < len:=by
             rcases S0n len with h0 | h0
             ·subst h0;rw [hol'] at hlt;simp at hlt
             ·exact h0
            have:=hocell j v hj
            rw [c0x j3,j4,j5 hlen0];exact this
           have hgrow:c' < len + n→∀ (G:a0c),Rel X φ G w→G.size=H.size →
             ∃ φ' w' v',(execOp a.eval o).run X.P w=.ok (.value v') w'∧VR X φ' w'.shape? (.slice (some ⟨G.size,0,none⟩) (len + n) unk) v'∧c0T X fl φ G w φ' (G.push (.row false e (old ++ new))) w':=by
            intro hcl G hG hGs
            have hr:=run_append_grow (P:=X.P) w ty ty2 e i zv hu hi hzv p' len c' old' (by rw [hol',hsi]) hocell2 ⟨B2,o2 + xp.off,none⟩ n d' new' (by rw [hnl',hsi]) hncell' hcl (by omega) (growslice_fits hcl hsmall)
            exact grownRow G hG hGs old old' len hol hocr c' (hexec _ _ _ _ hg1 hg2 hr)
           split at hap
           ·rename_i hcap;cases hap
            obtain ⟨φ2,w2,v2,q1,q2,q3⟩:=hgrow (by rw [j6 hcap.1];exact hcap.2) H hR rfl
            exact ⟨φ2,w2,v2,.inl q1,q2,q3⟩
           ·split at hap
            ·rename_i e' cs0 hk
             split at hap
             ·rename_i hcond;cases hap
              obtain ⟨rfl,hflb⟩:=hcond
              obtain ⟨c,g1',g2',g3',g4'⟩:=hR.blkT j2 hk
              by_cases hroom:len + n≤c'
              ·-- in place
               obtain ⟨e3,nn,q1,q2⟩:=j8 (by rw [j4];exact g2')
               rw [j4] at q1
               simp only [World.shape?,g1',Q0V,S0L] at q1
               obtain ⟨rfl,rfl⟩:=q1
               rw [hce] at q2
               have hfit:p'.off + len * size + new'.length≤c.size:=by
                rw [hnl']
                have:len * size + n * size≤c' * size:=by rw [← R0o];exact R0h _ hroom
                omega
               have hpl:∀ u ∈ new',u.oneCell' = true:=hncr.plain (by simpa using hplain)
               have hstc:=run_storeCells_at X.P B (p'.off + len * size) e' new' 0 c w g1' (by simpa using hfit) hpl
               simp only [R0N] at hstc
               rw [← f0j new' c.toList (p'.off + len * size) (by simpa using hfit)] at hstc
               have hp':p' = ⟨B,p'.off,none⟩:=by cases p';simp_all
               have hfirst:=run_firstCells_some (P:=X.P) w size n ⟨B2,o2 + xp.off,none⟩ n d' new' hnl' hncell'
               have hrunA:(Builtin.append_ #[ty,ty] ty2 #[.slice (some p') len c',.slice (some ⟨B2,o2 + xp.off,none⟩) n d']).run X.P w =
                 .ok (.slice (some p') (len + n) c') (w.setRow B (a0V c.toList (p'.off + len * size) new').toArray):=by
                have hadd:p'.add (len * size) = ⟨B,p'.off + len * size,none⟩:=by rw [c0x j3,j4]
                simp [Builtin.append_,run_underlying hu,sizeOf,typeInfo,hi,hsi,Builtin.lenOf,hroom,hfirst,hadd,hstc]
               have hclen:(a0V c.toList (p'.off + len * size) new').toArray.size=c.size:=by simp [c0a]
               have hcr:CR X φ w.shape? (old ++ new) (((a0V c.toList (p'.off + len * size) new').toArray.toList.drop p'.off).take (old ++ new).length):=by
                have e4:((a0V c.toList (p'.off + len * size) new').drop p'.off).take (old ++ new).length=old' ++ new':=by
                 rw [g0n]
                 rw [f0j new' (c.toList.drop p'.off) (len * size) (by simp;omega)]
                 have e5:(c.toList.drop p'.off).take (len * size)=old':=by
                  apply S0G
                  intro j
                  by_cases hj:j < len * size
                  ·have hlt:j < old'.length:=by omega
                   have:=hocell2 j old'[j] (R0a hlt)
                   rw [c0x j3] at this
                   simp only [World.cell?,j4,g1',Option.isSome_none,R0p,R0K] at this
                   rw [List.getElem?_take_of_lt hj,S0m,R0a hlt]
                   rw [R0Z];exact this
                  ·rw [R0d (by simp;omega),R0d (by omega)]
                 rw [e5]
                 have:(old ++ new).length=(old' ++ new').length:=by simp;omega
                 rw [this]
                 exact List.take_left
                simp only []
                rw [e4];exact hocr.append hncr
               have hstep:=c0T.moved (fl:=fl) (off:=p'.off) hR j2 hk hflb hfl c _ g1' hclen (by rw [hclen];simp only [R0A,hol,hnl];omega) hcr
               refine ⟨_,_,_,.inl (hexec _ _ _ _ hg1 hg2 hrunA),?_,hstep⟩
               refine .sl _ _ _ _ _ B p'.off rfl (by simp) j3 j4 (fun _=>by simp) (fun h=>R0q rfl h) hroom (fun _=>⟨e',c.size,?_,by rw [hce];exact q2⟩)
               rw [j4,f0h w B c _ e' (0,0) g1' hclen]
               simp [World.shape?,g1']
              ·-- grown,and the old row forgotten
               have hkill:=c0T.kill (fl:=fl) hR (a0k hk) hflb
               obtain ⟨φ2,w2,v2,q1,q2,q3⟩:=hgrow (by omega) _ hkill.rel (by simp)
               exact ⟨φ2,w2,v2,.inl q1,by simpa using q2,hkill.trans q3 (Q0W _) hR⟩
             ·cases hap
            ·cases hap
    ·cases hap
  ·cases hap
end
end
section
open Go
variable {X:Cx} {φ φ':Inj} {S:Shp} {H H':a0c} {w w':World} {fl:Nat} {t:a0Q} {a:Act} {o:Oper} {so:SOp} {lone:Bool}
theorem J0d (hc:cOp X.P lone o.op=some so) (hf:(a0j so).all a0v=true) (hR:Rel X φ H w) (hT:CR X φ w.shape? t a.tmps.toList) (hfl:fl≤H.size) {v:Value} (h:opA fl t H so=.val v H') :
  a0F X fl φ H w o a v H':=by
 cases ho:o.op
 case move x =>
  simp only [cOp,ho,S0v] at hc
  obtain ⟨x',hx,rfl⟩:=hc
  simp only [opA,OpRes.val.injEq] at h;obtain ⟨rfl,rfl⟩:=h
  exact E0T hR hT (.inl ho) hx (by simpa [a0j] using hf)
 case assign x =>
  simp only [cOp,ho,S0v] at hc
  obtain ⟨x',hx,rfl⟩:=hc
  simp only [opA,OpRes.val.injEq] at h;obtain ⟨rfl,rfl⟩:=h
  exact E0T hR hT (.inr ho) hx (by simpa [a0j] using hf)
 case pick c x y =>
  simp only [cOp,ho,Q0X,Q0U,Q0Y,Q0V] at hc
  obtain ⟨c',h1,x',h2,y',h3,rfl⟩:=hc
  simp only [a0j,R0D,R0f,S0I] at hf
  exact x0I hR hT ho h1 h2 h3 hf.1 hf.2.1 hf.2.2.1 h
 case alloc e =>
  simp only [cOp,ho,Q0X,Q0U,Q0Y,Q0V] at hc
  obtain ⟨z,h1,rfl⟩:=hc
  simp only [opA,OpRes.val.injEq] at h;obtain ⟨rfl,rfl⟩:=h
  exact v0I hR hT hfl ho h1
 case box e x =>
  simp only [cOp,ho,Q0X,Q0U,Q0Y,Q0V] at hc
  obtain ⟨x',h1,rfl⟩:=hc
  simp only [opA,OpRes.val.injEq] at h;obtain ⟨rfl,rfl⟩:=h
  exact G0v hR hT hfl ho h1 (by simpa [a0j] using hf)
 case build ty ps =>
  simp only [cOp,ho,Q0X,Q0U,Q0Y,Q0V] at hc
  obtain ⟨fs,h1,hc⟩:=hc
  split at hc
  ·rename_i hall
   simp only [Q0U,Q0V] at hc
   obtain ⟨z,h2,qs,h3,rfl⟩:=hc
   exact v0J hR hT ho h1 hall h2 h3 (by simpa [a0j] using hf) h
  ·cases hc
 case buildSlice ty n ps =>
  simp only [cOp,ho,Q0X,Q0U,Q0Y,Q0V] at hc
  obtain ⟨e,h1,size,h2,z,h3,hc⟩:=hc
  split at hc
  ·rename_i hall
   simp only [Q0U,Q0V] at hc
   obtain ⟨qs,h4,rfl⟩:=hc
   exact G0C hR hT hfl ho h1 h2 h3 hall.1 hall.2.1 hall.2.2 h4 (by simpa [a0j] using hf) h
  ·cases hc
 case load ty x =>
  simp only [cOp,ho,Q0X,Q0U,Q0Y,Q0V] at hc
  obtain ⟨b,h1,n,h2,x',h3,rfl⟩:=hc
  exact x0F hR hT ho h2 h1 h3 (by simpa [a0j] using hf) h
 case store ty x y =>
  simp only [cOp,ho,Q0X,Q0U,Q0Y,Q0V] at hc
  obtain ⟨n,h1,x',h2,y',h3,rfl⟩:=hc
  simp only [a0j,R0D,R0f,S0I] at hf
  exact v0N hR hT ho h1 h2 h3 hf.1 hf.2.1 h
 case nilCheck x =>
  simp only [cOp,ho,Q0X,Q0U,Q0Y,Q0V] at hc
  obtain ⟨x',h1,rfl⟩:=hc
  exact G0x hR hT ho h1 (by simpa [a0j] using hf) h
 case binOp b ty x y ty2 =>
  simp only [cOp,ho,Q0X,Q0U,Q0Y,Q0V] at hc
  obtain ⟨d,h1,x',h2,y',h3,rfl⟩:=hc
  simp only [a0j,R0D,R0f,S0I] at hf
  exact G0u hR hT ho h1 h2 h3 hf.1 hf.2.1 h
 case unOp u ty x =>
  simp only [cOp,ho,Q0X,Q0U,Q0Y,Q0V] at hc
  obtain ⟨x',h1,rfl⟩:=hc
  exact L0c hR hT ho h1 (by simpa [a0j] using hf) h
 case convert s d x =>
  simp only [cOp,ho,Q0X,Q0U,Q0Y,Q0V] at hc
  obtain ⟨k0,h1,k,h2,x',h3,rfl⟩:=hc
  exact x0E hR hT ho h1 h2 h3 (by simpa [a0j] using hf) h
 case makeInterface ty x =>
  simp only [cOp,ho] at hc
  split at hc
  ·cases hc
  ·cases hc
  ·rename_i d hne hu
   simp only [Q0X,Q0U,Q0Y,Q0V] at hc
   obtain ⟨x',h1,rfl⟩:=hc
   simp only [opA,OpRes.val.injEq] at h;obtain ⟨rfl,rfl⟩:=h
   exact v0K hR hT ho hu (fun m hm=>hne m hm) h1 (by simpa [a0j] using hf)
 case makeFunc f xs ys =>
  simp only [cOp,ho] at hc
  split at hc
  ·simp only [Q0X,Q0U,Q0Y,Q0V] at hc
   obtain ⟨xs',h1,ys',h2,rfl⟩:=hc
   simp only [opA,OpRes.val.injEq] at h;obtain ⟨rfl,rfl⟩:=h
   simp only [a0j,T0a,R0f] at hf
   exact x0H hR hT ho h1 h2 hf.1 hf.2
  ·cases hc
 case makeSlice ty x y =>
  simp only [cOp,ho,Q0X,Q0U,Q0Y,Q0V] at hc
  obtain ⟨e,h1,size,h2,z,h3,hc⟩:=hc
  split at hc
  ·rename_i hall
   simp only [Q0U,Q0V] at hc
   obtain ⟨by_,h4,x',h5,y',h6,rfl⟩:=hc
   simp only [a0j,R0D,R0f,S0I] at hf
   exact L0a hR hT hfl ho h1 h2 h4 h3 hall.1 hall.2 h5 h6 hf.1 hf.2.1 h
  ·cases hc
 case slice ty x lo hi mx =>
  simp only [cOp,ho,Q0X,Q0U,Q0Y,Q0V] at hc
  obtain ⟨e,h1,size,h2,x',h3,lo',h4,hi',h5,mx',h6,rfl⟩:=hc
  simp only [a0j,T0a,R0f,R0D,S0I] at hf
  exact L0b hR hT ho h1 h2 h3 h4 h5 h6 hf.1.1.1.1 hf.1.1.2 hf.1.2 hf.2 h
 case fieldAddr ty x i =>
  simp only [cOp,ho,Q0X,Q0U,Q0Y,Q0V] at hc
  obtain ⟨fs,h1,f,h2,n,h3,hc⟩:=hc
  split at hc
  ·rename_i hn;subst hn
   split at hc
   ·rename_i hall
    simp only [Q0U,Q0V] at hc
    obtain ⟨x',h4,rfl⟩:=hc
    exact G0z hR hT ho h1 h2 h3 hall.1 hall.2.1 hall.2.2.1 hall.2.2.2 h4 (by simpa [a0j] using hf) h
   ·cases hc
  ·rename_i hn
   simp only [Q0U,Q0V] at hc
   obtain ⟨x',h4,rfl⟩:=hc
   exact K0Y hR hT ho h1 h2 h3 hn h4 (by simpa [a0j] using hf) h
 case field ty x i =>
  simp only [cOp,ho,Q0X,Q0U,Q0Y,Q0V] at hc
  obtain ⟨fs,h1,f,h2,b,h3,n,h4,x',h5,rfl⟩:=hc
  exact G0A hR hT ho h1 h2 h4 h3 h5 (by simpa [a0j] using hf) h
 case indexAddr ty x y =>
  simp only [cOp,ho,Q0X,Q0U,Q0Y,Q0V] at hc
  obtain ⟨e,h1,n,h2,x',h3,y',h4,rfl⟩:=hc
  simp only [a0j,R0D,R0f,S0I] at hf
  exact K0Z hR hT ho h1 h2 h3 h4 hf.1 hf.2.1 h
 case extract x i =>
  simp only [cOp,ho,Q0X,Q0U,Q0Y,Q0V] at hc
  obtain ⟨x',h1,rfl⟩:=hc
  exact G0y hR hT ho h1 (by simpa [a0j] using hf) h
 case call c =>
  obtain ⟨callee,args,ats⟩:=c
  simp only [cOp,ho] at hc
  cases callee with
  | value f =>
   cases f with
   | func f =>
    simp only [] at hc
    split at hc
    ·simp only [Q0X,Q0U,Q0Y,Q0V] at hc
     obtain ⟨x',h1,rfl⟩:=hc
     simp [opA] at h
    ·cases hc
   | _ =>
    simp only [Q0X,Q0U,Q0Y,Q0V] at hc
    obtain ⟨x',h1,xs',h2,rfl⟩:=hc
    simp only [opA] at h
    split at h <;> cases h
  | invoke r name =>
   simp only [Q0X,Q0U,Q0Y,Q0V] at hc
   obtain ⟨x',h1,xs',h2,rfl⟩:=hc
   simp only [opA] at h
   split at h
   ·split at h <;> cases h
   ·cases h
  | builtin b =>
   simp only [] at hc
   split at hc
   ·rename_i x t1 hargs hats
    simp only [Q0X,Q0U,Q0Y,Q0V] at hc
    obtain ⟨e,h1,x',h2,rfl⟩:=hc
    exact G0B hR hT ho hargs hats h1 h2 (by simpa [a0j] using hf) h
   ·rename_i x t1 hargs hats
    simp only [Q0X,Q0U,Q0Y,Q0V] at hc
    obtain ⟨e,h1,x',h2,rfl⟩:=hc
    exact G0w hR hT ho hargs hats h1 h2 (by simpa [a0j] using hf) h
   ·rename_i x ys _ hargs
    simp only [Q0X,Q0U,Q0Y,Q0V] at hc
    obtain ⟨x',h1,ys',h2,rfl⟩:=hc
    simp only [a0j,R0D,R0f] at hf
    exact v0M hR hT ho rfl hargs h1 h2 hf.1 hf.2 h
   ·rename_i x ys _ hargs
    simp only [Q0X,Q0U,Q0Y,Q0V] at hc
    obtain ⟨x',h1,ys',h2,rfl⟩:=hc
    simp only [a0j,R0D,R0f] at hf
    exact v0M hR hT ho rfl hargs h1 h2 hf.1 hf.2 h
   ·rename_i s x t1 u1 hargs hats
    simp only [Q0X,Q0U,Q0Y,Q0V] at hc
    obtain ⟨e,h1,size,h2,z,h3,hc⟩:=hc
    split at hc
    ·rename_i hall
     obtain ⟨ha1,ha2,rfl⟩:=hall
     simp only [Q0U,Q0V] at hc
     obtain ⟨by_,h4,s',h5,x',h6,rfl⟩:=hc
     simp only [a0j,R0D,R0f,S0I] at hf
     exact G0t hR hT hfl ho rfl hargs hats h1 h2 h4 h3 ha1 ha2 h5 h6 hf.1 hf.2.1 h
    ·split at hc
     ·rename_i hall
      obtain ⟨ha1,ha2,ha3⟩:=hall
      simp only [Q0U,Q0V] at hc
      obtain ⟨by_,h4,s',h5,x',h6,rfl⟩:=hc
      simp only [a0j,R0D,R0f,S0I] at hf
      exact x0D hR hT hfl ho rfl hargs hats h1 h2 h4 h3 ha1 ha2 ha3 h5 h6 hf.1 hf.2.1 h
     ·cases hc
   ·cases hc
 case panic x =>
  simp only [cOp,ho,Q0X,Q0U,Q0Y,Q0V] at hc
  obtain ⟨x',h1,rfl⟩:=hc
  simp only [opA] at h
  split at h <;> cases h
 case makeMap ty r =>
  cases r with
  | none =>
   simp only [cOp,ho,Q0V] at hc
   subst hc
   simp only [opA,OpRes.val.injEq] at h
   obtain ⟨rfl,rfl⟩:=h
   exact v0L hR hfl ho
  | some x=>simp [cOp,ho] at hc
 case lookup ty x i ok =>
  cases ok with
  | true=>simp [cOp,ho] at hc
  | false =>
   simp only [cOp,ho] at hc
   split at hc
   ·rename_i k e hu
    split at hc
    ·rename_i hk
     split at hc
     ·rename_i z hz
      split at hc
      ·rename_i hfz
       simp only [Q0X,Q0U,Q0Y,Q0V] at hc
       obtain ⟨x',h1,i',h2,rfl⟩:=hc
       simp only [a0j,R0D,R0f,S0I] at hf
       exact x0G hR hT ho hu hk hz hfz h1 h2 hf.1 hf.2.1 h
      ·cases hc
     ·cases hc
    ·cases hc
   ·cases hc
 case mapUpdate m x y z =>
  simp only [cOp,ho,Q0V] at hc
  subst hc
  simp [opA] at h
 all_goals (simp [cOp,ho] at hc)
theorem h0E {P:Program} {f:FuncId} (h:x0c P f=true) (args:Array Value) (w:World):(callFunc f args).run P w=.ok (.enter f args) w:=by
 unfold x0c at h
 cases hf:P.funcs[f]? with
 | none=>simp [hf] at h
 | some fn =>
  simp only [hf,R0f,S0E] at h
  obtain ⟨h1,h2⟩:=h
  cases hb:fn.body with
  | none=>simp [hb] at h2
  | some c=>simp [callFunc,hf,hb];simpa using h1
theorem j0U {α:Type} {k:Nat} {v:α}:∀ {l:List (Nat × α)},l.lookup k=some v→(k,v) ∈ l
 | [],h=>by simp at h
 | (k',v') :: r,h=>by
  rw [List.lookup_cons] at h
  split at h
  ·rename_i hk
   have:k=k':=by simpa using hk
   subst this
   simp only [Q0V] at h
   subst h
   exact T0b
  ·exact S0D _ (j0U h)
def i0H:SOp→Bool
 | .call _ _ _ | .callv _ _ _ | .inv _ _ _ _=>true
 | _=>false
theorem i0O {f:FuncId} {args:List Value} {l:Bool} (h:opA fl t H so=.call f args l):i0H so=true:=by
 cases so <;> simp only [opA] at h <;> first
  | rfl
  | (simp at h;done)
  | (unfold b0b at h;split at h <;> cases h)
  | (unfold e0A at h;split at h <;> cases h)
  | (split at h <;> first | (cases h;done) | (split at h <;> first | (cases h;done) | (split at h <;> first | (cases h;done) | (unfold b0b at h;split at h <;> cases h))) | (unfold b0b at h;split at h <;> cases h))
theorem m0A (hc:cOp X.P lone o.op=some so) (hs:i0H so=true):∃ c,o.op=.call c:=by
 cases ho:o.op
 case call c=>exact ⟨c,rfl⟩
 case makeMap ty r =>
  exfalso
  cases r with
  | none=>simp only [cOp,ho,Q0V] at hc;subst hc;simp [i0H] at hs
  | some x=>simp [cOp,ho] at hc
 case lookup ty x i ok =>
  exfalso
  cases ok with
  | true=>simp [cOp,ho] at hc
  | false =>
   simp only [cOp,ho] at hc
   split at hc
   ·split at hc
    ·split at hc
     ·split at hc
      ·simp only [Q0X,Q0U,Q0Y,Q0V] at hc
       obtain ⟨x',h1,i',h2,rfl⟩:=hc
       simp [i0H] at hs
      ·cases hc
     ·cases hc
    ·cases hc
   ·cases hc
 case mapUpdate m x y z =>
  exfalso
  simp only [cOp,ho,Q0V] at hc
  subst hc;simp [i0H] at hs
 all_goals
  exfalso
  cases so <;> simp only [i0H,R0p] at hs
  all_goals
   simp only [cOp,ho,S0v,Q0X,Q0U,Q0Y,Q0V,reduceCtorEq,and_false,exists_const,exists_false] at hc
   try (repeat' (first | (simp only [Q0U,Q0V,reduceCtorEq,and_false,exists_const,exists_false] at hc;done) | (obtain ⟨_,_,hc⟩:=hc) | (split at hc)))
theorem r0j (hc:cOp X.P lone o.op=some so) (hf:(a0j so).all a0v=true) (hT:CR X φ w.shape? t a.tmps.toList) {f:FuncId} {args:List Value} {l:Bool} (h:opA fl t H so=.call f args l) :
  ∃ args':Array Value,CR X φ w.shape? args args'.toList∧(execOp a.eval o).run X.P w=(callFunc f args').run X.P w:=by
 cases ho:o.op
 case call c =>
  obtain ⟨callee,cargs,ats⟩:=c
  simp only [cOp,ho] at hc
  cases callee with
  | value g =>
   cases g with
   | func g =>
    simp only [] at hc
    split at hc
    ·simp only [Q0X,Q0U,Q0Y,Q0V] at hc
     obtain ⟨xs',h1,rfl⟩:=hc
     simp only [opA,OpRes.call.injEq] at h
     obtain ⟨rfl,rfl,rfl⟩:=h
     refine ⟨cargs.map a.eval,by simpa using g0c hT h1 (by simpa [a0j] using hf),?_⟩
     simp [execOp,ho,resolve,Deferred.ofValue,Act.eval,invoke]
    ·cases hc
   | _ =>
    simp only [Q0X,Q0U,Q0Y,Q0V] at hc
    obtain ⟨x',h1,xs',h2,rfl⟩:=hc
    simp only [a0j,R0D,R0f] at hf
    have hv:=a0Z hT h1 hf.1
    have hvs:=g0c hT h2 hf.2
    simp only [opA] at h
    split at h
    ·rename_i g first captured e1
     simp only [OpRes.call.injEq] at h
     obtain ⟨rfl,rfl,rfl⟩:=h
     rw [e1] at hv
     generalize hg:a.eval _=gg at hv
     cases hv with
     | func _ _ _ f' c' k1 k2 k3 k4 =>
      have c1:CR X φ w.shape? first.toList f'.toList:=VR.agg_iff.1 (.agg _ _ k1 k2)
      have c2:CR X φ w.shape? captured.toList c'.toList:=VR.agg_iff.1 (.agg _ _ k3 k4)
      refine ⟨f' ++ cargs.map a.eval ++ c',by simpa using (c1.append hvs).append c2,?_⟩
      simp [execOp,ho,resolve,Deferred.ofValue,hg,invoke]
    ·cases h
  | invoke r name =>
   simp only [Q0X,Q0U,Q0Y,Q0V] at hc
   obtain ⟨x',h1,xs',h2,rfl⟩:=hc
   simp only [a0j,R0D,R0f] at hf
   have hv:=a0Z hT h1 hf.1
   have hvs:=g0c hT h2 hf.2
   simp only [opA] at h
   split at h
   ·rename_i ty v e1
    split at h
    ·rename_i g hlk
     simp only [OpRes.call.injEq] at h
     obtain ⟨rfl,rfl,rfl⟩:=h
     rw [e1] at hv
     generalize hg:a.eval r=gg at hv
     cases hv with
     | iface _ _ v' k1 =>
      refine ⟨#[v'] ++ cargs.map a.eval,by simpa using k1.cons_cr hvs,?_⟩
      -- the method is found, direct, of a value
      have hmem:(ty,g) ∈ m0F X.P name:=j0U hlk
      unfold m0F at hmem
      rw [List.mem_filterMap] at hmem
      obtain ⟨t0,ht0,hm⟩:=hmem
      have ht0:=R0Q.1 ht0
      split at hm
      ·rename_i i hi
       split at hm
       ·rename_i m hfind
        split at hm
        ·rename_i g0 fs hfn hund
         split at hm
         ·rename_i hpr
          simp only [Q0V,S0L] at hm
          obtain ⟨rfl,rfl⟩:=hm
          simp only [R0f] at hpr
          have hpath:m.path.toList=[]:=by simpa using hpr.1
          have hpos:∃ k,X.P.types.size + Made.depth=k + 1:=⟨X.P.types.size + Made.depth - 1,by omega⟩
          obtain ⟨k,hk⟩:=hpos
          have hmeth:(method (X.P.types.size + Made.depth) t0 v' name).run X.P w=.ok (g0,v') w:=by
           rw [hk,method]
           simp [typeInfo,hi,hfind,hpath,follow,hfn,receiverAt,run_underlying hund,Place.get]
          have hz:(#[Value.iface t0 v'] ++ cargs.map a.eval)[0]? = some (.iface t0 v'):=by simp [Array.getElem?_append]
          have hex:(#[Value.iface t0 v'] ++ cargs.map a.eval).extract 1 (#[Value.iface t0 v'] ++ cargs.map a.eval).size=cargs.map a.eval:=by
           apply Array.ext';simp [R0j]
          simp only [execOp,ho,resolve,Sem.run_bind,Sem.run_pure,Result.andThen_ok,hg,invoke,hz,hex,callMethod,run_program,hmeth]
         ·cases hm
        ·cases hm
       ·cases hm
      ·cases hm
    ·cases h
   ·cases h
  | builtin b =>
   simp only [] at hc
   split at hc
   ·simp only [Q0X,Q0U,Q0Y,Q0V] at hc
    obtain ⟨e,h1,x',h2,rfl⟩:=hc
    simp only [opA] at h;split at h <;> cases h
   ·simp only [Q0X,Q0U,Q0Y,Q0V] at hc
    obtain ⟨e,h1,x',h2,rfl⟩:=hc
    simp only [opA] at h;unfold b0b at h;split at h <;> cases h
   ·simp only [Q0X,Q0U,Q0Y,Q0V] at hc
    obtain ⟨x',h1,ys',h2,rfl⟩:=hc
    simp only [opA] at h;unfold b0b at h;split at h <;> cases h
   ·simp only [Q0X,Q0U,Q0Y,Q0V] at hc
    obtain ⟨x',h1,ys',h2,rfl⟩:=hc
    simp only [opA] at h;unfold b0b at h;split at h <;> cases h
   ·simp only [Q0X,Q0U,Q0Y,Q0V] at hc
    obtain ⟨e,h1,size,h2,z,h3,hc⟩:=hc
    split at hc
    ·simp only [Q0U,Q0V] at hc
     obtain ⟨by_,h4,s',h5,x',h6,rfl⟩:=hc
     simp only [opA] at h;unfold e0A at h;split at h <;> cases h
    ·split at hc
     ·simp only [Q0U,Q0V] at hc
      obtain ⟨by_,h4,s',h5,x',h6,rfl⟩:=hc
      simp only [opA] at h;split at h <;> cases h
     ·cases hc
   ·cases hc
 all_goals
  obtain ⟨c,hcc⟩:=m0A hc (i0O h)
  rw [ho] at hcc;cases hcc
end
section
open Go
variable {H H' H1:a0c} {fl:Nat} {t:a0Q} {so:SOp}
inductive Turn (fl:Nat) (ws:List Nat) (H:a0c):a0c→Prop
 | same:Turn fl ws H H
 | push (r:Blk):Turn fl ws H (H.push r)
 | set (b:Nat) (e:TypeId) (cs cs':List Value) (h:H.blk b=.row false e cs) (hb:b ∈ ws) (hf:fl≤b):Turn fl ws H (H.setIfInBounds b (.row false e cs'))
 | move (b:Nat) (e:TypeId) (cs:List Value) (r:Blk) (h:H.blk b=.row false e cs) (hb:b ∈ ws) (hf:fl≤b):Turn fl ws H ((H.setIfInBounds b .dead).push r)
theorem k0D {v:Value} (h:opA fl t H so=.val v H1):Turn fl (c0z t so).2 H H1:=by
 have opt:∀ {x:Option Value},b0b H x=.val v H1→Turn fl (c0z t so).2 H H1:=fun {x} hx=>by
  cases x with
  | none=>simp [b0b] at hx
  | some u=>simp [b0b] at hx;rw [← hx.2];exact .same
 cases so <;> simp only [opA] at h
 case mv=>simp at h;rw [← h.2];exact .same
 case pick=>split at h <;> simp at h <;> (rw [← h.2];exact .same)
 case alloc=>simp at h;rw [← h.2];exact .push _
 case box=>simp at h;rw [← h.2];exact .push _
 case build=>exact opt h
 case lit=>split at h <;> simp at h;rw [← h.2];exact .push _
 case load=>exact opt h
 case store n a x =>
  split at h
  ·rename_i p hp
   split at h
   ·cases h
   ·split at h
    ·rename_i H2 hw
     simp at h;rw [← h.2]
     unfold a0c.write? at hw
     split at hw
     ·rename_i e cs hk
      split at hw
      ·rename_i hc;cases hw
       exact .set _ _ _ _ hk (by simp [c0z,hp,blkOf]) hc.1
      ·cases hw
     ·cases hw
    ·cases h
  ·cases h
 case chk=>split at h <;> simp at h <;> (rw [← h.2];exact .same)
 case bin=>exact opt h
 case un=>exact opt h
 case conv=>split at h <;> simp at h;rw [← h.2];exact .same
 case iface=>simp at h;rw [← h.2];exact .same
 case mkfn=>simp at h;rw [← h.2];exact .same
 case mk =>
  split at h
  ·split at h <;> simp at h;rw [← h.2];exact .push _
  ·cases h
 case sl => split at h; · cases h
            ·exact opt h
 case fa => split at h
            ·split at h <;> simp at h;rw [← h.2];exact .same
            ·cases h
 case fa0 =>
  split at h
  ·split at h
   ·split at h <;> simp at h;rw [← h.2];exact .same
   ·cases h
  ·cases h
 case fld=>exact opt h
 case ia =>
  split at h
  ·split at h <;> simp at h;rw [← h.2];exact .same
  ·cases h
 case ext =>
  split at h
  ·exact opt h
  ·cases h
 case call=>cases h
 case callv=>split at h <;> cases h
 case inv =>
  split at h
  ·split at h <;> cases h
  ·cases h
 case len=>split at h <;> simp at h;rw [← h.2];exact .same
 case cap=>exact opt h
 case appz=>split at h <;> simp at h;rw [← h.2];exact .push _
 case mnx=>exact opt h
 case mkmap=>simp at h;rw [← h.2];exact .push _
 case look=>exact opt h
 case stuck=>cases h
 case app e size bytes s x =>
  cases hap:j0u fl H e size bytes (ev t s) (ev t x) with
  | none=>simp [hap,e0A] at h
  | some r =>
   obtain ⟨rv,rH⟩:=r
   simp only [hap,e0A,OpRes.val.injEq] at h
   obtain ⟨rfl,rfl⟩:=h
   unfold j0u at hap
   split at hap
   ·rename_i base len cap xb n xc e1 e2
    split at hap
    ·cases hap;exact .same
    ·split at hap
     ·split at hap
      ·cases hap
      ·split at hap
       ·cases hap
       ·split at hap
        ·cases hap
        split at hap
        ·split at hap
         ·cases hap;exact .push _
         ·cases hap
        ·rename_i sp
         split at hap
         ·cases hap;exact .push _
         rename_i h00
         split at hap
         ·cases hap
         ·split at hap
          ·cases hap;exact .push _
          ·split at hap
           ·rename_i e' cs hk
            split at hap
            ·rename_i hc;cases hap
             exact .move _ _ _ _ hk (by simp only [c0z,e1,blkW];rw [R0c h00];simp) hc.2
            ·cases hap
           ·cases hap
     ·cases hap
   ·cases hap
 case pan=>split at h <;> cases h
structure f0N (fl:Nat) (H H1:a0c):Prop where
 size:H.size≤H1.size
 low:∀ b,b < fl→H1.blk b=H.blk b
 kind:∀ b e cs,b < H.size→H1.blk b=.row false e cs→∃ cs0,H.blk b=.row false e cs0
 kindR:∀ b e cs,b < H.size→H1.blk b=.row true e cs→H.blk b=.row true e cs
theorem f0N.refl:f0N fl H H:=⟨Q0W _,fun _ _=>rfl,fun _ _ cs _ h=>⟨cs,h⟩,fun _ _ _ _ h=>h⟩
theorem f0N.trans {fl1:Nat} {H2:a0c} (h:f0N fl H H1) (k:f0N fl1 H1 H2) (hf:fl≤fl1):f0N fl H H2 :=
 ⟨R0z h.size k.size,fun b hb=>(k.low b (by omega)).trans (h.low b hb),fun b e cs hb hk=>by
  obtain ⟨c1,h1⟩:=k.kind b e cs (R0r hb h.size) hk
  exact h.kind b e c1 hb h1,fun b e cs hb hk=>h.kindR b e cs hb (k.kindR b e cs (R0r hb h.size) hk)⟩
theorem Turn.keep {ws:List Nat} (hfl:fl≤H.size) (h:Turn fl ws H H1):f0N fl H H1:=by
 cases h with
 | same=>exact f0N.refl
 | push r=>exact ⟨by simp,fun b hb=>by rw [a0y,R0c (by omega)],fun b e cs hb hk=>by rw [a0y,R0c (by omega)] at hk;exact ⟨cs,hk⟩,fun b e cs hb hk=>by rw [a0y,R0c (by omega)] at hk;exact hk⟩
 | set b e cs cs' h hb hf =>
  have hl:=a0k h
  exact ⟨by simp,fun c hc=>by rw [b0k _ _ _ _ hl,R0c (by omega)],fun c e1 cs1 hc hk=>by
   rw [b0k _ _ _ _ hl] at hk
   split at hk
   ·rename_i hcb;subst hcb;cases hk;exact ⟨cs,h⟩
   ·exact ⟨cs1,hk⟩,fun c e1 cs1 hc hk=>by
   rw [b0k _ _ _ _ hl] at hk
   split at hk
   ·cases hk
   ·exact hk⟩
 | move b e cs r h hb hf =>
  have hl:=a0k h
  exact ⟨by simp,fun c hc=>by rw [a0y,R0c (by simp;omega),b0k _ _ _ _ hl,R0c (by omega)],fun c e1 cs1 hc hk=>by
   rw [a0y,R0c (by simp;omega),b0k _ _ _ _ hl] at hk
   split at hk
   ·cases hk
   ·exact ⟨cs1,hk⟩,fun c e1 cs1 hc hk=>by
   rw [a0y,R0c (by simp;omega),b0k _ _ _ _ hl] at hk
   split at hk
   ·cases hk
   ·exact hk⟩
theorem Turn.changed {ws:List Nat} (h:Turn fl ws H H1) {b:Nat} (hb:b < H.size) (hne:H1.blk b ≠ H.blk b):b ∈ ws:=by
 cases h with
 | same=>exact R0q rfl hne
 | push r=>rw [a0y,R0c (by omega)] at hne;exact R0q rfl hne
 | set c e cs cs' h hc hf =>
  by_cases hcb:b=c
  ·subst hcb;exact hc
  ·rw [b0k _ _ _ _ (a0k h),R0c hcb] at hne;exact R0q rfl hne
 | move c e cs r h hc hf =>
  by_cases hcb:b=c
  ·subst hcb;exact hc
  ·rw [a0y,R0c (by simp;omega),b0k _ _ _ _ (a0k h),R0c hcb] at hne;exact R0q rfl hne
def f0k (call:Nat→FuncId→List Value→a0c→Res (Value × a0c)):Prop :=
 ∀ fl f args H v H1,call fl f args H=.ok (v,H1)→fl≤H.size→f0N fl H H1
section
variable {call:Nat→FuncId→List Value→a0c→Res (Value × a0c)} (hcall:f0k call)
include hcall
theorem h0t {v:Value} (hfl:fl≤H.size) (h:b0V call fl t H so=.ok (v,H1)):f0N fl H H1:=by
 unfold b0V at h
 split at h
 ·cases h
 ·cases h
 ·rename_i v' H2 hv
  simp at h;obtain ⟨rfl,rfl⟩:=h
  exact (k0D hv).keep hfl
 ·rename_i f args lone hc
  have hk:=hcall _ _ _ _ _ _ h (by split <;> omega)
  exact ⟨hk.size,fun b hb=>hk.low b (by split <;> omega),hk.kind,hk.kindR⟩
theorem j0g:∀ (ops:List a0w) (t:a0Q) (H:a0c),fl≤H.size→∀ {e t1 H1},g0k call fl ops t H=.fin e t1 H1→f0N fl H H1∧e=.normal
 | [],t,H,_,e,t1,H1,h=>by simp [g0k] at h;obtain ⟨rfl,rfl,rfl⟩:=h;exact ⟨f0N.refl,rfl⟩
 | o :: r,t,H,hfl,e,t1,H1,h=>by
  simp only [g0k] at h
  split at h
  ·split at h
   ·cases h
   ·cases h
   ·rename_i v H2 hs
    have k:=h0t hcall hfl hs
    obtain ⟨k2,he⟩:=j0g r _ H2 (R0z hfl k.size) h
    exact ⟨k.trans k2 (Q0W _),he⟩
  ·exact j0g r _ H hfl h
theorem d0M (bef:List Nat) (pairs:List (Nat × Nat)):∀ (ops:List a0w) (i:Nat) (t:a0Q) (H:a0c) (p:Option (Nat × Value)) (log:List (List Nat × List Nat)),fl≤H.size →
  ∀ {e t1 H1},b0J call fl bef pairs i ops t H p log=.fin e t1 H1→f0N fl H H1∧e=.normal
 | [],i,t,H,p,log,_,e,t1,H1,h=>by
  simp only [b0J] at h
  split at h
  ·split at h
   ·cases h;exact ⟨f0N.refl,rfl⟩
   ·cases h
  ·cases h
 | o :: r,i,t,H,p,log,hfl,e,t1,H1,h=>by
  simp only [b0J] at h
  split at h
  ·exact d0M bef pairs r _ _ H _ _ hfl h
  ·split at h
   ·split at h
    ·cases h
    ·split at h
     ·exact d0M bef pairs r _ _ H _ _ hfl h
     ·cases h
    ·rename_i v H2 hs
     have k:=h0t hcall hfl hs
     obtain ⟨k2,he⟩:=d0M bef pairs r _ _ H2 _ _ (R0z hfl k.size) h
     exact ⟨k.trans k2 (Q0W _),he⟩
   ·exact d0M bef pairs r _ _ H _ _ hfl h
theorem b0F:∀ (n:Nat) (c:SCode) (t:a0Q) (H:a0c),fl≤H.size→∀ {e t1 H1},a0J call fl n c t H=.fin e t1 H1→f0N fl H H1
 | 0,_,_,_,_,_,_,_,h=>by simp [a0J] at h
 | n + 1,c,t,H,hfl,e,t1,H1,h=>by
  cases c <;> simp only [a0J] at h
  case skip=>cases h;exact f0N.refl
  case exit=>cases h;exact f0N.refl
  case ret=>cases h;exact f0N.refl
  case seq a b =>
   split at h
   ·rename_i t2 H2 ha
    have k:=b0F n a t H hfl ha
    exact k.trans (b0F n b t2 H2 (R0z hfl k.size) h) (Q0W _)
   ·exact b0F n a t H hfl h
  case cond c a b =>
   split at h
   ·exact b0F n a t H hfl h
   ·exact b0F n b t H hfl h
   ·cases h
  case block id c =>
   split at h
   ·rename_i id' t2 H2 hc
    have k:=b0F n c t H hfl hc
    split at h <;> (cases h;exact k)
   ·exact b0F n c t H hfl h
  case loop c =>
   split at h
   ·rename_i t2 H2 hc
    have k:=b0F n c t H hfl hc
    exact k.trans (b0F n (.loop c) t2 H2 (R0z hfl k.size) h) (Q0W _)
   ·exact b0F n c t H hfl h
  case reg ops=>exact (j0g hcall ops t H hfl h).1
  case draw ops bef pairs=>exact (d0M hcall bef pairs ops 0 t H none [] hfl h).1
end
theorem f0l (E:Env):∀ n,f0k (a0T E n)
 | 0=>fun _ _ _ _ _ _ h=>by simp [a0T] at h
 | n + 1=>fun fl f args H v H1 h hfl=>by
  simp only [a0T] at h
  split at h
  ·split at h
   ·simp at h;obtain ⟨_,rfl⟩:=h;exact f0N.refl
   split at h
   ·split at h
    ·split at h
     ·rename_i q hq hfq p s
      split at h
      case isFalse=>cases h
      unfold i0g at h
      split at h
      ·cases h
      ·simp at h;obtain ⟨_,rfl⟩:=h;exact f0N.refl
      ·cases h
      ·rename_i vs H2 hc
       split at h
       ·split at h
        case isFalse=>cases h
        simp at h;obtain ⟨_,rfl⟩:=h
        have k:=f0l E n _ _ _ _ _ _ hc (by omega)
        exact ⟨k.size,fun b hb=>k.low b (by omega),k.kind,k.kindR⟩
       ·cases h
      ·cases h
     ·cases h
    ·cases h
   ·cases h
  ·split at h
   ·split at h
    ·cases h
    ·cases h
    ·rename_i e t1 H2 hx
     have k:=b0F (f0l E n) n _ _ H hfl hx
     split at h
     ·cases h
     ·split at h
      ·simp at h;obtain ⟨_,rfl⟩:=h;exact k
      ·cases h
   ·cases h
end
section
open Go
variable {H H' H1 G G1:a0c} {fl:Nat} {t:a0Q} {so:SOp}
structure Par (H H1 G G1:a0c):Prop where
 size:G1.size=H1.size
 same:∀ b,b < H.size→H1.blk b=H.blk b→G1.blk b=G.blk b
 diff:∀ b,b < H.size→H1.blk b ≠ H.blk b→G1.blk b=H1.blk b
 more:∀ b,H.size≤b→G1.blk b=H1.blk b
theorem f0O {H:a0c} {b:Nat} (h:H.size≤b):H.blk b=.dead:=by
 simp only [a0c.blk,R0e]
 rw [S0e h];rfl
theorem Par.refl (hs:G.size=H.size):Par H H G G :=
 ⟨hs,fun _ _ _=>rfl,fun _ _ h=>R0q rfl h,fun b hb=>by rw [f0O hb,f0O (by omega)]⟩
theorem Par.push (hs:G.size=H.size) (r:Blk):Par H (H.push r) G (G.push r) :=
 ⟨by simp [hs],fun b hb _=>by rw [a0y,R0c (by omega)],fun b hb h=>by rw [a0y,R0c (by omega)] at h;exact R0q rfl h,fun b hb=>by
  rw [a0y,a0y,hs]
  split
  ·rfl
  ·rw [f0O (show G.size≤b by omega),f0O hb]⟩
theorem Par.set (hs:G.size=H.size) {c:Nat} (hc:c < H.size) (hk:G.blk c=H.blk c) (r:Blk):Par H (H.setIfInBounds c r) G (G.setIfInBounds c r) :=
 ⟨by simp [hs],fun b hb h=>by
  rw [b0k _ _ _ _ hc] at h;rw [b0k _ _ _ _ (by omega)]
  split at h
  ·rename_i hbc;subst hbc;rw [R0k rfl,h,hk]
  ·rename_i hbc;rw [R0c hbc],fun b hb h=>by
  rw [b0k _ _ _ _ hc] at h ⊢;rw [b0k _ _ _ _ (by omega)]
  split at h
  ·rename_i hbc;rw [R0k hbc,R0k hbc]
  ·exact R0q rfl h,fun b hb=>by
  rw [b0k _ _ _ _ hc,b0k _ _ _ _ (by omega),R0c (by omega),R0c (by omega),f0O hb,f0O (by omega)]⟩
theorem Par.move (hs:G.size=H.size) {c:Nat} (hc:c < H.size) (hk:G.blk c=H.blk c) (r s:Blk):Par H ((H.setIfInBounds c r).push s) G ((G.setIfInBounds c r).push s):=by
 have p:=Par.set hs hc hk r
 have sz1:(H.setIfInBounds c r).size=H.size:=by simp
 have sz2:(G.setIfInBounds c r).size=G.size:=by simp
 refine ⟨by simp [hs],fun b hb h=>?_,fun b hb h=>?_,fun b hb=>?_⟩
 ·rw [a0y,R0c (by omega)] at h ⊢;exact p.same b hb h
 ·rw [a0y,R0c (by omega)] at h ⊢;rw [a0y,R0c (by omega)];exact p.diff b hb h
 ·rw [a0y,a0y,sz1,sz2,hs]
  split
  ·rfl
  ·exact p.more b hb
theorem g0b {b off n:Nat} (h:G.blk b=H.blk b):G.cells? b off n=H.cells? b off n:=by unfold a0c.cells?;rw [h]
theorem r0i {v:Value} (h:opA fl t H so=.val v H1) (hs:G.size=H.size) (hfp:∀ b,b ∈ (c0z t so).1 ∨ b ∈ (c0z t so).2→G.blk b=H.blk b) :
  ∃ G1,opA fl t G so=.val v G1∧Par H H1 G G1:=by
 have opt:∀ {x y:Option Value},b0b H x=.val v H1→y=x→∃ G1,b0b G y=.val v G1∧Par H H1 G G1:=fun {x y} hx hxy=>by
  subst hxy
  cases y with
  | none=>simp [b0b] at hx
  | some u=>simp [b0b] at hx;obtain ⟨rfl,rfl⟩:=hx;exact ⟨G,rfl,Par.refl hs⟩
 cases so <;> simp only [opA] at h ⊢
 case mv=>simp at h;obtain ⟨rfl,rfl⟩:=h;exact ⟨G,rfl,Par.refl hs⟩
 case pick=>split at h <;> simp at h <;> (obtain ⟨rfl,rfl⟩:=h;exact ⟨G,rfl,Par.refl hs⟩)
 case alloc=>simp at h;obtain ⟨rfl,rfl⟩:=h;rw [hs];exact ⟨_,rfl,Par.push hs _⟩
 case box=>simp at h;obtain ⟨rfl,rfl⟩:=h;rw [hs];exact ⟨_,rfl,Par.push hs _⟩
 case build=>exact opt h rfl
 case lit=>split at h <;> simp at h;obtain ⟨rfl,rfl⟩:=h;rw [hs];exact ⟨_,rfl,Par.push hs _⟩
 case load agg n a =>
  refine opt h ?_
  unfold b0y
  split
  ·rename_i p hp
   have hb:G.blk p.block=H.blk p.block:=hfp _ (.inl (by simp [c0z,hp,blkOf]))
   rw [g0b hb]
  ·rfl
 case store n a x =>
  split at h
  ·rename_i p hp
   have hb:G.blk p.block=H.blk p.block:=hfp _ (.inr (by simp [c0z,hp,blkOf]))
   split at h
   ·cases h
   ·rename_i hc
    rw [R0c hc]
    split at h
    ·rename_i H2 hw
     simp at h;obtain ⟨rfl,rfl⟩:=h
     unfold a0c.write? at hw ⊢
     rw [hb]
     split at hw
     ·rename_i e cs hk
      split at hw
      ·rename_i hc2;cases hw
       rw [R0k hc2]
       exact ⟨_,rfl,Par.set hs (a0k hk) hb _⟩
      ·cases hw
     ·cases hw
    ·cases h
  ·cases h
 case chk=>split at h <;> simp at h <;> (obtain ⟨rfl,rfl⟩:=h;exact ⟨G,rfl,Par.refl hs⟩)
 case bin=>exact opt h rfl
 case un=>exact opt h rfl
 case conv=>split at h <;> simp at h;obtain ⟨rfl,rfl⟩:=h;exact ⟨G,rfl,Par.refl hs⟩
 case iface=>simp at h;obtain ⟨rfl,rfl⟩:=h;exact ⟨G,rfl,Par.refl hs⟩
 case mkfn=>simp at h;obtain ⟨rfl,rfl⟩:=h;exact ⟨G,rfl,Par.refl hs⟩
 case mk =>
  split at h
  ·split at h
   ·rename_i hc;simp at h;obtain ⟨rfl,rfl⟩:=h;rw [R0k hc,hs];exact ⟨_,rfl,Par.push hs _⟩
   ·cases h
  ·cases h
 case sl e size x lo hi mx =>
  have he:elemOk G e (ev t x)=elemOk H e (ev t x):=by
   unfold elemOk
   split
   ·rename_i p _ _ hp
    have hb:G.blk p.block=H.blk p.block:=hfp _ (.inl (by simp [c0z,hp,blkOf]))
    rw [hb]
   ·rfl
  rw [he]
  split at h
  ·cases h
  ·rename_i hc;rw [R0c hc];exact opt h rfl
 case fa =>
  split at h
  ·split at h
   ·cases h
   ·rename_i hc;simp at h;obtain ⟨rfl,rfl⟩:=h;rw [R0c hc];exact ⟨G,rfl,Par.refl hs⟩
  ·cases h
 case fa0 e x =>
  split at h
  ·rename_i p hp
   have hb:G.blk p.block=H.blk p.block:=hfp _ (.inl (by simp [c0z,hp,blkOf]))
   rw [hb]
   split at h
   ·split at h
    ·rename_i hc;simp at h;obtain ⟨rfl,rfl⟩:=h;rw [R0k hc];exact ⟨G,rfl,Par.refl hs⟩
    ·cases h
   ·cases h
  ·cases h
 case fld=>exact opt h rfl
 case ia =>
  split at h
  ·split at h
   ·rename_i hc;simp at h;obtain ⟨rfl,rfl⟩:=h;rw [R0k hc];exact ⟨G,rfl,Par.refl hs⟩
   ·cases h
  ·cases h
 case ext =>
  split at h
  ·exact opt h rfl
  ·cases h
 case call=>cases h
 case callv=>split at h <;> cases h
 case inv =>
  split at h
  ·split at h <;> cases h
  ·cases h
 case len=>split at h <;> simp at h;obtain ⟨rfl,rfl⟩:=h;exact ⟨G,rfl,Par.refl hs⟩
 case cap=>exact opt h rfl
 case appz=>split at h <;> simp at h;obtain ⟨rfl,rfl⟩:=h;rw [hs];exact ⟨_,rfl,Par.push hs _⟩
 case mnx=>exact opt h rfl
 case mkmap=>simp at h;obtain ⟨rfl,rfl⟩:=h;rw [hs];exact ⟨_,rfl,Par.push hs _⟩
 case look z x i =>
  refine opt h ?_
  unfold m0E
  split
  ·rename_i b k n hp hn
   have hb:G.blk b=H.blk b:=hfp _ (.inl (by simp [c0z,hp,blkOf]))
   rw [hb]
  ·rfl
 case stuck=>cases h
 case app e size bytes s x =>
  cases hap:j0u fl H e size bytes (ev t s) (ev t x) with
  | none=>simp [hap,e0A] at h
  | some r =>
   obtain ⟨rv,rH⟩:=r
   simp only [hap,e0A,OpRes.val.injEq] at h
   obtain ⟨rfl,rfl⟩:=h
   unfold j0u at hap ⊢
   split at hap
   ·rename_i base len cap xb n xc e1 e2
    split at hap
    ·rename_i hn;cases hap;rw [R0k hn];exact ⟨G,rfl,Par.refl hs⟩
    ·rename_i hn;rw [R0c hn]
     split at hap
     ·rename_i hbd;rw [R0k hbd]
      split at hap
      ·cases hap
      ·rename_i xp
       have hbx:G.blk xp.block=H.blk xp.block:=hfp _ (.inl (by simp [c0z,e2,blkOf]))
       simp only [g0b hbx]
       split at hap
       ·cases hap
       ·rename_i new hnew
        try simp only []
        split at hap
        ·cases hap
        rename_i hpl;rw [R0c hpl]
        split at hap
        ·split at hap
         ·rename_i hz;cases hap;rw [R0k hz,hs];exact ⟨_,rfl,Par.push hs _⟩
         ·cases hap
        ·rename_i sp
         split at hap
         ·rename_i h00;cases hap;rw [R0k h00,hs];exact ⟨_,rfl,Par.push hs _⟩
         rename_i h00;rw [R0c h00]
         have hbs:G.blk sp.block=H.blk sp.block:=hfp _ (.inr (by simp only [c0z,e1,blkW];rw [R0c h00];simp))
         simp only [g0b hbs]
         split at hap
         ·cases hap
         ·rename_i old hold
          try simp only []
          split at hap
          ·rename_i hc;cases hap;rw [R0k hc,hs];exact ⟨_,rfl,Par.push hs _⟩
          ·rename_i hc;rw [R0c hc,hbs]
           split at hap
           ·rename_i e' cs hk
            try simp only []
            split at hap
            ·rename_i hc2;cases hap;rw [R0k hc2,hs];exact ⟨_,rfl,Par.move hs (a0k hk) hbs _ _⟩
            ·cases hap
           ·cases hap
     ·cases hap
   ·cases hap
 case pan=>split at h <;> cases h
theorem f0S {f:FuncId} {args:List Value} {l:Bool} (h:opA fl t H so=.call f args l):∀ fl G,opA fl t G so=.call f args l:=by
 intro fl' G
 cases so <;> simp only [opA] at h ⊢
 case call=>simpa using h
 case callv=>split at h <;> simp_all
 case inv =>
  split at h
  ·split at h <;> simp_all
  ·cases h
 case ext=>split at h;(unfold b0b at h;split at h <;> cases h);cases h
 case app=>unfold e0A at h;split at h <;> cases h
 case store=>split at h;(split at h;cases h;(split at h <;> cases h));cases h
 case fa0=>split at h;(split at h;(split at h <;> cases h);cases h);cases h
 case sl=>split at h;cases h;(unfold b0b at h;split at h <;> cases h)
 all_goals first
  | (simp at h;done)
  | (unfold b0b at h;split at h <;> cases h)
  | (split at h <;> first | (cases h;done) | (split at h <;> cases h))
theorem e0j {v:Value} (h:opA fl t H so=.pan v):(∃ ty u,v=.iface ty u)∧∃ x,so=.pan x∧ev t x=v:=by
 cases so <;> simp only [opA] at h
 case pan x=>split at h <;> cases h;rename_i ty u hx;exact ⟨⟨_,_,rfl⟩,x,rfl,hx⟩
 case call=>cases h
 case callv=>split at h <;> cases h
 case inv =>
  split at h
  ·split at h <;> cases h
  ·cases h
 case ext=>split at h;(unfold b0b at h;split at h <;> cases h);cases h
 case app=>unfold e0A at h;split at h <;> cases h
 case store=>split at h;(split at h;cases h;(split at h <;> cases h));cases h
 case fa0=>split at h;(split at h;(split at h <;> cases h);cases h);cases h
 case sl=>split at h;cases h;(unfold b0b at h;split at h <;> cases h)
 all_goals first
  | (simp at h;done)
  | (unfold b0b at h;split at h <;> cases h)
  | (split at h <;> first | (cases h;done) | (split at h <;> cases h))
end
section
open Go
variable {X:Cx} {φ φ':Inj} {S:Shp} {H H':a0c} {w w':World} {fl:Nat} {t:a0Q} {a:Act} {o:Oper} {so:SOp} {lone:Bool}
structure Pan (X:Cx) (fl:Nat) (φ:Inj) (H:a0c) (w:World) (w':World):Prop where
 shp:∀ B x,w.shape? B=some x→w'.shape? B=some x
 wsz:w.heap.size≤w'.heap.size
 os:w'.os=w.os
 tape:w'.tape=w.tape
 out:w'.output=w.output
 frame:∀ B,B < w.heap.size→(∀ b o e cs,φ b=some (B,o)→fl≤b→H.blk b ≠ .row false e cs)→w'.heap[B]? = w.heap[B]?
theorem Pan.after {fl1:Nat} {φ1:Inj} {H1:a0c} {w1 w2:World} (h:c0T X fl φ H w φ1 H1 w1) (k:Pan X fl1 φ1 H1 w1 w2) (hf:fl≤fl1) (hr:Rel X φ H w):Pan X fl φ H w w2 :=
 { shp := fun B x hb => k.shp _ _ (h.shp _ _ hb)
   wsz:=R0z h.wsz k.wsz
   os:=k.os.trans h.os
   tape:=k.tape.trans h.tape
   out:=k.out.trans h.out
   frame:=fun B hB hno=>by
    rw [k.frame B (R0r hB h.wsz) ?_,h.frame B hB hno]
    intro b o e cs hb hfl hrow
    cases h1:φ b with
    | none =>
     rcases h.newB b B o hb h1 with h2 | ⟨b0,o0,e0,cs0,h2,h3,h4⟩
     ·omega
     ·exact hno b0 o0 e0 cs0 h2 h3 h4
    | some y =>
     have:=h.ext b y h1
     rw [hb] at this;cases this
     obtain ⟨cs0,h6⟩:=h.kind b e cs (hr.lt b _ h1) hrow
     exact hno b o e cs0 h1 (by omega) h6 }
theorem c0T.lower {fl1:Nat} (h:c0T X fl1 φ H w φ' H' w') (hf:fl≤fl1):c0T X fl φ H w φ' H' w' :=
 { h with
   keep:=fun b hb=>h.keep b (by omega)
   newB:=fun b B o hb hn=>by
    rcases h.newB b B o hb hn with h1 | ⟨b0,o0,e,cs,h1,h2,h3⟩
    ·exact .inl h1
    ·exact .inr ⟨b0,o0,e,cs,h1,by omega,h3⟩
   frame:=fun B hB hno=>h.frame B hB (fun b o e cs hb hfl=>hno b o e cs hb (by omega)) }
theorem Pan.lower {fl1:Nat} (h:Pan X fl1 φ H w w') (hf:fl≤fl1):Pan X fl φ H w w' :=
 { h with frame:=fun B hB hno=>h.frame B hB (fun b o e cs hb hfl=>hno b o e cs hb (by omega)) }
theorem Pan.same:Pan X fl φ H w w:=⟨fun _ _ h=>h,Q0W _,rfl,rfl,rfl,fun _ _ _=>rfl⟩
def O0a:XA→Exit
 | .normal=>.normal
 | .exit id=>.exit id
 | .ret=>.ret
def v0V (X:Cx) (D:List Deferred) (fl:Nat) (φ:Inj) (H:a0c) (w:World):Out→Exit→Act→World→Prop
 | .bad,_,_,_=>False
 | .pan _,e,a',w'=>(∃ ty u,e=.panic [{ v:=.iface ty u,recovered:=false }])∧a'.defers=D∧Pan X fl φ H w w'
 | .fin x t' H',e,a',w'=>e=O0a x∧a'.defers=D∧∃ φ',CR X φ' w'.shape? t' a'.tmps.toList∧c0T X fl φ H w φ' H' w'
theorem v0V.after {D:List Deferred} {φ1:Inj} {H1:a0c} {w1 w2:World} {out:Out} {e:Exit} {a':Act} (h:c0T X fl φ H w φ1 H1 w1) (hr:Rel X φ H w) (k:v0V X D fl φ1 H1 w1 out e a' w2):v0V X D fl φ H w out e a' w2:=by
 cases out with
 | bad=>exact k
 | pan v=>exact ⟨k.1,k.2.1,Pan.after h k.2.2 (Q0W _) hr⟩
 | fin x t' H' =>
  obtain ⟨h1,h2,φ',h3,h4⟩:=k
  exact ⟨h1,h2,φ',h3,h.trans h4 (Q0W _) hr⟩
def d0J (X:Cx) (call:Nat→FuncId→List Value→a0c→Res (Value × a0c)):Prop :=
 ∀ (fl:Nat) (f:FuncId) (args:List Value) (H:a0c) (φ:Inj) (w:World) (args':Array Value),Rel X φ H w→CR X φ w.shape? args args'.toList→fl≤H.size →
  (∀ v H',call fl f args H=.ok (v,H')→x0c X.P f=true∧Calls X.P f args' w fun e w'=>∃ v' φ',e=.returned v'∧VR X φ' w'.shape? v v'∧c0T X fl φ H w φ' H' w') ∧
  (∀ v,call fl f args H=.pan v→(∃ ty u,v=.iface ty u)∧x0c X.P f=true ∧
   Calls X.P f args' w fun e w'=>(∃ ty u,e=.panicked [{ v:=.iface ty u,recovered:=false }])∧Pan X fl φ H w w')
section
variable {call:Nat→FuncId→List Value→a0c→Res (Value × a0c)}
theorem p0p {P:Program} {op:Op} {x:Opd} (hc:cOp P lone op=some (.pan x)):∃ x0,op=.panic x0∧b0E x0=some x:=by
 cases op
 case panic x0 =>
  simp only [cOp,Q0X,Q0U,Q0Y,Q0V,SOp.pan.injEq] at hc
  obtain ⟨x',h1,rfl⟩:=hc
  exact ⟨x0,rfl,h1⟩
 case makeMap ty r=>cases r <;> simp [cOp] at hc
 case mapUpdate=>simp [cOp] at hc
 case lookup ty x i ok =>
  exfalso
  cases ok with
  | true=>simp [cOp] at hc
  | false =>
   simp only [cOp] at hc
   split at hc
   ·split at hc
    ·split at hc
     ·split at hc
      ·simp [Q0U] at hc
      ·cases hc
     ·cases hc
    ·cases hc
   ·cases hc
 case call c =>
  exfalso
  obtain ⟨callee,args,ats⟩:=c
  cases callee with
  | value f=>cases f <;> simp only [cOp] at hc <;> (try split at hc) <;> simp [Q0U] at hc
  | invoke r n=>simp [cOp,Q0U] at hc
  | builtin b =>
   simp only [cOp] at hc
   split at hc
   ·simp [Q0U] at hc
   ·simp [Q0U] at hc
   ·simp [Q0U] at hc
   ·simp [Q0U] at hc
   ·simp only [Q0X,Q0U] at hc
    obtain ⟨_,_,_,_,_,_,hc⟩:=hc
    split at hc
    ·simp [Q0U] at hc
    ·split at hc
     ·simp [Q0U] at hc
     ·cases hc
   ·cases hc
 all_goals
  exfalso
  simp only [cOp,S0v,Q0X,Q0U,Q0Y,Q0V,reduceCtorEq,and_false,exists_const,exists_false] at hc
  try (repeat' (first | (simp only [Q0U,Q0V,reduceCtorEq,and_false,exists_const,exists_false] at hc;done) | (obtain ⟨_,_,hc⟩:=hc) | (split at hc)))
theorem n0X {P:Program} {K K':Act→World→Prop} {Q Q':Exit→Act→World→Prop} (hk:∀ a w,K a w→K' a w) (hq:∀ e a w,Q e a w→Q' e a w) (h:o.wp P a w K Q):o.wp P a w K' Q':=by
 unfold Oper.wp at *
 generalize (execOp a.eval o).run P w=r at *
 cases r with
 | ok n w' =>
  cases n <;> simp only [Oper.upon] at h ⊢ <;>
   first
    | exact hk _ _ h
    | exact Calls.mono h (fun e w'' he=>by cases e <;> first | exact hk _ _ he | exact hq _ _ _ he | (obtain ⟨a1,w1,h1⟩:=he;exact ⟨a1,w1,hq _ _ _ h1⟩))
    | exact Rows.mono h (fun _ _ he=>hk _ _ he)
 | halt x w'=>cases x <;> simp only [Oper.upon] at h ⊢ <;> exact hq _ _ _ h
theorem LetsOut.mono {Q Q':Exit→Act→World→Prop} (hq:∀ e a w,Q e a w→Q' e a w) (h:LetsOut Q):LetsOut Q':=by
 obtain ⟨a1,w1,h1⟩:=h;exact ⟨a1,w1,hq _ _ _ h1⟩
theorem c0A {P:Program} {ops:Array Oper} {Q Q':Exit→Act→World→Prop} (hq:∀ e a w,Q e a w→Q' e a w):∀ {l:List Nat} {a:Act} {w:World},wpOps P ops Q l a w→wpOps P ops Q' l a w
 | [],_,_,h=>hq _ _ _ h
 | i :: r,a,w,h=>by
  unfold wpOps at h ⊢
  split at h
  ·exact c0A hq h
  ·split at h
   ·rename_i hw
    rw [R0k hw]
    rcases h with h | ⟨h1,h2⟩
    ·exact .inl (n0X (fun _ _ h=>c0A hq h) hq h)
    ·exact .inr ⟨h1,LetsOut.mono hq h2⟩
   ·rename_i hw
    rw [R0c hw]
    exact c0A hq h
theorem p0f (hcall:d0J X call) (hc:cOp X.P lone o.op=some so) (hf:(a0j so).all a0v=true) (hR:Rel X φ H w) (hT:CR X φ w.shape? t a.tmps.toList) (hfl:fl≤H.size)
  {v:Value} (h:b0V call fl t H so=.ok (v,H')) {K:Act→World→Prop} {Q:Exit→Act→World→Prop} (a2:Act) (he:execOp a2.eval o=execOp a.eval o)
  (hK:∀ φ' v' w',VR X φ' w'.shape? v v'→c0T X fl φ H w φ' H' w'→K (a2.put o.dst v') w'):o.wp X.P a2 w K Q:=by
 unfold b0V at h
 unfold Oper.wp
 rw [he]
 split at h
 ·cases h
 ·cases h
 ·rename_i v1 H1 hv
  simp only [Res.ok.injEq,S0L] at h;obtain ⟨rfl,rfl⟩:=h
  obtain ⟨φ',w',v',hr,hvr,hst⟩:=J0d hc hf hR hT hfl hv
  rcases hr with hr | ⟨rfl,hr⟩
  ·rw [hr];exact hK φ' v' w' hvr hst
  ·rw [hr];exact hK φ' _ w' hvr hst
 ·rename_i f args l hv
  obtain ⟨args',hca,hrun⟩:=r0j hc hf hT hv
  obtain ⟨hruns,hcalls⟩:=(hcall _ f args H φ w args' hR hca (show (if l=true then fl else max fl H.size)≤H.size by split <;> omega)).1 v H' h
  rw [hrun,h0E hruns]
  refine Calls.mono hcalls ?_
  rintro e w' ⟨v',φ',rfl,hvr,hst⟩
  exact hK φ' v' w' hvr (hst.lower (by split <;> omega))
theorem m0o (hcall:d0J X call) (hc:cOp X.P lone o.op=some so) (hf:(a0j so).all a0v=true) (hR:Rel X φ H w) (hT:CR X φ w.shape? t a.tmps.toList) (hfl:fl≤H.size)
  {v:Value} (h:b0V call fl t H so=.pan v) {K:Act→World→Prop} {Q:Exit→Act→World→Prop} (a2:Act) (he:execOp a2.eval o=execOp a.eval o)
  (hQ:∀ ty u w',Pan X fl φ H w w'→Q (.panic [{ v:=.iface ty u,recovered:=false }]) a2 w'):o.wp X.P a2 w K Q:=by
 unfold b0V at h
 unfold Oper.wp
 rw [he]
 split at h
 ·cases h
 ·rename_i v1 hv
  obtain ⟨⟨ty,u,rfl⟩,x,rfl,hx⟩:=e0j hv
  obtain ⟨x0,ho,h1⟩:=p0p hc
  have hv:=a0Z hT h1 (by simpa [a0j] using hf)
  rw [hx] at hv
  generalize hg:a.eval x0=g at hv
  cases hv with
  | iface _ _ u' hu =>
   have:(execOp a.eval o).run X.P w=.halt (.panic (.iface ty u')) w:=by simp [execOp,ho,hg,Instr.panic,goPanic]
   rw [this]
   exact hQ ty u' w Pan.same
 ·cases h
 ·rename_i f args l hv
  obtain ⟨args',hca,hrun⟩:=r0j hc hf hT hv
  obtain ⟨_,hruns,hcalls⟩:=(hcall _ f args H φ w args' hR hca (show (if l=true then fl else max fl H.size)≤H.size by split <;> omega)).2 v h
  rw [hrun,h0E hruns]
  refine Calls.mono hcalls ?_
  rintro e w' ⟨⟨ty,u,rfl⟩,hp⟩
  exact hQ ty u w' (hp.lower (by split <;> omega))
theorem j0n {ops:Array Oper} {sop:a0w} (hc:h0T X.P ops lone o=some sop) (hT:∀ d want,sop.g=some (d,want)→VR X φ S (get t d) (a.tmps.getD d undef)):Region.wanted o (yielded ops a.tmps)=b0d t sop.g:=by
 unfold h0T at hc
 simp only [Q0X,Q0U] at hc
 obtain ⟨op,_,hc⟩:=hc
 split at hc
 ·split at hc
  ·rename_i hg
   simp only [Q0Y,Q0V] at hc;subst hc
   simp [Region.wanted,hg,b0d]
  ·rename_i j want hg
   simp only [Q0X,Q0U,Q0Y,Q0V] at hc
   obtain ⟨oj,h1,d,h2,rfl⟩:=hc
   have hv:=hT d want rfl
   simp only [Region.wanted,hg,b0d,yielded,h1,Option.bind_some,h2,get]
   simp only [get] at hv
   have e1:a.tmps.getD d undef=(a.tmps[d]?).getD undef:=by simp
   rw [e1] at hv
   cases hd:a.tmps[d]? with
   | none =>
    rw [hd] at hv
    simp only [Option.getD_none] at hv
    generalize t.getD d undef=q at hv ⊢
    cases hv;rfl
   | some u =>
    rw [hd] at hv
    simp only [R0G] at hv
    generalize t.getD d undef=q at hv ⊢
    cases hv <;> first | rfl | simp
 ·cases hc
theorem p0Y {ops:Array Oper} {sop:a0w} (hc:h0T X.P ops lone o=some sop) (hT:CR X φ w.shape? t a.tmps.toList):Region.wanted o (yielded ops a.tmps)=b0d t sop.g :=
 j0n hc (fun d _ _=>by rw [a0I];exact hT.get d)
theorem e0d {ops:Array Oper} {sop:a0w} (hc:h0T X.P ops lone o=some sop):cOp X.P lone o.op=some sop.op∧(a0j sop.op).all a0v=true∧sop.dst=o.dst:=by
 unfold h0T at hc
 simp only [Q0X,Q0U] at hc
 obtain ⟨op,h1,hc⟩:=hc
 split at hc
 ·rename_i hf
  split at hc
  ·simp only [Q0Y,Q0V] at hc;subst hc;exact ⟨h1,hf,rfl⟩
  ·simp only [Q0X,Q0U,Q0Y,Q0V] at hc
   obtain ⟨oj,_,d,_,rfl⟩:=hc
   exact ⟨h1,hf,rfl⟩
 ·cases hc
theorem n0U (hcall:d0J X call) {D:List Deferred} {ops:Array Oper}:∀ (r:List a0w) (k:Nat) (t:a0Q) (H:a0c) (φ:Inj) (w:World) (a:Act),
  (∀ i s,r[i]? = some s→∃ o,ops[k + i]? = some o∧h0T X.P ops true o=some s)→Rel X φ H w→CR X φ w.shape? t a.tmps.toList→fl≤H.size→a.defers=D→g0k call fl r t H ≠ .bad →
  wpOps X.P ops (v0V X D fl φ H w (g0k call fl r t H)) (List.range' k r.length) a w
 | [],k,t,H,φ,w,a,_,hR,hT,_,hd,_=>⟨rfl,hd,φ,hT,c0T.refl hR⟩
 | s :: r,k,t,H,φ,w,a,hops,hR,hT,hfl,hd,hne=>by
  obtain ⟨o,ho,hco⟩:=hops 0 s rfl
  simp only [R0N] at ho
  obtain ⟨hc,hf,hdst⟩:=e0d hco
  have hw:=p0Y hco hT
  have hops':∀ i s',r[i]? = some s'→∃ o,ops[k + 1 + i]? = some o∧h0T X.P ops true o=some s':=fun i s' hi=>by
   obtain ⟨o',h1,h2⟩:=hops (i + 1) s' (by simpa using hi)
   exact ⟨o',by rw [← h1];congr 1;omega,h2⟩
  rw [R0Y,List.range'_succ]
  unfold wpOps
  simp only [ho]
  simp only [g0k] at hne ⊢
  by_cases hwt:b0d t s.g=true
  ·rw [hw,R0k hwt]
   simp only [hwt,R0T] at hne ⊢
   refine .inl ?_
   cases hs:b0V call fl t H s.op with
   | bad=>simp [hs] at hne
   | pan v =>
    simp only [hs] at hne ⊢
    exact m0o hcall hc hf hR hT hfl hs a rfl (fun ty u w' hp=>⟨⟨ty,u,rfl⟩,hd,hp⟩)
   | ok vH =>
    obtain ⟨v,H1⟩:=vH
    simp only [hs] at hne ⊢
    refine p0f hcall hc hf hR hT hfl hs a rfl (fun φ' v' w' hvr hst=>?_)
    have hT':CR X φ' w'.shape? t a.tmps.toList:=hT.mono hst.ext hst.shp
    have ih:=n0U hcall (D:=D) r (k + 1) (put t s.dst v) H1 φ' w' (a.put o.dst v') hops' hst.rel (by rw [hdst];exact r0C hT' hvr o.dst) (R0z hfl hst.hsz) (by rw [h0l];exact hd) hne
    exact c0A (fun e a2 w2 h2=>v0V.after hst hR h2) ih
  ·rw [hw,R0c hwt]
   simp only [Bool.not_eq_true] at hwt
   simp only [hwt,R0p,R0K] at hne ⊢
   exact n0U hcall (D:=D) r (k + 1) (put t s.dst undef) H φ w (a.put o.dst undef) hops' hR (by rw [hdst];exact r0C hT VR.undef o.dst) hfl (by rw [h0l];exact hd) hne
end
end
section
open Go
variable {X:Cx} {φ φ':Inj} {S:Shp} {H H':a0c} {w w':World} {fl:Nat} {t:a0Q} {a:Act}
section
variable {call:Nat→FuncId→List Value→a0c→Res (Value × a0c)}
def q0h (X:Cx) (call:Nat→FuncId→List Value→a0c→Res (Value × a0c)):Prop :=
 ∀ (ops:Array Oper) (l:List a0w) (bef:List Nat) (pairs:List (Nat × Nat)),q0o X.P ops=some (.draw l bef pairs) →
  ∀ (D:List Deferred) (fl:Nat) (t:a0Q) (H:a0c) (φ:Inj) (w:World) (a:Act),Rel X φ H w→CR X φ w.shape? t a.tmps.toList→fl≤H.size→a.defers=D →
   b0J call fl bef pairs 0 l t H none [] ≠ .bad→∀ id,(Code.region id ops true).wp X.P (v0V X D fl φ H w (b0J call fl bef pairs 0 l t H none [])) a w
def h0C (P:Program) (c:Code) (Q:Exit→Act→World→Prop) (a:Act) (w:World):Prop :=
 ∀ (b:Frame) (k:List Item) (cs:List Frame),∃ e a' w',Q e a' w'∧Arrives P (lone (b.at a (.code c :: .inLoop c :: k)) cs w) b k cs e a' w'
theorem h0C.wp {P:Program} {c:Code} {Q:Exit→Act→World→Prop} (h:h0C P c Q a w):(Code.loop c).wp P Q a w :=
 fun b k cs=>let ⟨e,a',w',q,r⟩:=h b k cs;⟨e,a',w',q,.of_steps (.one step_loop) r⟩
theorem h0C.round {P:Program} {c:Code} {Q:Exit→Act→World→Prop} (h:c.wp P (Exit.then (h0C P c Q) Q) a w):h0C P c Q a w:=by
 intro b k cs
 obtain ⟨e,a₁,w₁,hq,harr⟩:=h b (.inLoop c :: k) cs
 cases e with
 | normal =>
  obtain ⟨e₂,a₂,w₂,hq₂,harr₂⟩:=hq b k cs
  exact ⟨e₂,a₂,w₂,hq₂,.of_steps (Steps.trans harr (.one step_inLoop)) harr₂⟩
 | exit id=>exact ⟨_,a₁,w₁,hq,.pass (x:=.inLoop c) rfl (fun _ _=>.inl (by simp)) harr⟩
 | goto l=>exact ⟨_,a₁,w₁,hq,.pass (x:=.inLoop c) rfl (fun _ _=>.inl (by simp)) harr⟩
 | ret=>exact ⟨_,a₁,w₁,hq,.pass (x:=.inLoop c) rfl (fun _ _=>.inl (by simp)) harr⟩
 | panic ch=>exact ⟨_,a₁,w₁,hq,.pass (x:=.inLoop c) rfl (fun _ _=>.inl (by simp)) harr⟩
 | outgrown=>exact ⟨_,a₁,w₁,hq,.pass (x:=.inLoop c) rfl (fun _ _=>.inl (by simp)) harr⟩
def wpx (P:Program) (c:Code) (Q:Exit→Act→World→Prop) (a:Act) (w:World):Prop :=
 match c with
 | .loop d=>h0C P d Q a w
 | c=>c.wp P Q a w
theorem wpx.wp {P:Program} {c:Code} {Q:Exit→Act→World→Prop} (h:wpx P c Q a w):c.wp P Q a w:=by
 cases c <;> first | exact h0C.wp h | exact h
theorem o0q {α β:Type} {f:α→Option β}:∀ {l:List α} {r:List β},l.mapM f=some r→∀ (i:Nat) (y:β),r[i]? = some y→∃ x,l[i]? = some x∧f x=some y
 | [],r,h,i,y,hi=>by simp at h;subst h;simp at hi
 | x :: l,r,h,i,y,hi=>by
  rw [S0N] at h
  simp only [Q0X,Q0U,Q0Y,Q0V] at h
  obtain ⟨b,h1,bs,h2,rfl⟩:=h
  cases i with
  | zero=>simp at hi;subst hi;exact ⟨x,rfl,h1⟩
  | succ i=>obtain ⟨x',h3,h4⟩:=o0q h2 i y (by simpa using hi);exact ⟨x',by simpa using h3,h4⟩
theorem k0w {α β:Type} {f:α→Option β}:∀ {l:List α} {r:List β},l.mapM f=some r→r.length=l.length
 | [],r,h=>by simp at h;subst h;rfl
 | x :: l,r,h=>by
  rw [S0N] at h
  simp only [Q0X,Q0U,Q0Y,Q0V] at h
  obtain ⟨b,h1,bs,h2,rfl⟩:=h
  simp [k0w h2]
theorem d0y (hcall:d0J X call) (hdraw:q0h X call) {D:List Deferred}:∀ (n:Nat) (c:Code) (c':SCode) (fl:Nat) (t:a0Q) (H:a0c) (φ:Inj) (w:World) (a:Act),d0L X.P c=some c'→Rel X φ H w →
  CR X φ w.shape? t a.tmps.toList→fl≤H.size→a.defers=D→a0J call fl n c' t H ≠ .bad→wpx X.P c (v0V X D fl φ H w (a0J call fl n c' t H)) a w
 | 0,c,c',fl,t,H,φ,w,a,_,_,_,_,_,hne=>R0q rfl hne
 | n + 1,c,c',fl,t,H,φ,w,a,hc,hR,hT,hfl,hd,hne=>by
  cases c with
  | skip =>
   simp only [d0L,Q0V] at hc;subst hc
   exact wp_skip ⟨rfl,hd,φ,hT,c0T.refl hR⟩
  | label l =>
   simp only [d0L,Q0V] at hc;subst hc
   exact wp_label ⟨rfl,hd,φ,hT,c0T.refl hR⟩
  | exit id =>
   simp only [d0L,Q0V] at hc;subst hc
   exact wp_exit ⟨rfl,hd,φ,hT,c0T.refl hR⟩
  | ret =>
   simp only [d0L,Q0V] at hc;subst hc
   exact wp_ret ⟨rfl,hd,φ,hT,c0T.refl hR⟩
  | seq x y =>
   simp only [d0L,Q0X,Q0U,Q0Y,Q0V] at hc
   obtain ⟨x',hx,y',hy,rfl⟩:=hc
   have hx1:a0J call fl n x' t H ≠ .bad:=fun e=>hne (by simp [a0J,e])
   have ih1:=(d0y hcall hdraw n x x' fl t H φ w a hx hR hT hfl hd hx1).wp
   refine wp_seq (wp_mono ih1 ?_)
   intro e a1 w1 hp
   simp only [a0J]
   cases hr:a0J call fl n x' t H with
   | bad=>exact R0q hr hx1
   | pan v =>
    rw [hr] at hp
    obtain ⟨⟨ty,u,rfl⟩,h2,h3⟩:=hp
    exact ⟨⟨ty,u,rfl⟩,h2,h3⟩
   | fin xx t1 H1 =>
    rw [hr] at hp
    obtain ⟨rfl,hd1,φ1,hT1,hst⟩:=hp
    cases xx with
    | normal =>
     have hne2:a0J call fl n y' t1 H1 ≠ .bad:=fun e=>hne (by simp [a0J,hr,e])
     have ih2:=(d0y hcall hdraw n y y' fl t1 H1 φ1 w1 a1 hy hst.rel hT1 (R0z hfl hst.hsz) hd1 hne2).wp
     exact wp_mono ih2 (fun e a2 w2 h2=>v0V.after hst hR h2)
    | exit id=>exact ⟨rfl,hd1,φ1,hT1,hst⟩
    | ret=>exact ⟨rfl,hd1,φ1,hT1,hst⟩
  | cond c x y =>
   simp only [d0L,Q0X,Q0U,Q0Y,Q0V] at hc
   obtain ⟨c',hcc,hc⟩:=hc
   split at hc
   ·rename_i hflat
    simp only [Q0U,Q0V] at hc
    obtain ⟨x',hx,y',hy,rfl⟩:=hc
    have hv:=a0Z hT hcc hflat
    simp only [a0J] at hne ⊢
    generalize hg:a.eval c=g at hv
    split at hne
    ·rename_i hb
     rw [hb] at hv;cases hv
     exact wp_cond_true hg (d0y hcall hdraw n x x' fl t H φ w a hx hR hT hfl hd hne).wp
    ·rename_i hb
     rw [hb] at hv;cases hv
     exact wp_cond_false hg (d0y hcall hdraw n y y' fl t H φ w a hy hR hT hfl hd hne).wp
    ·exact R0q rfl hne
   ·cases hc
  | block id c =>
   simp only [d0L,Q0X,Q0U,Q0Y,Q0V] at hc
   obtain ⟨x',hx,rfl⟩:=hc
   have hx1:a0J call fl n x' t H ≠ .bad:=fun e=>hne (by simp [a0J,e])
   have ih1:=(d0y hcall hdraw n c x' fl t H φ w a hx hR hT hfl hd hx1).wp
   refine wp_block (wp_mono ih1 ?_)
   intro e a1 w1 hp
   simp only [a0J]
   cases hr:a0J call fl n x' t H with
   | bad=>exact R0q hr hx1
   | pan v =>
    rw [hr] at hp
    obtain ⟨⟨ty,u,rfl⟩,h2,h3⟩:=hp
    exact ⟨⟨ty,u,rfl⟩,h2,h3⟩
   | fin xx t1 H1 =>
    rw [hr] at hp
    obtain ⟨rfl,hd1,φ1,hT1,hst⟩:=hp
    cases xx with
    | normal=>exact ⟨rfl,hd1,φ1,hT1,hst⟩
    | ret=>exact ⟨rfl,hd1,φ1,hT1,hst⟩
    | exit id' =>
     show Exit.inBlock id _ (.exit id') a1 w1
     unfold Exit.inBlock
     by_cases hid:id' = id
     ·simp only [hid,R0T];exact ⟨rfl,hd1,φ1,hT1,hst⟩
     ·simp only [hid,R0K];exact ⟨rfl,hd1,φ1,hT1,hst⟩
  | loop c =>
   simp only [d0L,Q0X,Q0U,Q0Y,Q0V] at hc
   obtain ⟨x',hx,rfl⟩:=hc
   have hx1:a0J call fl n x' t H ≠ .bad:=fun e=>hne (by simp [a0J,e])
   have ih1:=(d0y hcall hdraw n c x' fl t H φ w a hx hR hT hfl hd hx1).wp
   refine h0C.round (wp_mono ih1 ?_)
   intro e a1 w1 hp
   simp only [a0J]
   cases hr:a0J call fl n x' t H with
   | bad=>exact R0q hr hx1
   | pan v =>
    rw [hr] at hp
    obtain ⟨⟨ty,u,rfl⟩,h2,h3⟩:=hp
    exact ⟨⟨ty,u,rfl⟩,h2,h3⟩
   | fin xx t1 H1 =>
    rw [hr] at hp
    obtain ⟨rfl,hd1,φ1,hT1,hst⟩:=hp
    cases xx with
    | normal =>
     have hne2:a0J call fl n (.loop x') t1 H1 ≠ .bad:=fun e=>hne (by simp [a0J,hr,e])
     have ih2:=d0y hcall hdraw n (.loop c) (.loop x') fl t1 H1 φ1 w1 a1 (by simp [d0L,hx]) hst.rel hT1 (R0z hfl hst.hsz) hd1 hne2
     intro b k cs
     obtain ⟨e,a2,w2,h2,h3⟩:=ih2 b k cs
     exact ⟨e,a2,w2,v0V.after hst hR h2,h3⟩
    | exit id=>exact ⟨rfl,hd1,φ1,hT1,hst⟩
    | ret=>exact ⟨rfl,hd1,φ1,hT1,hst⟩
  | region id ops d =>
   cases d with
   | true =>
    simp only [d0L] at hc
    have hc0:=hc
    unfold q0o at hc
    simp only [Q0X,Q0U] at hc
    obtain ⟨l,_,hc⟩:=hc
    split at hc
    ·simp only [Q0Y,Q0V] at hc
     subst hc
     simp only [a0J] at hne ⊢
     exact hdraw ops _ _ _ hc0 D fl t H φ w a hR hT hfl hd hne id
    ·cases hc
   | false =>
    simp only [d0L,Q0X,Q0U,Q0Y,Q0V] at hc
    obtain ⟨l,hl,rfl⟩:=hc
    simp only [a0J] at hne ⊢
    refine wp_region ?_
    have hlen:ops.size=l.length:=by rw [k0w hl];simp
    rw [List.range_eq_range',hlen]
    exact n0U hcall l 0 t H φ w a (fun i s hi=>by
     obtain ⟨x,h1,h2⟩:=o0q hl i s hi
     exact ⟨x,by simpa using h1,h2⟩) hR hT hfl hd hne
  | _=>simp [d0L] at hc
end
theorem q0X (hR:Rel X φ H w) {ty:TypeId} {n:Nat} {b:Bool} (hn:b0U X.P ty=some n) (hb:h0H X.P ty=some b) {v v' r:Value} (hv:VR X φ w.shape? v v') (hr:b0y H b n v=some r) :
  ∃ q r',v' = .pointer (some q)∧(loadVar ty q).run X.P w=.ok r' w∧VR X φ w.shape? r r':=by
 unfold b0y at hr
 split at hr
 ·rename_i p
  cases hv with
  | ptr _ q B o' h1 h2 h3 =>
   subst h3
   split at hr
   ·rename_i hbn;cases hr
    obtain ⟨rfl,rfl⟩:=hbn
    exact ⟨_,.agg #[],rfl,by simp [loadVar,e0N hb,c0o hn,loadCells,loadCellsFrom],VR.agg_iff.2 CR.nil⟩
   ·split at hr
    ·cases hr
    ·split at hr
     ·rename_i cs hcs
      obtain ⟨hlen,cs',hl',hcr,hcell⟩:=hR.cells h2 hcs
      cases b with
      | true =>
       simp only [R0T] at hr hlen hl';cases hr
       have hld:=run_loadCells_list (P:=X.P) w ⟨B,o' + p.off,none⟩ cs' (i0v hcell)
       rw [hl'] at hld
       exact ⟨_,.agg cs'.toArray,rfl,by simp [loadVar,e0N hb,c0o hn,hld],VR.agg_iff.2 (by simpa using hcr)⟩
      | false =>
       simp only [R0p,R0K] at hr hlen hl'
       cases cs with
       | nil=>simp at hlen
       | cons u r' =>
        simp only [List.head?_cons,Q0V] at hr;subst hr
        obtain ⟨u',r2,rfl,hu,_⟩:=hcr.cons_left
        have hc0:=hcell 0 u' rfl
        simp only [R0N] at hc0
        exact ⟨_,u',rfl,by simp [loadVar,e0N hb,hc0],hu⟩
     ·cases hr
 ·cases hr
def l0k (tmps:Array Value):ResultVar→Sem Value
 | .tmp t=>pure (tmps.getD t undef)
 | .cell a t=>do loadVar t (← asAddr (tmps.getD a undef))
theorem G0q {sr:List SRes}:∀ {rs:List ResultVar} {vs:List Value},rs.mapM (L0x X.P)=some sr→d0V H t sr=some vs→Rel X φ H w→CR X φ w.shape? t a.tmps.toList →
  ∃ vs',CR X φ w.shape? vs vs'∧(rs.mapM (l0k a.tmps)).run X.P w=.ok vs' w:=by
 induction sr with
 | nil =>
  intro rs vs h h2 hR hT
  have:rs=[]:=by have:=k0w h;exact R0x.1 this.symm
  subst this
  simp [d0V] at h2;subst h2
  exact ⟨[],CR.nil,by simp⟩
 | cons s sr ih =>
  intro rs vs h h2 hR hT
  cases rs with
  | nil=>simp at h
  | cons r rs =>
   rw [S0N] at h
   simp only [Q0X,Q0U,Q0Y,Q0V] at h
   obtain ⟨s',h3,sr',h4,h5⟩:=h
   cases h5
   simp only [d0V] at h2
   split at h2
   ·rename_i v vs2 h6 h7
    cases h2
    obtain ⟨vs',hvs,hrun⟩:=ih h4 h7 hR hT
    rw [S0N,Sem.run_bind]
    cases r with
    | tmp i =>
     simp only [L0x,Q0V] at h3;subst h3
     simp only [m0n,Q0V] at h6;subst h6
     refine ⟨a.tmps.getD i undef :: vs',CR.cons ?_ hvs,by simp only [l0k,Sem.run_pure,Result.andThen_ok,Sem.run_bind,hrun]⟩
     rw [a0I];exact hT.get i
    | cell c ty =>
     simp only [L0x,Q0X,Q0U,Q0Y,Q0V] at h3
     obtain ⟨b,hb,n,hn,rfl⟩:=h3
     simp only [m0n] at h6
     obtain ⟨q,v'',hq,hrun2,hvr⟩:=q0X hR hn hb (hT.get c) h6
     rw [← a0I] at hq
     exact ⟨v'' :: vs',CR.cons hvr hvs,by
      have hsa:(asAddr (a.tmps.getD c undef)).run X.P w=.ok q w:=by rw [hq];rfl
      simp only [l0k,hsa,hrun2,Result.andThen_ok,Sem.run_bind,hrun,Sem.run_pure]⟩
   ·cases h2
theorem w0T {vs vs':List Value} (h:CR X φ S vs vs'):VR X φ S (d0c vs) (if h:vs'.toArray.size=1 then vs'.toArray[0] else .tuple vs'.toArray):=by
 cases vs with
 | nil=>rw [h.nil_left];exact VR.tuple_iff.2 CR.nil
 | cons v r =>
  obtain ⟨v',r',rfl,hv,hr⟩:=h.cons_left
  cases r with
  | nil=>rw [hr.nil_left];simpa [d0c] using hv
  | cons u r2 =>
   obtain ⟨u',r3,rfl,_,_⟩:=hr.cons_left
   simp only [d0c]
   rw [dif_neg (by simp)]
   exact VR.tuple_iff.2 (by simpa using h)
def o0a (call:Nat→FuncId→List Value→a0c→Res (Value × a0c)):Prop:=∀ fl f args H v,call fl f args H=.pan v→∃ ty u,v=.iface ty u
section
variable {call:Nat→FuncId→List Value→a0c→Res (Value × a0c)} (hp:o0a call)
include hp
theorem f0i {so:SOp} {v:Value} (h:b0V call fl t H so=.pan v):∃ ty u,v=.iface ty u:=by
 unfold b0V at h
 split at h
 ·cases h
 ·rename_i v1 hv;simp only [Res.pan.injEq] at h;subst h;exact (e0j hv).1
 ·cases h
 ·exact hp _ _ _ _ _ h
theorem d0I:∀ (r:List a0w) (t:a0Q) (H:a0c) {v:Value},g0k call fl r t H=.pan v→∃ ty u,v=.iface ty u
 | [],t,H,v,h=>by simp [g0k] at h
 | s :: r,t,H,v,h=>by
  simp only [g0k] at h
  split at h
  ·split at h
   ·cases h
   ·rename_i v1 hs;simp only [Out.pan.injEq] at h;subst h;exact f0i hp hs
   ·exact d0I r _ _ h
  ·exact d0I r _ _ h
theorem b0S (bef:List Nat) (pairs:List (Nat × Nat)):∀ (r:List a0w) (i:Nat) (t:a0Q) (H:a0c) (p:Option (Nat × Value)) (log:List (List Nat × List Nat)) {v:Value},
  (∀ j u,p=some (j,u)→∃ ty x,u=.iface ty x)→b0J call fl bef pairs i r t H p log=.pan v→∃ ty u,v=.iface ty u
 | [],i,t,H,p,log,v,hpp,h=>by
  simp only [b0J] at h
  split at h
  ·split at h
   ·cases h
   ·rename_i j u;simp only [Out.pan.injEq] at h;subst h;exact hpp _ _ rfl
  ·cases h
 | s :: r,i,t,H,p,log,v,hpp,h=>by
  simp only [b0J] at h
  split at h
  ·exact b0S bef pairs r _ _ _ _ _ hpp h
  ·split at h
   ·split at h
    ·cases h
    ·rename_i v1 hs
     split at h
     ·refine b0S bef pairs r _ _ _ _ _ ?_ h
      intro j u hju;cases hju;exact f0i hp hs
     ·cases h
    ·exact b0S bef pairs r _ _ _ _ _ hpp h
   ·exact b0S bef pairs r _ _ _ _ _ hpp h
theorem b0x:∀ (n:Nat) (c:SCode) (t:a0Q) (H:a0c) {v:Value},a0J call fl n c t H=.pan v→∃ ty u,v=.iface ty u
 | 0,c,t,H,v,h=>by simp [a0J] at h
 | n + 1,c,t,H,v,h=>by
  cases c <;> simp only [a0J] at h
  case skip=>cases h
  case exit=>cases h
  case ret=>cases h
  case seq a b =>
   split at h
   ·exact b0x n b _ _ h
   ·exact b0x n a _ _ h
  case cond c a b =>
   split at h
   ·exact b0x n a _ _ h
   ·exact b0x n b _ _ h
   ·cases h
  case block id c =>
   split at h
   ·split at h <;> cases h
   ·exact b0x n c _ _ h
  case loop c =>
   split at h
   ·exact b0x n (.loop c) _ _ h
   ·exact b0x n c _ _ h
  case reg ops=>exact d0I hp _ _ _ h
  case draw ops bef pairs=>exact b0S hp bef pairs _ _ _ _ _ _ (fun _ _ e=>by cases e) h
end
theorem e0O (E:Env):∀ n,o0a (a0T E n)
 | 0=>fun _ _ _ _ _ h=>by simp [a0T] at h
 | n + 1=>fun fl f args H v h=>by
  simp only [a0T] at h
  split at h
  ·split at h
   ·cases h
   split at h
   ·split at h
    ·split at h
     ·split at h
      case isFalse=>cases h
      unfold i0g at h
      split at h
      ·cases h
      ·cases h
      ·cases h
      ·split at h
       ·split at h <;> cases h
       ·cases h
      ·cases h
     ·cases h
    ·cases h
   ·cases h
  ·split at h
   ·split at h
    ·cases h
    ·rename_i v1 hx
     simp only [Res.pan.injEq] at h;subst h
     exact b0x (e0O E n) n _ _ _ hx
    ·split at h
     ·cases h
     ·split at h <;> cases h
   ·cases h
structure H0p (X:Cx) (E:Env):Prop where
 code:∀ f sf,E.code f=some sf→a0W X.P f=some sf
 mixed:X.P.follows .mixedOrders=true
def E0W (X:Cx) (E:Env):Prop:=∀ f v,E.known.lookup f=some v→d0J X fun _ g args H=>if g=f∧args=[] then .ok (v,H) else .bad
def E0Y (X:Cx) (E:Env):Prop :=
 ∀ q,E.quick=some q→∀ call,d0J X call→f0k call→d0J X fun fl f args H =>
  if f=q.f then match args with | [.agg p,.agg s]=>(if p.size=q.np∧s.size=q.ns then i0g q.zero H (call (max fl H.size) q.solved [.agg #[],.agg p,.agg s] H) else .bad) | _=>.bad else .bad
theorem o0i (E:Env) (hE:H0p X E) (hkn:E0W X E) (hq:E0Y X E) (hdraw:∀ call,d0J X call→f0k call→q0h X call):∀ n,d0J X (a0T E n)
 | 0=>fun _ _ _ _ _ _ _ _ _ _=>⟨fun _ _ h=>by simp [a0T] at h,fun _ h=>by simp [a0T] at h⟩
 | n + 1=>fun fl f args H φ w args' hR hA hfl=>by
  have ih:=o0i E hE hkn hq hdraw n
  have hk:=f0l E n
  cases hcode:E.code f with
  | none =>
   cases hkw:E.know f args with
   | some v =>
    have hargs:args=[]:=by
     cases args with
     | nil=>rfl
     | cons x r=>simp [Env.know] at hkw
    have hl:E.known.lookup f=some v:=by rw [hargs] at hkw;simpa [Env.know] using hkw
    have h1:=hkn f v hl fl f args H φ w args' hR hA hfl
    simp only [a0T,hcode,hkw]
    simp only [hargs,and_self,R0T] at h1 ⊢
    exact h1
   | none =>
   cases hqk:E.quick with
   | none=>exact ⟨fun _ _ h=>by simp [a0T,hcode,hkw,hqk] at h,fun _ h=>by simp [a0T,hcode,hkw,hqk] at h⟩
   | some q =>
    have h1:=hq q hqk (a0T E n) ih hk fl f args H φ w args' hR hA hfl
    simp only [a0T,hcode,hkw,hqk]
    exact h1
  | some sf =>
   have hcf:=hE.code f sf hcode
   unfold a0W at hcf
   cases hfn:X.P.funcs[f]? with
   | none=>simp [hfn] at hcf
   | some fn =>
    simp only [hfn] at hcf
    cases hb:fn.body with
    | none=>simp [hb] at hcf
    | some c =>
     simp only [hb] at hcf
     split at hcf
     ·cases hcf
     rename_i hruns
     have hruns:x0c X.P f=true:=by simpa using hruns
     simp only [Q0X,Q0U] at hcf
     obtain ⟨res,hres,body,hbody,hcf⟩:=hcf
     split at hcf
     ·rename_i hnt
      simp only [Q0Y,Q0V] at hcf;subst hcf
      by_cases hlen:args.length=fn.params.size + fn.nfree
      ·have hlen':args'.size=args.length:=by have:=hA.1;simpa using this.symm
       -- the frame at the call's entry
       have hT:CR X φ w.shape? (args ++ List.replicate (fn.ntmps - args.length) undef) (args' ++ Array.replicate (fn.ntmps - args'.size) undef).toList:=by
        rw [hlen']
        have:(args' ++ Array.replicate (fn.ntmps - args.length) undef).toList=args'.toList ++ List.replicate (fn.ntmps - args.length) undef:=by simp
        rw [this]
        refine hA.append ?_
        generalize fn.ntmps - args.length=m
        induction m with
        | zero=>exact CR.nil
        | succ m ih=>exact CR.cons VR.undef ih
       have hx:=fun hne=>(d0y ih (hdraw _ ih hk) n c body fl _ H φ w { tmps:=args' ++ Array.replicate (fn.ntmps - args'.size) undef,defers:=[] } hbody hR hT hfl rfl hne).wp
       cases hr:a0J (a0T E n) fl n body (args ++ List.replicate (fn.ntmps - args.length) undef) H with
       | bad =>
        refine ⟨fun _ _ h=>?_,fun _ h=>?_⟩
        ·simp only [a0T,hcode] at h;rw [R0k hlen,hr] at h;cases h
        ·simp only [a0T,hcode] at h;rw [R0k hlen,hr] at h;cases h
       | pan v0 =>
        rw [hr] at hx
        have hx:=hx (by simp)
        refine ⟨fun _ _ h=>?_,fun v h=>?_⟩
        ·simp only [a0T,hcode] at h;rw [R0k hlen,hr] at h;cases h
        ·simp only [a0T,hcode] at h;rw [R0k hlen,hr] at h
         simp only [Res.pan.injEq] at h;subst h
         refine ⟨b0x (e0O E n) n body _ H hr,hruns,calls_of_wp hfn hb (wp_mono hx ?_)⟩
         rintro e a' w' ⟨⟨ty,u,rfl⟩,hd,hp⟩
         exact ⟨hd,⟨ty,u,rfl⟩,hp⟩
       | fin e t1 H1 =>
        rw [hr] at hx
        have hx:=hx (by simp)
        refine ⟨fun v H' h=>?_,fun v h=>?_⟩
        ·simp only [a0T,hcode] at h;rw [R0k hlen,hr] at h
         refine ⟨hruns,calls_of_wp hfn hb (wp_mono hx ?_)⟩
         rintro e2 a' w' ⟨rfl,hd,φ',hT',hst⟩
         have key:∀ vs,d0V H1 t1 res=some vs→v=d0c vs→H' = H1→∃ v',(results fn a'.tmps).run X.P w' = .ok v' w' ∧
           ∃ v2 φ',Ending.returned v' = .returned v2∧VR X φ' w'.shape? v v2∧c0T X fl φ H w φ' H' w':=by
          intro vs hvs hv hH
          subst hv hH
          obtain ⟨vs',hcr,hrun⟩:=G0q hres hvs hst.rel hT'
          refine ⟨_,?_,_,φ',rfl,w0T hcr,hst⟩
          have e1:results fn a'.tmps=(do let vs ← fn.results.mapM (l0k a'.tmps);pure (if h:vs.size=1 then vs[0] else .tuple vs)):=rfl
          rw [e1,Array.mapM_eq_mapM_toList]
          simp only [Sem.run_bind,Sem.run_map,hrun]
          rfl
         cases e with
         | exit id=>cases h
         | normal =>
          simp only [] at h
          split at h
          ·rename_i vs hvs
           simp only [Res.ok.injEq,S0L] at h
           obtain ⟨v',h1,h2⟩:=key vs hvs h.1.symm h.2.symm
           exact ⟨hd,v',h1,h2⟩
          ·cases h
         | ret =>
          simp only [] at h
          split at h
          ·rename_i vs hvs
           simp only [Res.ok.injEq,S0L] at h
           obtain ⟨v',h1,h2⟩:=key vs hvs h.1.symm h.2.symm
           exact ⟨hd,v',h1,h2⟩
          ·cases h
        ·simp only [a0T,hcode] at h;rw [R0k hlen,hr] at h
         cases e with
         | exit id=>cases h
         | normal=>simp only [] at h;split at h <;> cases h
         | ret=>simp only [] at h;split at h <;> cases h
      ·exact ⟨fun _ _ h=>by simp [a0T,hcode,hlen] at h,fun _ h=>by simp [a0T,hcode,hlen] at h⟩
     ·cases hcf
theorem o0n (bef:List Nat) (i:Nat):∀ (l:List Edge) (s:Nat),(l.foldl (fun s e=>if Region.binds .any e then s ||| 2 ^ e.on ||| bef.getD e.on 0 else s) s).testBit i=true ↔
  s.testBit i=true ∨ ∃ e ∈ l,Region.binds .any e=true∧(i=e.on ∨ (bef.getD e.on 0).testBit i=true)
 | [],s=>by simp
 | e :: l,s=>by
  rw [List.foldl_cons,o0n bef i l]
  by_cases hb:Region.binds .any e=true
  ·simp only [hb,R0T,Nat.testBit_or,Bool.or_eq_true,Nat.testBit_two_pow,R0E,List.mem_cons]
   constructor
   ·rintro (((h | h) | h) | ⟨e',h1,h2⟩)
    ·exact .inl h
    ·exact .inr ⟨e,.inl rfl,hb,.inl h.symm⟩
    ·exact .inr ⟨e,.inl rfl,hb,.inr h⟩
    ·exact .inr ⟨e',.inr h1,h2⟩
   ·rintro (h | ⟨e',rfl | h1,h2,h3⟩)
    ·exact .inl (.inl (.inl h))
    ·rcases h3 with h3 | h3
     ·exact .inl (.inl (.inr h3.symm))
     ·exact .inl (.inr h3)
    ·exact .inr ⟨e',h1,h2,h3⟩
  ·simp only [hb,R0K,List.mem_cons]
   constructor
   ·rintro (h | ⟨e',h1,h2⟩)
    ·exact .inl h
    ·exact .inr ⟨e',.inr h1,h2⟩
   ·rintro (h | ⟨e',rfl | h1,h2,h3⟩)
    ·exact .inl h
    ·exact R0q h2 hb
    ·exact .inr ⟨e',h1,h2,h3⟩
structure p0l (X:Cx) (ops:Array Oper) (l:List a0w) (bef:List Nat) (pairs:List (Nat × Nat)):Prop where
 len:l.length=ops.size
 op:∀ (k:Nat) (s:a0w),l[k]? = some s→∃ o,ops[k]? = some o∧h0T X.P ops (o0p bef (ops.toList.map fun o=>i0c o.op) k) o=some s
 bit:∀ (i j:Nat) (o:Oper),ops[j]? = some o→(a0O bef i j=true ↔ ∃ e ∈ o.after.toList,Region.binds .any e=true∧(i=e.on ∨ a0O bef i e.on=true))
 back:∀ (j:Nat) (o:Oper),ops[j]? = some o→∀ e ∈ o.after.toList,Region.binds .any e=true→e.on < j
 un:∀ (i j:Nat),i < j→j < ops.size→a0O bef i j=false→r0B ops l (i,j)=true∧(g0H l (i,j)=true→(i,j) ∈ pairs)
 nosel:∀ (j:Nat) (o:Oper) (cs:Array SelectCase) (b:Bool),ops[j]? = some o→o.op ≠ .select cs b
theorem j0O {P:Program} {ops:Array Oper} {bef ws:List Nat}:∀ {os:List Oper} {k:Nat} {l:List a0w},l0F P ops bef ws k os=some l →
  l.length=os.length∧∀ i s,l[i]? = some s→∃ o,os[i]? = some o∧h0T P ops (o0p bef ws (k + i)) o=some s
 | [],k,l,h=>by simp [l0F] at h;subst h;simp
 | o :: os,k,l,h=>by
  simp only [l0F] at h
  split at h
  ·rename_i x l' h1 h2
   cases h
   obtain ⟨h3,h4⟩:=j0O h2
   refine ⟨by simp [h3],fun i s hi=>?_⟩
   cases i with
   | zero=>simp at hi;subst hi;exact ⟨o,rfl,h1⟩
   | succ i =>
    obtain ⟨o',h5,h6⟩:=h4 i s (by simpa using hi)
    exact ⟨o',by simpa using h5,by rw [show k + (i + 1)=k + 1 + i by omega];exact h6⟩
  ·cases h
theorem l0O {n i j:Nat} (h:i < j) (hj:j < n):(i,j) ∈ i0e n:=by
 unfold i0e
 rw [List.mem_flatMap]
 exact ⟨j,R0Q.2 hj,List.mem_map.2 ⟨i,R0Q.2 h,rfl⟩⟩
theorem x0J {ops:Array Oper} {l:List a0w} {bef:List Nat} {pairs:List (Nat × Nat)} (h:q0o X.P ops=some (.draw l bef pairs)):p0l X ops l bef pairs:=by
 unfold q0o at h
 simp only [Q0X,Q0U] at h
 obtain ⟨l',h1,h⟩:=h
 split at h
 ·rename_i hc
  obtain ⟨he,hu,hn⟩:=hc
  simp only [Q0Y,Q0V,SCode.draw.injEq] at h
  obtain ⟨rfl,rfl,rfl⟩:=h
  obtain ⟨hl1,hl2⟩:=j0O h1
  have hedge:∀ j o,ops[j]? = some o→(o.after.toList.all fun e=>!Region.binds .any e || e.on < j)=true ∧
    (Region.before ops).toList.getD j 0=(o.after.toList.foldl (fun s e=>if Region.binds .any e then s ||| 2 ^ e.on ||| (Region.before ops).toList.getD e.on 0 else s) 0):=by
   intro j o ho
   have hj:j < ops.size:=(R0n.1 ho).1
   have:=S0b.1 he j (R0Q.2 hj)
   simp only [ho,R0f,beq_iff_eq] at this
   exact this
  refine ⟨by simpa using hl1,fun k s hk=>?_,fun i j o ho=>?_,fun j o ho e hm hb=>?_,fun i j hij hj hord=>?_,fun j o cs b ho hs=>?_⟩
  ·obtain ⟨o,h2,h3⟩:=hl2 k s hk
   exact ⟨o,by simpa using h2,by simpa using h3⟩
  ·unfold a0O
   rw [(hedge j o ho).2,o0n]
   simp
  ·have:=S0b.1 (hedge j o ho).1 e hm
   simpa [hb] using this
  ·have hm:(i,j) ∈ (i0e ops.size).filter fun p=>!a0O (Region.before ops).toList p.1 p.2:=List.mem_filter.2 ⟨l0O hij hj,by simp [hord]⟩
   exact ⟨S0b.1 hu _ hm,fun hw=>List.mem_filter.2 ⟨hm,hw⟩⟩
  ·have:=S0b.1 hn o (by rw [← R0Z] at ho;exact List.mem_of_getElem? ho)
   simp [l0R,hs] at this
 ·cases h
section
variable {ops:Array Oper} {l:List a0w} {bef:List Nat} {pairs:List (Nat × Nat)} (hT:p0l X ops l bef pairs)
include hT
theorem p0l.lt:∀ j i,j < ops.size→a0O bef i j=true→i < j:=by
 intro j
 induction j using Nat.strongRecOn with
 | _ j ih =>
  intro i hj ho
  have hoj:ops[j]? = some ops[j]:=R0w hj
  obtain ⟨e,hm,hb,h⟩:=(hT.bit i j _ hoj).1 ho
  have he:=hT.back j _ hoj e hm hb
  rcases h with rfl | h
  ·exact he
  ·have:=ih e.on he i (by omega) h;omega
theorem p0l.ready {listed:Array Bool} {j:Nat} (hr:j ∈ Region.ready .any ops listed) (hdown:∀ j,j < ops.size→listed.getD j false=true→∀ i,a0O bef i j=true→listed.getD i false=true) :
  j < ops.size∧listed.getD j true=false∧∀ i,a0O bef i j=true→listed.getD i false=true:=by
 unfold Region.ready at hr
 rw [List.mem_filter] at hr
 obtain ⟨hj,hr⟩:=hr
 have hj:=R0Q.1 hj
 simp only [R0f,S0E] at hr
 have hoj:ops[j]? = some ops[j]:=R0w hj
 refine ⟨hj,hr.1,fun i hi=>?_⟩
 have hr2:=hr.2
 simp only [hoj,R0P,R0G] at hr2
 obtain ⟨e,hm,hb,h⟩:=(hT.bit i j _ hoj).1 hi
 rw [Array.all_eq_true'] at hr2
 have h3:=hr2 e (by simpa using hm)
 simp only [hb,Bool.not_true,S0R] at h3
 rcases h with rfl | h
 ·exact h3
 ·have:=hT.back j _ hoj e hm hb
  exact hdown e.on (by omega) h3 i h
theorem p0l.two {i j:Nat} (hij:i ≠ j) (hi:i < ops.size) (hj:j < ops.size) (h1:a0O bef i j=false) (h2:a0O bef j i=false) {oi oj:Oper} {x y:a0w} (hoi:ops[i]? = some oi) (hoj:ops[j]? = some oj)
  (hx:l[i]? = some x) (hy:l[j]? = some y) :
  (∀ d,x.dst=some d→d ∉ f0M oj y∧y.dst ≠ some d)∧(∀ d,y.dst=some d→d ∉ f0M oi x)∧¬ (way x.op=3∧way y.op=2)∧¬ (way x.op=2∧way y.op=3) ∧
  ((way x.op=2∧way y.op ≠ 0)→(i,j) ∈ pairs ∨ (j,i) ∈ pairs):=by
 have key:∀ {p q:Nat} {op oq:Oper} {u v:a0w},p < q→q < ops.size→a0O bef p q=false→ops[p]? = some op→ops[q]? = some oq→l[p]? = some u→l[q]? = some v →
   (∀ d,u.dst=some d→d ∉ f0M oq v∧v.dst ≠ some d)∧(∀ d,v.dst=some d→d ∉ f0M op u)∧¬ (way u.op=3∧way v.op=2)∧¬ (way u.op=2∧way v.op=3) ∧
   ((way u.op=2∧way v.op ≠ 0)→(p,q) ∈ pairs)∧((way v.op=2∧way u.op ≠ 0)→(p,q) ∈ pairs):=by
  intro p q op oq u v hpq hq ho h3 h4 h5 h6
  obtain ⟨h7,h8⟩:=hT.un p q hpq hq ho
  simp only [r0B,h3,h4,h5,h6,R0f,k0c,o0s] at h7
  obtain ⟨⟨h9,h10⟩,h11⟩:=h7
  refine ⟨fun d hd=>?_,fun d hd=>?_,?_,?_,fun h=>h8 ?_,fun h=>h8 ?_⟩
  ·rw [hd] at h9;simpa using h9
  ·rw [hd] at h10;simpa using h10
  ·intro ⟨a1,a2⟩;simp [a1,a2] at h11
  ·intro ⟨a1,a2⟩;simp [a1,a2] at h11
  ·simp [g0H,h5,h6,h.1,h.2]
  ·simp [g0H,h5,h6,h.1,h.2]
 rcases Nat.lt_or_gt_of_ne hij with hlt | hlt
 ·obtain ⟨k1,k2,k3,k4,k5,k6⟩:=key hlt hj h1 hoi hoj hx hy
  exact ⟨k1,k2,k3,k4,fun h=>.inl (k5 h)⟩
 ·obtain ⟨k1,k2,k3,k4,k5,k6⟩:=key hlt hi h2 hoj hoi hy hx
  refine ⟨fun d hd=>⟨k2 d hd,fun e=>(k1 d e).2 hd⟩,fun d hd=>(k1 d hd).1,fun h=>k4 ⟨h.2,h.1⟩,fun h=>k3 ⟨h.2,h.1⟩,fun h=>.inr (k6 h)⟩
end
section
variable (call:Nat→FuncId→List Value→a0c→Res (Value × a0c)) (fl:Nat) (bef:List Nat)
structure Run where
 T:Nat→a0Q
 Hh:Nat→a0c
 Pn:Nat→Option (Nat × Value)
 val:Nat→Value
 tc:Nat→List Nat × List Nat
 st:Nat→Nat
 ds:List Deferred
def g0r (R:Run) (k:Nat) (s:a0w):Prop :=
 (R.st k=0∧i0G bef k (R.Pn k)=true∧R.T (k + 1)=R.T k∧R.Hh (k + 1)=R.Hh k∧R.Pn (k + 1)=R.Pn k∧R.tc k=([],[])) ∨
 (R.st k=1∧i0G bef k (R.Pn k)=false∧b0d (R.T k) s.g=false∧R.val k=undef∧R.T (k + 1)=put (R.T k) s.dst undef∧R.Hh (k + 1)=R.Hh k∧R.Pn (k + 1)=R.Pn k∧R.tc k=([],[])) ∨
 (R.st k=2∧i0G bef k (R.Pn k)=false∧b0d (R.T k) s.g=true∧b0V call fl (R.T k) (R.Hh k) s.op=.ok (R.val k,R.Hh (k + 1))∧R.T (k + 1)=put (R.T k) s.dst (R.val k)∧R.Pn (k + 1)=R.Pn k ∧
  R.tc k=c0z (R.T k) s.op) ∨
 (R.st k=3∧i0G bef k (R.Pn k)=false∧b0d (R.T k) s.g=true∧b0V call fl (R.T k) (R.Hh k) s.op=.pan (R.val k)∧R.Pn k=none∧R.Pn (k + 1)=some (k,R.val k)∧R.T (k + 1)=R.T k∧R.Hh (k + 1)=R.Hh k ∧
  R.tc k=([],[]))
def Run.cons (i:Nat) (t:a0Q) (H:a0c) (p:Option (Nat × Value)) (v:Value) (c:List Nat × List Nat) (s:Nat) (R:Run):Run :=
 { T := fun k => if k = i then t else R.T k, Hh := fun k => if k = i then H else R.Hh k, Pn := fun k => if k = i then p else R.Pn k, val := fun k => if k = i then v else R.val k,
   tc:=fun k=>if k=i then c else R.tc k,st:=fun k=>if k=i then s else R.st k,ds:=R.ds }
variable {call fl bef}
theorem g0r.cons {R:Run} {i k:Nat} {t:a0Q} {H:a0c} {p:Option (Nat × Value)} {v:Value} {c:List Nat × List Nat} {n:Nat} {s:a0w} (hk:i < k) (h:g0r call fl bef R k s) :
  g0r call fl bef (R.cons i t H p v c n) k s:=by
 unfold g0r Run.cons at *
 simp only [R0c (show k ≠ i by omega),R0c (show k + 1 ≠ i by omega)]
 exact h
theorem E0S {pairs:List (Nat × Nat)}:∀ (r:List a0w) (i:Nat) (t:a0Q) (H:a0c) (p:Option (Nat × Value)) (log:List (List Nat × List Nat)),b0J call fl bef pairs i r t H p log ≠ .bad →
  ∃ R:Run,R.T i=t∧R.Hh i=H∧R.Pn i=p∧(∀ m s,r[m]? = some s→g0r call fl bef R (i + m) s)∧c0M (log.reverse ++ (List.range' i r.length).map R.tc) pairs=true ∧
   b0J call fl bef pairs i r t H p log=match R.Pn (i + r.length) with | none=>.fin .normal (R.T (i + r.length)) (R.Hh (i + r.length)) | some (_,v)=>.pan v
 | [],i,t,H,p,log,h=>by
  refine ⟨⟨fun _=>t,fun _=>H,fun _=>p,fun _=>undef,fun _=>([],[]),fun _=>0,[]⟩,rfl,rfl,rfl,fun m s hm=>by simp at hm,?_,?_⟩
  ·simp only [b0J] at h
   split at h
   ·rename_i ha;simpa using ha
   ·exact R0q rfl h
  ·simp only [b0J] at h ⊢
   split at h
   ·rename_i ha;rw [R0k ha];rfl
   ·exact R0q rfl h
 | s :: r,i,t,H,p,log,h=>by
  have fin:∀ (t1:a0Q) (H1:a0c) (p1:Option (Nat × Value)) (c:List Nat × List Nat) (v:Value) (n:Nat),b0J call fl bef pairs i (s :: r) t H p log=b0J call fl bef pairs (i + 1) r t1 H1 p1 (c :: log) →
    (∀ R:Run,R.T (i + 1)=t1→R.Hh (i + 1)=H1→R.Pn (i + 1)=p1→g0r call fl bef (R.cons i t H p v c n) i s) →
    ∃ R:Run,R.T i=t∧R.Hh i=H∧R.Pn i=p∧(∀ m s',(s :: r)[m]? = some s'→g0r call fl bef R (i + m) s')∧c0M (log.reverse ++ (List.range' i (s :: r).length).map R.tc) pairs=true ∧
     b0J call fl bef pairs i (s :: r) t H p log=match R.Pn (i + (s :: r).length) with | none=>.fin .normal (R.T (i + (s :: r).length)) (R.Hh (i + (s :: r).length)) | some (_,v)=>.pan v:=by
   intro t1 H1 p1 c v n heq hst
   rw [heq] at h
   obtain ⟨R,h1,h2,h3,h4,h5,h6⟩:=E0S r (i + 1) t1 H1 p1 (c :: log) h
   refine ⟨R.cons i t H p v c n,by simp [Run.cons],by simp [Run.cons],by simp [Run.cons],fun m s' hm=>?_,?_,?_⟩
   ·cases m with
    | zero=>simp at hm;subst hm;exact hst R h1 h2 h3
    | succ m=>rw [show i + (m + 1)=i + 1 + m by omega];exact (h4 m s' (by simpa using hm)).cons (by omega)
   ·have e:(List.range' i (s :: r).length).map (R.cons i t H p v c n).tc=c :: (List.range' (i + 1) r.length).map R.tc:=by
     rw [R0Y,List.range'_succ,List.map_cons]
     congr 1
     ·simp [Run.cons]
     ·apply List.map_congr_left
      intro x hx
      have:=(List.mem_range'_1.1 hx).1
      simp only [Run.cons]
      rw [R0c (by omega)]
    rw [e]
    simpa using h5
   ·rw [heq,h6]
    simp only [Run.cons,R0Y]
    rw [show i + (r.length + 1)=i + 1 + r.length by omega,R0c (by omega),R0c (by omega),R0c (by omega)]
  by_cases hh:i0G bef i p=true
  ·refine fin t H p ([],[]) undef 0 (by simp [b0J,hh]) (fun R h1 h2 h3=>.inl ?_)
   simp only [Run.cons,R0T,R0c (show i + 1 ≠ i by omega)]
   exact ⟨trivial,hh,h1,h2,h3,trivial⟩
  ·simp only [Bool.not_eq_true] at hh
   by_cases hw:b0d t s.g=true
   ·cases hs:b0V call fl t H s.op with
    | bad=>exact R0q (by simp [b0J,hh,hw,hs]) h
    | pan v =>
     cases hp:p with
     | some u=>subst hp;exact R0q (by simp [b0J,hh,hw,hs]) h
     | none =>
      subst hp
      refine fin t H (some (i,v)) ([],[]) v 3 (by simp [b0J,hh,hw,hs]) (fun R h1 h2 h3=>.inr (.inr (.inr ?_)))
      simp only [Run.cons,R0T,R0c (show i + 1 ≠ i by omega)]
      exact ⟨trivial,hh,hw,hs,trivial,h3,h1,h2,trivial⟩
    | ok vH =>
     obtain ⟨v,H1⟩:=vH
     refine fin (put t s.dst v) H1 p (c0z t s.op) v 2 (by simp [b0J,hh,hw,hs]) (fun R h1 h2 h3=>.inr (.inr (.inl ?_)))
     simp only [Run.cons,R0T,R0c (show i + 1 ≠ i by omega)]
     exact ⟨trivial,hh,hw,by rw [h2];exact hs,h1,h3,trivial⟩
   ·simp only [Bool.not_eq_true] at hw
    refine fin (put t s.dst undef) H p ([],[]) undef 1 (by simp [b0J,hh,hw]) (fun R h1 h2 h3=>.inr (.inl ?_))
    simp only [Run.cons,R0T,R0c (show i + 1 ≠ i by omega)]
    exact ⟨trivial,hh,hw,trivial,h1,h2,h3,trivial⟩
end
end
end Go.Proofs.YtacninhfdfhgjaaGreat.AI
