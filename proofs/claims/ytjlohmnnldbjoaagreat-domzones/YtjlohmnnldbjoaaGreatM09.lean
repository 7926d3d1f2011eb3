/- Part 10 of the proof: AiSx8, AiSy1, SxDet, SxTab, SxBland, SxRun, SxCert, AiSy2, AiSy3, AiSy4, AiSy5. -/
import Derived.Test.YtjlohmnnldbjoaaGreatM06
import Derived.Test.YtjlohmnnldbjoaaGreatM08
set_option linter.unusedVariables false
set_option linter.unusedSimpArgs false
set_option linter.unusedSectionVars false
namespace Go.Proofs.YtjlohmnnldbjoaaGreat.AI
section
open Go
set_option maxHeartbeats 4000000
variable {fl:Nat} {H G:a0f} {R:a0E} {v w u:Value}
def PV (_:a0f) (cs:List Value) (w:Value):Prop:=cs=[w]
theorem v0U:k0V PV:=fun _ _ _ _ _ h=>h
def PK (_:a0f) (cs:List Value) (k:Nat):Prop:=cs=[.int .i64 (k:Int)]
theorem v0T:k0V PK:=fun _ _ _ _ _ h=>h
structure W0i (eN sz:Nat) (P:a0f→List Value→Int→Prop):Prop where
 mono:k0V P
 lx:∀ (G G':a0f) cs x,Lx G G'→P G cs x→P G' cs x
 ne:eN ≠ a0j
 sz:0 < sz
theorem V0Z:W0i d0w 1 PF:=⟨X0P,fun _ _ _ _ _ h=>h,by decide,by decide⟩
theorem V0Y:W0i a0a 2 PI:=⟨d0e,fun _ _ _ _ hl h=>b0f.lx h hl,by decide,by decide⟩
structure e0w (eN sz:Nat) (P:a0f→List Value→Int→Prop) (fl:Nat) (H:a0f) (vs:List Value) (L:List (List Int)):Prop where
 len:vs.length=L.length
 own:∀ i (h:i < L.length),b0b P fl H eN sz (vs[i]'(by omega)) L[i]
 apart:∀ i j (h:i < L.length) (h':j < L.length),i ≠ j→slB (vs[i]'(by omega))=none ∨ slB (vs[i]'(by omega)) ≠ slB (vs[j]'(by omega))
theorem e0w.mono {eN sz:Nat} {P:a0f→List Value→Int→Prop} {vs:List Value} {L:List (List Int)} (hP:W0i eN sz P) (h:e0w eN sz P fl H vs L) (hx:Ext H G):e0w eN sz P fl G vs L :=
 ⟨h.len,fun i hi=>(h.own i hi).mono hP.mono hx,h.apart⟩
theorem e0w.store {eN sz i j:Nat} {P:a0f→List Value→Int→Prop} {vs:List Value} {L:List (List Int)} {x:Int} {w:Value} (hP:W0i eN sz P) (h:e0w eN sz P fl H vs L) (hi:i < L.length) (hj:j < L[i].length)
  (hw:(a0W w).length=sz) (hp:(a0W w).all a0F=true) (hx:P H (a0W w) x) :
  ∃ G,e0N fl H sz (adr sz (vs[i]'(by have:=h.len;omega)) j) w=some G∧e0w eN sz P fl G vs (L.set i (L[i].set j x))∧e0l (slB (vs[i]'(by have:=h.len;omega))) H G∧Lx H G:=by
 obtain ⟨G,hst,ho,hxb⟩:=b0b.store (x:=x) (w:=w) (h.own i hi) hj hP.sz hw hp (fun G' _ hl=>hP.lx _ _ _ _ hl hx) hP.ne (fun G' cs y _ hl hy=>hP.lx _ _ _ _ hl hy)
 have hlx:=(h.own i hi).lx hP.ne hxb
 refine ⟨G,hst,⟨by simp [h.len],fun k hk=>?_,fun a b ha hb hab=>h.apart a b (by simpa using ha) (by simpa using hb) hab⟩,hxb,hlx⟩
 have hk':k < L.length:=by simpa using hk
 by_cases hki:k=i
 ·subst hki;simpa using ho
 ·rw [i1v (by omega)]
  exact (h.own k hk').off hxb (h.apart k i hk' hi hki) (fun cs y hy=>hP.lx _ _ _ _ hlx hy)
structure i0c (fl:Nat) (H:a0f) (p n m:Nat) (L:List (List Int)) (D:Int) (bs:List Nat) (k:Nat) (sR sB:Value) (vs:List Value):Prop where
 blk:a0f.blk H p=.row false a0d [.int .i64 (n:Int),.int .i64 (m:Int),.int .i64 ((2 * n + m:Nat):Int),sR,.int .i64 D,sB,.int .i64 (k:Int)]
 low:fl≤p
 d:f0m D
 heads:b0b PV fl H e0D 1 sR vs
 rows:e0w d0w 1 PF fl H vs L
 basis:b0b PK fl H g0n 1 sB bs
theorem i0c.mono {p n m k:Nat} {L:List (List Int)} {D:Int} {bs:List Nat} {sR sB:Value} {vs:List Value} (h:i0c fl H p n m L D bs k sR sB vs) (hx:Ext H G):i0c fl G p n m L D bs k sR sB vs :=
 ⟨hx.blk h.blk,h.low,h.d,h.heads.mono v0U hx,h.rows.mono V0Z hx,h.basis.mono v0T hx⟩
theorem i0c.store {p n m k i j:Nat} {L:List (List Int)} {D x:Int} {bs:List Nat} {sR sB:Value} {vs:List Value} (h:i0c fl H p n m L D bs k sR sB vs) (hi:i < L.length) (hj:j < L[i].length) (hx:f0m x) :
  ∃ G,e0N fl H 1 (adr 1 (vs[i]'(by have:=h.rows.len;omega)) j) (.int .i64 x)=some G∧i0c fl G p n m (L.set i (L[i].set j x)) D bs k sR sB vs∧e0l (slB (vs[i]'(by have:=h.rows.len;omega))) H G∧Lx H G:=by
 obtain ⟨G,h1,h2,h3,h4⟩:=h.rows.store V0Z hi hj (w:=.int .i64 x) (x:=x) rfl rfl ⟨rfl,hx⟩
 have hr:=h.rows.own i hi
 have hne:=hr.ne h.blk (by decide)
 exact ⟨G,h1,⟨(h3.2 _ (a0l h.blk) hne).trans h.blk,h.low,h.d,h.heads.lxm (hr.lxT (by decide) h3) (fun _ _ h=>h),h2,h.basis.lxm (hr.lxT (by decide) h3) (fun _ _ h=>h)⟩,h3,h4⟩
theorem i0c.head {p n m k i:Nat} {L:List (List Int)} {D:Int} {bs:List Nat} {sR sB:Value} {vs:List Value} (h:i0c fl H p n m L D bs k sR sB vs) (hi:i < L.length) :
  b0y H false 1 (adr 1 sR i)=some (vs[i]'(by have:=h.rows.len;omega)):=by
 have hl:=h.rows.len
 obtain ⟨w,h1,h2⟩:=h.heads.sls.load1 (j:=i) (by omega)
 rw [h1]
 have:[w]=[vs[i]'(by omega)]:=h2
 simpa using this
theorem i0c.num {p n m k i j:Nat} {L:List (List Int)} {D:Int} {bs:List Nat} {sR sB:Value} {vs:List Value} (h:i0c fl H p n m L D bs k sR sB vs) (hi:i < L.length) (hj:j < L[i].length) :
  b0y H false 1 (adr 1 (vs[i]'(by have:=h.rows.len;omega)) j)=some (.int .i64 L[i][j])∧f0m L[i][j]:=by
 obtain ⟨w,h1,h2,h3⟩:=(h.rows.own i hi).sls.load1 (j:=j) hj
 rw [h1]
 exact ⟨by simpa using h2,h3⟩
structure i0b (fl:Nat) (H:a0f) (p n m:Nat) (L:List (List Int)) (D:Int) (bs:List Nat) (k:Nat) (sR sD sB:Value) (vs:List Value):Prop where
 blk:a0f.blk H p=.row false a0c [.int .i64 (n:Int),.int .i64 (m:Int),.int .i64 ((2 * n + m:Nat):Int),sR,.bool (a0k D).1,sD,sB,.int .i64 (k:Int)]
 low:fl≤p
 d:Lim H sD (a0k D).2
 heads:b0b PV fl H b0G 1 sR vs
 rows:e0w a0a 2 PI fl H vs L
 basis:b0b PK fl H g0n 1 sB bs
theorem i0b.mono {p n m k:Nat} {L:List (List Int)} {D:Int} {bs:List Nat} {sR sD sB:Value} {vs:List Value} (h:i0b fl H p n m L D bs k sR sD sB vs) (hx:Ext H G):i0b fl G p n m L D bs k sR sD sB vs :=
 ⟨hx.blk h.blk,h.low,h.d.mono hx,h.heads.mono v0U hx,h.rows.mono V0Y hx,h.basis.mono v0T hx⟩
theorem i0b.store {p n m k i j:Nat} {L:List (List Int)} {D x:Int} {bs:List Nat} {sR sD sB:Value} {vs:List Value} (h:i0b fl H p n m L D bs k sR sD sB vs) (hi:i < L.length) (hj:j < L[i].length) {w:Value} (hc:(a0W w).length=2) (hp:(a0W w).all a0F=true) (hx:PI H (a0W w) x) :
  ∃ G,e0N fl H 2 (adr 2 (vs[i]'(by have:=h.rows.len;omega)) j) w=some G∧i0b fl G p n m (L.set i (L[i].set j x)) D bs k sR sD sB vs∧e0l (slB (vs[i]'(by have:=h.rows.len;omega))) H G∧Lx H G:=by
 obtain ⟨G,h1,h2,h3,h4⟩:=h.rows.store V0Y hi hj (w:=w) (x:=x) hc hp hx
 have hr:=h.rows.own i hi
 have hne:=hr.ne h.blk (by decide)
 exact ⟨G,h1,⟨(h3.2 _ (a0l h.blk) hne).trans h.blk,h.low,h.d.lx h4,h.heads.lxm (hr.lxT (by decide) h3) (fun _ _ h=>h),h2,h.basis.lxm (hr.lxT (by decide) h3) (fun _ _ h=>h)⟩,h3,h4⟩
theorem i0b.head {p n m k i:Nat} {L:List (List Int)} {D:Int} {bs:List Nat} {sR sD sB:Value} {vs:List Value} (h:i0b fl H p n m L D bs k sR sD sB vs) (hi:i < L.length) :
  b0y H false 1 (adr 1 sR i)=some (vs[i]'(by have:=h.rows.len;omega)):=by
 have hl:=h.rows.len
 obtain ⟨w,h1,h2⟩:=h.heads.sls.load1 (j:=i) (by omega)
 rw [h1]
 have:[w]=[vs[i]'(by omega)]:=h2
 simpa using this
theorem i0b.num {p n m k i j:Nat} {L:List (List Int)} {D:Int} {bs:List Nat} {sR sD sB:Value} {vs:List Value} (h:i0b fl H p n m L D bs k sR sD sB vs) (hi:i < L.length) (hj:j < L[i].length) :
  ∃ w,b0y H true 2 (adr 2 (vs[i]'(by have:=h.rows.len;omega)) j)=some w∧b0f H w (a0k L[i][j]):=by
 obtain ⟨cs,h1,_,h3⟩:=Sls.load (h.rows.own i hi).sls (j:=j) hj (by omega);exact ⟨_,h1,h3⟩
def rV:RK→a0f→Value→Int→Prop
 | .few,_,w,z=>w=.int .i64 z∧f0m z
 | .all,H,w,z=>b0f H w (a0k z)
def q0m:RK→a0E→Prop
 | .few,R=>R v0i
 | .all,_=>True
abbrev RK.P (F:RK):a0f→List Value→Int→Prop:=F.p PF PI
abbrev RK.E (F:RK):Nat:=F.p d0w a0a
abbrev RK.S (F:RK):Nat:=F.p e0D b0G
abbrev RK.T (F:RK):Nat:=F.p a0d a0c
@[simp] theorem RK.p_few {α:Type} {a b:α}:RK.p .few a b=a:=nr rfl
@[simp] theorem RK.p_all {α:Type} {a b:α}:RK.p .all a b=b:=nr rfl
@[simp] theorem RK.p_same {α:Type} {F:RK} {a:α}:F.p a a=a:=nr (by cases F <;> rfl)
@[simp high] theorem Z0I {F:RK} {x y:FuncId}:List.lookup (F.p a0n a0m) [(a0m,x),(a0n,y)]=some (F.p y x):=nr (by cases F <;> rfl)
theorem U0j:∀ {F:RK},W0i F.E F.w F.P
 | .few=>V0Z
 | .all=>V0Y
section
variable {F:RK} {z a b c d e:Int} {wa wb wc wd we:Value}
theorem rV.mono (h:rV F H w z) (hx:Ext H G):rV F G w z:=by cases F;exact h;exact b0f.mono h hx
theorem rV.lx (h:rV F H w z) (hx:Lx H G):rV F G w z:=by cases F;exact h;exact b0f.lx h hx
theorem rV.st (h:rV F H w z):(a0W w).length=F.w∧(a0W w).all a0F=true∧F.P H (a0W w) z:=by
 cases F
 ·obtain ⟨rfl,h⟩:=h;exact ⟨rfl,rfl,rfl,h⟩
 ·obtain ⟨s,rfl,h⟩:=h;exact ⟨rfl,by simp [h.plain],s,rfl,h⟩
def kpV (F:RK) (H:a0f) (x:Value):Option Value:=F.p (some x) (b0y H true 2 x)
@[simp ↓] theorem b1c {E:Env} {d s:Nat} {r:List a0L} {t:b0c} {Z:b0c→a0f→Prop} :
  WR E fl (F.p [⟨some d,none,.mv (.tmp s)⟩] [⟨some d,none,.load true 2 (.tmp s)⟩] ++ r) t H Z R=oo (kpV F H (get t s)) fun v=>WR E fl r (put t (some d) v) H Z R:=by
 cases F
 ·show WR E fl (⟨some d,none,.mv (.tmp s)⟩ :: r) t H Z R=_
  rw [l0B,J0R,show kpV .few H (get t s)=some (get t s) from rfl,p0R];rfl
 ·show WR E fl (⟨some d,none,.load true 2 (.tmp s)⟩ :: r) t H Z R=_
  rw [l0B,s0Y];rfl
theorem r0i (h:rV F H w z) (hf:fl≤H.size) (hl:lz z < 67108864):a0U env fl (F.p n0E n0C) [eV,w] H (fun r H'=>r=.int .i64 (c0x z 0)∧Ext H H') R:=by
 cases F
 ·obtain ⟨rfl,_⟩:=h;exact p0F hf
 ·exact p0m h hf hl
theorem J0J (h:rV F H w z) (hf:fl≤H.size) (hl:lz z < 67108864):a0U env fl (F.p n0D n0B) [eV,w] H (fun r H'=>rV F H' r (-z)∧Ext H H') R:=by
 cases F
 ·obtain ⟨rfl,h⟩:=h;exact (r0H hf h).mono fun r H' ⟨h1,h2⟩=>⟨⟨h1,by unfold f0m at *;omega⟩,h2⟩
 ·exact r0l h hf hl
theorem S0W (ha:rV F H wa a) (hb:rV F H wb b) (hc:rV F H wc c) (hd:rV F H wd d) (hf:fl≤H.size) (la:lz a < 67108864) (lb:lz b < 67108864) (lc:lz c < 67108864) (ld:lz d < 67108864) :
  a0U env fl (F.p y0e y0d) [eV,wa,wb,wc,wd] H (fun r H'=>r=.int .i64 (c0x (a * b) (c * d))∧Ext H H') R:=by
 cases F
 ·obtain ⟨rfl,ha⟩:=ha;obtain ⟨rfl,hb⟩:=hb;obtain ⟨rfl,hc⟩:=hc;obtain ⟨rfl,hd⟩:=hd
  exact n0F hf ha hb hc hd
 ·exact n0u ha hb hc hd hf la lb lc ld
theorem M0O (ha:rV F H wa a) (hb:rV F H wb b) (hc:rV F H wc c) (hd:rV F H wd d) (he:rV F H we e) (hf:fl≤H.size) (la:lz a < 67108864) (lb:lz b < 67108864) (lc:lz c < 67108864) (ld:lz d < 67108864) (le:lz e < 67108864) (he0:e ≠ 0) (hR:q0m F R) :
  a0U env fl (F.p p0B p0A) [eV,wa,wb,wc,wd,we] H (fun r H'=>rV F H' r ((a * b - c * d).tdiv e)∧Ext H H') R:=by
 cases F
 ·obtain ⟨rfl,ha⟩:=ha;obtain ⟨rfl,hb⟩:=hb;obtain ⟨rfl,hc⟩:=hc;obtain ⟨rfl,hd⟩:=hd;obtain ⟨rfl,_⟩:=he
  exact i0Y hf ha hb hc hd he0 hR
 ·exact i0Q ha hb hc hd he hf la lb lc ld le he0
theorem a1Y (h:b0f H v (a0k z)) (hf:fl≤H.size) (hl:lz z < 67108864) (hR:q0m F R):a0U env fl (F.p i0X j0Z) [eV,v] H (fun r H'=>rV F H' r z∧Ext H H') R:=by
 cases F
 ·exact l0U h hf (by omega) hR
 ·exact i0o h hf
end
def Frm (tT eN:Nat) (H H':a0f):Prop:=H.size≤H'.size∧∀ e,e ≠ tT→e ≠ eN→e ≠ g0n→LxT e H H'
theorem Frm.refl {tT eN:Nat}:Frm tT eN H H:=⟨f1I _,fun _ _ _ _ _ _ _ h=>h⟩
theorem Frm.trans {tT eN:Nat} {H2:a0f} (h:Frm tT eN H G) (k:Frm tT eN G H2):Frm tT eN H H2:=⟨f1Y h.1 k.1,fun e h1 h2 h3 b ro cs hb=>k.2 e h1 h2 h3 b ro cs (h.2 e h1 h2 h3 b ro cs hb)⟩
theorem Ext.frm {tT eN:Nat} (h:Ext H G):Frm tT eN H G:=⟨h.1,fun _ _ _ _ _ _ _ hb=>h.blk hb⟩
theorem p0q {K:Value→a0f→Prop} {f:FuncId} {args:List Value} {sf:v0o} (hc:env.code f=some sf) (hf:fl≤H.size) (hl:args.length=sf.np:=by rfl) (hnt:args.length≤sf.nt:=by exact of_decide_eq_true rfl)
  (h:∀ ρ:Nat→Value,(∀ i,ρ i=args.getD i undef)→W env fl sf.body (T sf.nt ρ) H (X0g (fun t' H'=>y0R H' t' sf.res fun v=>K v H')) R) :
  a0U env fl f args H (fun v H'=>K v H'∧f0C fl H H') R:=by
 refine (p0r (K:=K) hc hl hnt (fun t h1 h2=>?_)).keep hf
 have h3:=h (get t) h2
 rw [← J0K h1] at h3
 refine h3.mono fun e t' H' hq=>?_
 cases e with
 | exit i=>exact g1g hq id
 | normal=>exact ⟨trivial,hq⟩
 | ret=>exact ⟨trivial,hq⟩
def Tf (L:List (List Int)) (i c:Nat):Int:=(L.getD i []).getD c 0
def bf (bs:List Nat) (i:Nat):Nat:=bs.getD i 0
theorem J0L {L:List (List Int)} {i c:Nat} (hi:i < L.length) (hc:c < L[i].length):Tf L i c=L[i][c]:=by
 unfold Tf;rw [f1H,f1H,f1M hi,g1s,f1M hc];rfl
theorem b1P {bs:List Nat} {i:Nat} (hi:i < bs.length):bf bs i=bs[i]:=by
 unfold bf;rw [f1H,f1M hi];rfl
structure ShT (n m:Nat) (L:List (List Int)) (bs:List Nat):Prop where
 len:L.length=m + 2
 row:∀ i (h:i < L.length),L[i].length=2 * n + m + 1
 base:bs.length=m
theorem ShT.set {n m i j:Nat} {L:List (List Int)} {bs:List Nat} {x:Int} (h:ShT n m L bs) (hi:i < L.length):ShT n m (L.set i (L[i].set j x)) bs:=by
 refine ⟨by simp [h.len],fun r hr=>?_,h.base⟩
 have hr':r < L.length:=by simpa using hr
 by_cases hri:r=i
 ·subst hri;simp [h.row r hr']
 ·rw [i1v (by omega)];exact h.row r hr'
theorem z0m {n m i j r c:Nat} {L:List (List Int)} {bs:List Nat} {x:Int} (h:ShT n m L bs) (hi:i < L.length) (hj:j < L[i].length):Tf (L.set i (L[i].set j x)) r c=if r=i∧c=j then x else Tf L r c:=by
 unfold Tf
 simp only [f1H,g1t]
 by_cases hri:i=r
 ·subst hri
  simp only [g1y,hi,g1s,g1t,true_and]
  by_cases hcj:j=c
  ·subst hcj;simp [hj]
  ·rw [f1K hcj,f1K (fun h=>hcj h.symm),f1M hi];rfl
 ·rw [f1K hri,f1K (fun h=>hri h.1.symm)]
def o0U (F:RK) (n m:Nat) (sR:Value) (D:Int) (sD sB:Value) (k:Int):List Value :=
 [.int .i64 (n:Int),.int .i64 (m:Int),.int .i64 ((2 * n + m:Nat):Int),sR] ++ F.p [.int .i64 D] [.bool (a0k D).1,sD] ++ [sB,.int .i64 k]
section
variable {F:RK} {n m:Nat} {sR sD sB:Value} {D k:Int}
@[simp high] theorem d1U:(o0U F n m sR D sD sB k)[0]? = some (.int .i64 (n:Int)):=nr rfl
@[simp high] theorem d1V:(o0U F n m sR D sD sB k)[1]? = some (.int .i64 (m:Int)):=nr rfl
@[simp high] theorem d1W:(o0U F n m sR D sD sB k)[2]? = some (.int .i64 (2 * (n:Int) + m)):=nr (by show some (Value.int .i64 ((2 * n + m:Nat):Int))=_;rw [show ((2 * n + m:Nat):Int)=2 * (n:Int) + m by omega])
@[simp high] theorem d1X:(o0U F n m sR D sD sB k)[3]? = some sR:=nr rfl
@[simp high] theorem d1Y:(o0U F n m sR D sD sB k)[F.p 5 6]? = some sB:=nr (by cases F <;> rfl)
@[simp high] theorem d1Z:(o0U F n m sR D sD sB k)[F.p 6 7]? = some (.int .i64 k):=nr (by cases F <;> rfl)
@[simp] theorem Z0M:(o0U F n m sR D sD sB k).length=F.p 7 8:=nr (by cases F <;> rfl)
@[simp] theorem d1G:(4≤F.p 7 8)=True:=nr (by cases F <;> simp)
@[simp] theorem d1H:(F.p 5 6 < F.p 7 8)=True:=nr (by cases F <;> simp)
@[simp] theorem Z0L:(F.p 5 6 + 1≤F.p 7 8)=True:=nr (by cases F <;> simp)
@[simp] theorem d1I {x:Value}:(o0U F n m sR D sD sB k).set 3 x=o0U F n m x D sD sB k:=nr (by cases F <;> rfl)
@[simp] theorem d1J {x:Value}:(o0U F n m sR D sD sB k).set (F.p 5 6) x=o0U F n m sR D sD x k:=nr (by cases F <;> rfl)
theorem h0D:o0U .few n m sR D sD sB k=[.int .i64 (n:Int),.int .i64 (m:Int),.int .i64 ((2 * n + m:Nat):Int),sR,.int .i64 D,sB,.int .i64 k]:=rfl
theorem g0b:o0U .all n m sR D sD sB k=[.int .i64 (n:Int),.int .i64 (m:Int),.int .i64 ((2 * n + m:Nat):Int),sR,.bool (a0k D).1,sD,sB,.int .i64 k]:=rfl
end
def dvV (F:RK) (D:Int) (sD:Value):Value:=F.p (.int .i64 D) (.agg #[.bool (a0k D).1,sD])
theorem Y0P {F:RK} {n m p e:Nat} {sR sD sB:Value} {D k:Int} {ro:Bool} (h:a0f.blk G p=.row ro e (o0U F n m sR D sD sB k)):b0y G F.b F.w (.pointer (some ⟨p,4,none⟩))=some (dvV F D sD):=by
 cases F
 ·show b0y G false 1 _=_
  rw [r0P,h,Y0M];rfl
 ·show b0y G true 2 _=_
  rw [o0c (by decide),h,U0Y];rfl
theorem A0u {a:Bool} {n:Nat} {x w:Value} (h:b0y H a n x=some w) (hx:Ext H G):b0y G a n x=some w:=by
 cases x with
 | pointer p =>
  cases p with
  | none=>exact h
  | some p =>
   simp only [b0y] at h ⊢
   split at h
   ·rename_i h1;rw [f1N h1];exact h
   ·rename_i h1
    rw [f1K h1]
    split at h
    ·cases h
    ·rename_i h2
     rw [f1K h2]
     unfold a0f.cells? at h ⊢
     cases hb:H.blk p.block with
     | dead=>rw [hb] at h;simp at h
     | row ro e cs=>rw [hx.blk hb];rw [hb] at h;exact h
 | _=>simp [b0y] at h
theorem kpV.mono {F:RK} {x w:Value} (h:kpV F H x=some w) (hx:Ext H G):kpV F G x=some w:=by
 cases F
 ·exact h
 ·exact A0u h hx
def rD:RK→a0f→Value→Int→Prop
 | .few,_,_,D=>f0m D
 | .all,H,sD,D=>Lim H sD (a0k D).2
theorem rD.mono {F:RK} {D:Int} (h:rD F H v D) (hx:Ext H G):rD F G v D:=by cases F;exact h;exact Lim.mono h hx
theorem rD.lx {F:RK} {D:Int} (h:rD F H v D) (hx:Lx H G):rD F G v D:=by cases F;exact h;exact Lim.lx h hx
structure e0G (F:RK) (fl:Nat) (H:a0f) (p n m:Nat) (L:List (List Int)) (D:Int) (bs:List Nat) (k:Int) (sR sD sB:Value) (vs:List Value):Prop where
 blk:a0f.blk H p=.row false F.T (o0U F n m sR D sD sB k)
 low:fl≤p
 d:rD F H sD D
 heads:b0b PV fl H F.S 1 sR vs
 rows:e0w F.E F.w F.P fl H vs L
 basis:b0b PK fl H g0n 1 sB bs
section
variable {F:RK} {p n m i j:Nat} {L:List (List Int)} {k D x:Int} {bs:List Nat} {sR sD sB:Value} {vs:List Value}
theorem e0G.mono (h:e0G F fl H p n m L D bs k sR sD sB vs) (hx:Ext H G):e0G F fl G p n m L D bs k sR sD sB vs :=
 ⟨hx.blk h.blk,h.low,h.d.mono hx,h.heads.mono v0U hx,h.rows.mono U0j hx,h.basis.mono v0T hx⟩
theorem e0G.store (h:e0G F fl H p n m L D bs k sR sD sB vs) (hi:i < L.length) (hj:j < L[i].length) {w:Value} (hx:rV F H w x) :
  ∃ G,e0N fl H F.w (adr F.w (vs[i]'(by have:=h.rows.len;omega)) j) w=some G∧e0G F fl G p n m (L.set i (L[i].set j x)) D bs k sR sD sB vs∧Frm F.T F.E H G∧e0l (slB (vs[i]'(by have:=h.rows.len;omega))) H G:=by
 obtain ⟨G,h1,h2,h3,h4⟩:=h.rows.store U0j hi hj (w:=w) (x:=x) hx.st.1 hx.st.2.1 hx.st.2.2
 have hr:=h.rows.own i hi
 have hne:=hr.ne h.blk (by cases F <;> decide)
 exact ⟨G,h1,⟨(h3.2 _ (a0l h.blk) hne).trans h.blk,h.low,h.d.lx h4,h.heads.lxm (hr.lxT (by cases F <;> decide) h3) (fun _ _ h=>h),h2,h.basis.lxm (hr.lxT (by cases F <;> decide) h3) (fun _ _ h=>h)⟩,⟨h3.1,fun e _ he _=>hr.lxT he.symm h3⟩,h3⟩
theorem e0G.head (h:e0G F fl H p n m L D bs k sR sD sB vs) (hi:i < L.length) :
  b0y H false 1 (adr 1 sR i)=some (vs[i]'(by have:=h.rows.len;omega)):=by
 have hl:=h.rows.len
 obtain ⟨w,h1,h2⟩:=h.heads.sls.load1 (j:=i) (by omega)
 rw [h1]
 have:[w]=[vs[i]'(by omega)]:=h2
 simpa using this
theorem e0G.hia (h:e0G F fl H p n m L D bs k sR sD sB vs) (hi:i < L.length):iaV 1 sR (.int .i64 i)=some (adr 1 sR i):=h.heads.sls.ia (by have:=h.rows.len;omega)
theorem e0G.ia (h:e0G F fl H p n m L D bs k sR sD sB vs) (hi:i < L.length) (hj:j < L[i].length):iaV F.w (vs[i]'(by have:=h.rows.len;omega)) (.int .i64 j)=some (adr F.w (vs[i]'(by have:=h.rows.len;omega)) j):=(h.rows.own i hi).sls.ia hj
theorem e0G.num (h:e0G F fl H p n m L D bs k sR sD sB vs) (hi:i < L.length) (hj:j < L[i].length) :
  ∃ w,b0y H F.b F.w (adr F.w (vs[i]'(by have:=h.rows.len;omega)) j)=some w∧rV F H w (Tf L i j):=by
 rw [J0L hi hj]
 cases F
 ·obtain ⟨w,h1,h2,h3⟩:=(h.rows.own i hi).sls.load1 (j:=j) hj;exact ⟨w,h1,by simpa using h2,h3⟩
 ·obtain ⟨cs,h1,_,h3⟩:=Sls.load (h.rows.own i hi).sls (j:=j) hj (by decide);exact ⟨_,h1,h3⟩
theorem e0G.base (h:e0G F fl H p n m L D bs k sR sD sB vs) (hi:i < bs.length):b0y H false 1 (adr 1 sB i)=some (.int .i64 (bf bs i:Int))∧iaV 1 sB (.int .i64 i)=some (adr 1 sB i):=by
 obtain ⟨w,h1,h2⟩:=h.basis.sls.load1 (j:=i) hi
 rw [h1,b1P hi]
 have:[w]=[.int .i64 (bs[i]:Int)]:=h2
 exact ⟨by simpa using this,h.basis.sls.ia hi⟩
theorem e0G.cell (h:e0G F fl H p n m L D bs k sR sD sB vs) (hi:i < L.length) (hj:j < L[i].length) :
  ∃ vi w,vi=vs[i]'(by have:=h.rows.len;omega)∧b0y H false 1 (adr 1 sR i)=some vi∧iaV 1 sR (.int .i64 i)=some (adr 1 sR i)∧iaV F.w vi (.int .i64 j)=some (adr F.w vi j)∧b0y H F.b F.w (adr F.w vi j)=some w∧rV F H w (Tf L i j):=by
 obtain ⟨w,h1,h2⟩:=h.num hi hj
 exact ⟨_,w,rfl,h.head hi,h.hia hi,h.ia hi hj,h1,h2⟩
theorem e0G.dv (h:e0G F fl H p n m L D bs k sR sD sB vs):rV F H (dvV F D sD) D:=by
 have:=h.d
 cases F
 ·exact ⟨rfl,this⟩
 ·exact ⟨sD,rfl,this⟩
end
end
end Go.Proofs.YtjlohmnnldbjoaaGreat.AI
namespace Go.Proofs.YtjlohmnnldbjoaaGreat.SX
open AI (f1K f1N f1Z g1A g1B g1L g1e g1f g1y h1m h1n h1w)
def sm (f:Nat→Int):Nat→Int
 | 0=>0
 | n + 1=>sm f n + f n
theorem b0l {f g:Nat→Int}:∀ {n:Nat},(∀ i,i < n→f i=g i)→sm f n=sm g n
 | 0,_=>rfl
 | n + 1,h=>by rw [sm,sm,b0l (fun i hi=>h i (by omega)),h n (by omega)]
theorem s0G {f g:Nat→Int}:∀ {n:Nat},sm (fun i=>f i + g i) n=sm f n + sm g n
 | 0=>rfl
 | n + 1=>by simp only [sm];rw [s0G];omega
theorem e0M {a:Int} {f:Nat→Int}:∀ {n:Nat},sm (fun i=>a * f i) n=a * sm f n
 | 0=>by simp [sm]
 | n + 1=>by simp only [sm];rw [e0M,Int.mul_add]
theorem x0o {a b:Int} {f g:Nat→Int} {n:Nat}:sm (fun i=>a * f i + b * g i) n=a * sm f n + b * sm g n:=by
 rw [s0G,e0M,e0M]
theorem e0k {f:Nat→Int}:∀ {n:Nat},(∀ i,i < n→f i=0)→sm f n=0
 | 0,_=>rfl
 | n + 1,h=>by rw [sm,e0k (fun i hi=>h i (by omega)),h n (by omega)];rfl
theorem g0l {f:Nat→Int} {k:Nat}:∀ {n:Nat},k < n→(∀ i,i < n→i ≠ k→f i=0)→sm f n=f k
 | 0,h,_=>by omega
 | n + 1,h,h0=>by
  rw [sm]
  by_cases hk:k=n
  ·subst hk;rw [e0k (fun i hi=>h0 i (by omega) (by omega))];omega
  ·rw [g0l (by omega) (fun i hi hne=>h0 i (by omega) hne),h0 n (by omega) (by omega)];omega
theorem S0R {f:Nat→Int} {k l:Nat}:∀ {n:Nat},k < l→l < n→(∀ i,i < n→i ≠ k→i ≠ l→f i=0)→sm f n=f k + f l
 | 0,_,h,_=>by omega
 | n + 1,h1,h,h0=>by
  rw [sm]
  by_cases hl:l=n
  ·subst hl;rw [g0l (k:=k) h1 (fun i hi hne=>h0 i (by omega) hne (by omega))]
  ·rw [S0R h1 (by omega) (fun i hi ha hb=>h0 i (by omega) ha hb),h0 n (by omega) (by omega) (by omega)];omega
theorem j0F {f:Nat→Int} {k:Nat}:∀ {n:Nat},k < n→sm f n=f k + sm (fun i=>if i=k then 0 else f i) n
 | 0,h=>by omega
 | n + 1,h=>by
  simp only [sm]
  by_cases hk:k=n
  ·subst hk
   rw [f1N rfl,b0l (f:=fun i=>if i=k then 0 else f i) (g:=f) (fun i hi=>by rw [f1K (by omega)])];omega
  ·rw [j0F (k:=k) (f:=f) (by omega),f1K (by omega)];omega
def skip (k i:Nat):Nat:=if i < k then i else i + 1
def up {α:Type} (v:Nat→α) (k:Nat) (x:α):Nat→α:=fun i=>if i=k then x else v i
theorem b0m {α:Type} {v:Nat→α} {k:Nat} {x:α}:up v k x k=x:=by simp [up]
theorem e0v {α:Type} {v:Nat→α} {k i:Nat} {x:α} (h:i ≠ k):up v k x i=v i:=by simp [up,h]
def sgn (k:Nat):Int:=if k % 2=0 then 1 else -1
theorem M0C (k:Nat):sgn (k + 1) = -sgn k:=by unfold sgn;split <;> split <;> omega
def det:Nat→(Nat→Nat→Int)→Int
 | 0,_=>1
 | m + 1,v=>sm (fun k=>sgn (k + m) * (v k m * det m (fun i=>v (skip k i)))) (m + 1)
theorem i0T:∀ {m:Nat} {v w:Nat→Nat→Int},(∀ i r,i < m→r < m→v i r=w i r)→det m v=det m w
 | 0,_,_,_=>rfl
 | m + 1,v,w,h=>by
  unfold det
  refine b0l fun k hk=>?_
  rw [h k m hk (by omega),i0T (v:=fun i=>v (skip k i)) (w:=fun i=>w (skip k i)) (fun i r hi hr=>h _ r (by unfold skip;split <;> omega) (by omega))]
theorem v0h {v:Nat→Nat→Int} {k i:Nat} {x:Nat→Int} (h:i ≠ k):(fun j=>up v i x (skip k j))=up (fun j=>v (skip k j)) (if i < k then i else i - 1) x:=by
 funext j
 unfold up skip
 by_cases hik:i < k <;> by_cases hjk:j < k <;> simp only [hik,hjk,g1y,g1L]
 ·by_cases e:j + 1=i
  ·omega
  ·rw [f1K e,f1K (by omega)]
 ·by_cases e:j=i
  ·omega
  ·rw [f1K e,f1K (by omega)]
 ·by_cases e:j + 1=i
  ·rw [f1N e,f1N (by omega)]
  ·rw [f1K e,f1K (by omega)]
theorem h0q {v:Nat→Nat→Int} {k:Nat} {x:Nat→Int}:(fun j=>up v k x (skip k j))=fun j=>v (skip k j):=by
 funext j
 unfold up skip
 by_cases hjk:j < k <;> simp only [hjk,g1y,g1L]
 ·rw [f1K (by omega)]
 ·rw [f1K (by omega)]
theorem i0r {a b:Int} {x y:Nat→Int}:∀ {m:Nat} {v:Nat→Nat→Int} {i:Nat},i < m →
  det m (up v i (fun r=>a * x r + b * y r))=a * det m (up v i x) + b * det m (up v i y)
 | 0,_,_,h=>by omega
 | m + 1,v,i,h=>by
  unfold det
  rw [← x0o]
  refine b0l fun k hk=>?_
  by_cases e:i=k
  ·subst e
   rw [h0q,h0q,h0q,b0m,b0m,b0m]
   generalize det m _=D
   grind
  ·rw [v0h e,v0h e,v0h e,e0v (h1w e),e0v (h1w e),e0v (h1w e),i0r (by split <;> omega)]
   generalize det m _=D
   generalize det m _=D2
   grind
theorem i0K {v:Nat→Nat→Int} {i:Nat}:up v i (v i)=v:=by
 funext j;unfold up;split
 ·rename_i h;rw [h]
 ·rfl
theorem p0p:∀ {m:Nat} {v:Nat→Nat→Int} {i:Nat},i + 1 < m→(∀ r,v i r=v (i + 1) r)→det m v=0
 | 0,_,_,h,_=>by omega
 | m + 1,v,i,h,e=>by
  unfold det
  rw [S0R (k:=i) (l:=i + 1) (by omega) h]
  ·have e1:(fun j=>v (skip i j))=fun j=>v (skip (i + 1) j):=by
    funext j r
    unfold skip
    by_cases h1:j < i
    ·rw [f1N h1,f1N (by omega)]
    ·rw [f1K h1]
     by_cases h2:j=i
     ·subst h2;rw [f1N (by omega)];exact (e r).symm
     ·rw [f1K (by omega)]
   rw [e1,e m,show i + 1 + m=(i + m) + 1 by omega,M0C,Int.neg_mul];omega
  ·intro k hk h1 h2
   have:det m (fun j=>v (skip k j))=0:=by
    by_cases hki:k < i
    ·refine p0p (i:=i - 1) (by omega) fun r=>?_
     unfold skip
     rw [f1K (by omega),f1K (by omega),show i - 1 + 1=i by omega];exact e r
    ·refine p0p (i:=i) (by omega) fun r=>?_
     unfold skip
     rw [f1N (by omega),f1N (by omega)];exact e r
   rw [this];simp
theorem n0j {v:Nat→Nat→Int} {i j:Nat} {x y:Nat→Int} (h:i ≠ j):up (up v i x) j y=up (up v j y) i x:=by
 funext k;unfold up;by_cases e1:k=i <;> by_cases e2:k=j <;> simp [e1,e2]
 ·omega
 ·intro h3;omega
 ·intro h3;omega
theorem t0f {m:Nat} {v:Nat→Nat→Int} {i:Nat} {x y:Nat→Int} (h:i < m):det m (up v i (fun r=>x r + y r))=det m (up v i x) + det m (up v i y):=by
 have:=i0r (a:=1) (b:=1) (x:=x) (y:=y) (v:=v) h
 simpa using this
theorem K0h {m:Nat} {v:Nat→Nat→Int} {i:Nat} (h:i + 1 < m):det m (up (up v i (v (i + 1))) (i + 1) (v i)) = - det m v:=by
 have h0:∀ x,det m (up (up v i x) (i + 1) x)=0:=fun x=>p0p h (fun r=>by rw [b0m,e0v (by omega),b0m])
 have h1:=h0 (fun r=>v i r + v (i + 1) r)
 rw [t0f h,n0j (by omega),t0f (by omega),n0j (i:=i) (j:=i + 1) (x:=fun r=>v i r + v (i + 1) r) (by omega),t0f (by omega)] at h1
 have e1:det m (up (up v (i + 1) (v i)) i (v i))=0:=by rw [← n0j (by omega)];exact h0 _
 have e2:det m (up (up v i (v (i + 1))) (i + 1) (v (i + 1)))=0:=h0 _
 have e2':det m (up (up v (i + 1) (v (i + 1))) i (v (i + 1)))=0:=by rw [← n0j (by omega)];exact h0 _
 have e3:up (up v i (v i)) (i + 1) (v (i + 1))=v:=by rw [i0K,i0K]
 have e4:up (up v (i + 1) (v i)) i (v (i + 1))=up (up v i (v (i + 1))) (i + 1) (v i):=(n0j (by omega)).symm
 have e5:up (up v (i + 1) (v (i + 1))) i (v i)=v:=by rw [i0K,i0K]
 grind
theorem t0g {m:Nat}:∀ (n:Nat) {v:Nat→Nat→Int} {i:Nat},i + n + 1 < m→(∀ r,v i r=v (i + n + 1) r)→det m v=0
 | 0,v,i,h,e=>p0p h e
 | n + 1,v,i,h,e=>by
  have h1:=K0h (m:=m) (v:=v) (i:=i + n + 1) (by omega)
  rw [t0g n (v:=up (up v (i + n + 1) (v (i + n + 1 + 1))) (i + n + 1 + 1) (v (i + n + 1))) (i:=i) (by omega) (fun r=>?_)] at h1
  ·omega
  ·rw [e0v (by omega),e0v (by omega),e0v (by omega),b0m];exact e r
theorem v0F {m:Nat} {v:Nat→Nat→Int} {i j:Nat} (hi:i < m) (hj:j < m) (hne:i ≠ j) (e:∀ r,v i r=v j r):det m v=0:=by
 by_cases h:i < j
 ·exact t0g (j - i - 1) (i:=i) (by omega) (fun r=>by rw [show i + (j - i - 1) + 1=j by omega];exact e r)
 ·exact t0g (i - j - 1) (i:=j) (by omega) (fun r=>by rw [show j + (i - j - 1) + 1=i by omega];exact (e r).symm)
theorem t0h {m:Nat} {v:Nat→Nat→Int} {k:Nat} {t:Nat→Int} {x:Nat→Nat→Int} (h:k < m):∀ n:Nat,
  det m (up v k (fun r=>sm (fun i=>t i * x i r) n))=sm (fun i=>t i * det m (up v k (x i))) n
 | 0=>by
  have:=i0r (a:=0) (b:=0) (x:=fun _=>0) (y:=fun _=>0) (v:=v) h
  simp [sm] at this ⊢;exact this
 | n + 1=>by
  have:=i0r (a:=1) (b:=t n) (x:=fun r=>sm (fun i=>t i * x i r) n) (y:=x n) (v:=v) h
  simp only [sm,Int.one_mul] at this ⊢
  rw [this,t0h h n]
theorem M0T {m:Nat} {v:Nat→Nat→Int} {a t:Nat→Int} {d:Int} {k:Nat} (hk:k < m) (h:∀ r,r < m→d * a r=sm (fun i=>t i * v i r) m):d * det m (up v k a)=t k * det m v:=by
 have h1:=i0r (a:=d) (b:=0) (x:=a) (y:=a) (v:=v) hk
 rw [Int.zero_mul,h1m] at h1
 rw [← h1]
 have h2:det m (up v k (fun r=>d * a r + 0 * a r))=det m (up v k (fun r=>sm (fun i=>t i * v i r) m)):=by
  refine i0T fun i r hi hr=>?_
  unfold up;split
  ·show d * a r + 0 * a r=sm (fun i=>t i * v i r) m;rw [← h r hr];omega
  ·rfl
 rw [h2,t0h hk,g0l hk]
 ·rw [i0K]
 ·intro i hi hne
  rw [v0F hk hi (h1w hne) (fun r=>by rw [b0m,e0v hne])];simp
def j0H (i:Nat):Nat→Int:=fun r=>if r=i then 1 else 0
theorem v0G:∀ m:Nat,det m j0H=1
 | 0=>rfl
 | m + 1=>by
  unfold det
  rw [g0l (k:=m) (by omega)]
  ·have:det m (fun i=>j0H (skip m i))=det m j0H:=i0T (fun i r hi hr=>by unfold skip;rw [f1N hi])
   rw [this,v0G m]
   unfold j0H sgn
   rw [f1N (by omega),f1N rfl];rfl
  ·intro i hi hne
   unfold j0H;rw [f1K (by omega)];simp
def fac:Nat→Nat
 | 0=>1
 | n + 1=>(n + 1) * fac n
theorem x0n {f:Nat→Int} {b:Nat}:∀ {n:Nat},(∀ i,i < n→(f i).natAbs≤b)→(sm f n).natAbs≤n * b
 | 0,_=>by simp [sm]
 | n + 1,h=>by
  have h1:=x0n (fun i hi=>h i (by omega)) (n:=n)
  have h2:=h n (by omega)
  rw [sm,g1e,g1A]
  have:=Int.natAbs_add_le (sm f n) (f n)
  omega
theorem l0K {b:Nat}:∀ {m:Nat} {v:Nat→Nat→Int},(∀ i r,i < m→r < m→(v i r).natAbs≤b)→(det m v).natAbs≤fac m * b ^ m
 | 0,_,_=>by simp [det,fac]
 | m + 1,v,h=>by
  unfold det
  have h1:∀ k,k < m + 1→(sgn (k + m) * (v k m * det m (fun i=>v (skip k i)))).natAbs≤fac m * b ^ (m + 1):=by
   intro k hk
   have h2:=l0K (v:=fun i=>v (skip k i)) (m:=m) (b:=b) (fun i r hi hr=>h _ r (by unfold skip;split <;> omega) (by omega))
   have h3:=h k m hk (by omega)
   have h4:(sgn (k + m)).natAbs=1:=by unfold sgn;split <;> rfl
   rw [h1n,h1n,h4,g1A]
   calc _≤b * (fac m * b ^ m):=g1B h3 h2
    _=fac m * b ^ (m + 1):=by rw [g1f];grind
  have:=x0n h1
  unfold fac
  rw [f1Z];exact this
end Go.Proofs.YtjlohmnnldbjoaaGreat.SX
namespace Go.Proofs.YtjlohmnnldbjoaaGreat.SX
open AI (f1K f1N g1A g1y h1Y h1m h1n h1t h1w)
structure Inv (M C:Nat) (A T b:Nat→Nat→Int) (d e:Int):Prop where
 pos:0 < d
 eps:e * e=1
 dt:d=e * det M b
 col:∀ c,c≤C→∀ r,r < M→d * A c r=sm (fun i=>T i c * b i r) M
variable {M C:Nat} {A T b:Nat→Nat→Int} {d e:Int}
def co (M:Nat) (b:Nat→Nat→Int) (e:Int) (k:Nat) (v:Nat→Int):Int:=e * det M (up b k v)
theorem e0S {k:Nat} {v w:Nat→Int} (h:∀ r,r < M→v r=w r):co M b e k v=co M b e k w:=by
 unfold co;congr 1
 exact i0T fun i r _ hr=>by unfold up;split;exact h r hr;rfl
theorem Inv.entry (h:Inv M C A T b d e) {k c:Nat} (hk:k < M) (hc:c≤C):co M b e k (A c)=T k c:=by
 have h1:=M0T hk (h.col c hc)
 have h2:=h.dt
 have h3:=h.pos
 have h4:=h.eps
 unfold co
 have hne:det M b ≠ 0:=by intro h0;rw [h0] at h2;omega
 have:det M b * (e * det M (up b k (A c)))=det M b * T k c:=by
  have:e * d * det M (up b k (A c))=e * (T k c * det M b):=by rw [h1Y,h1]
  rw [h2] at this
  have e2:e * (e * det M b)=det M b:=by rw [← h1Y,h4,Int.one_mul]
  rw [e2] at this
  rw [← h1Y,Int.mul_comm (det M b) e]
  have h5:e * (det M b * det M (up b k (A c)))=e * (e * (T k c * det M b)):=by rw [this]
  rw [← h1Y e e,h4,Int.one_mul] at h5
  rw [h1Y,h5];grind
 exact h1t hne this
theorem Inv.basis (h:Inv M C A T b d e) {k i:Nat} (hk:k < M) (hi:i < M):co M b e k (b i)=if k=i then d else 0:=by
 unfold co
 by_cases hki:k=i
 ·subst hki;rw [f1N rfl,i0K];exact h.dt.symm
 ·rw [f1K hki,v0F hk hi hki (fun r=>by rw [b0m,e0v (h1w hki)])];simp
theorem M0S {k:Nat} (hk:k < M) {t:Nat→Int} {x:Nat→Nat→Int} {n:Nat}:co M b e k (fun r=>sm (fun i=>t i * x i r) n)=sm (fun i=>t i * co M b e k (x i)) n:=by
 unfold co
 rw [t0h hk,← e0M]
 exact b0l fun i _=>by grind
theorem M0R {k:Nat} (hk:k < M) {a c:Int} {x y:Nat→Int}:co M b e k (fun r=>a * x r + c * y r)=a * co M b e k x + c * co M b e k y:=by
 unfold co;rw [i0r hk];grind
theorem W0U {k:Nat} (hk:k < M) {a:Int} {x:Nat→Int}:co M b e k (fun r=>a * x r)=a * co M b e k x:=by
 have:=M0R (M:=M) (b:=b) (e:=e) hk (a:=a) (c:=0) (x:=x) (y:=x)
 rw [Int.zero_mul,h1m] at this
 rw [← this];exact e0S fun r _=>by omega
theorem Inv.col1 (h:Inv M C A T b d e) {k i c:Nat} (hk:k < M) (hi:i < M) (hc:c≤C) (hb:∀ r,r < M→b i r=A c r):T k c=if k=i then d else 0:=by
 rw [← h.entry hk hc,← h.basis hk hi]
 exact e0S fun r hr=>(hb r hr).symm
def pv (T:Nat→Nat→Int) (i j:Nat) (d:Int):Nat→Nat→Int:=fun k c=>if k=i then T i c else (T k c * T i j - T k j * T i c) / d
theorem Inv.pivot_key (h:Inv M C A T b d e) {i j:Nat} (hi:i < M) (hj:j≤C) (hp:T i j ≠ 0) {k c:Nat} (hk:k < M) (hc:c≤C) :
  T i j=e * det M (up b i (A j))∧d * co M (up b i (A j)) e k (A c)=if k=i then d * T i c else T k c * T i j - T k j * T i c:=by
 have h1:T i j=e * det M (up b i (A j)):=(h.entry hi hj).symm
 refine ⟨h1,?_⟩
 have h3:=h.pos
 have h4:=h.eps
 let U:Nat→Int:=fun k=>if k=i then d * T i c else T k c * T i j - T k j * T i c
 have hU:∀ r,r < M→(T i j * d) * A c r=sm (fun k=>U k * up b i (A j) k r) M:=by
  intro r hr
  have hcc:=h.col c hc r hr
  have hcj:=h.col j hj r hr
  rw [j0F hi] at hcc hcj
  rw [j0F hi]
  have e1:U i * up b i (A j) i r=T i c * (d * A j r):=by simp only [U,g1y,b0m];grind
  have e2:sm (fun k=>if k=i then 0 else U k * up b i (A j) k r) M=T i j * sm (fun k=>if k=i then 0 else T k c * b k r) M + -(T i c) * sm (fun k=>if k=i then 0 else T k j * b k r) M:=by
   rw [← x0o]
   refine b0l fun k _=>?_
   by_cases hki:k=i
   ·simp [hki]
   ·simp only [f1K hki,U,e0v hki];grind
  rw [e1,e2,hcj,h1Y,hcc]
  grind
 have h5:=M0T hk hU
 rw [h1Y] at h5
 have h6:T i j * (d * co M (up b i (A j)) e k (A c))=T i j * U k:=by
  unfold co
  have:e * (T i j * (d * det M (up (up b i (A j)) k (A c))))=e * (U k * det M (up b i (A j))):=by rw [h5]
  have h7:e * (U k * det M (up b i (A j)))=U k * T i j:=by rw [h1];grind
  rw [h7] at this
  grind
 exact h1t hp h6
theorem Inv.pv_eq (h:Inv M C A T b d e) {i j:Nat} (hi:i < M) (hj:j≤C) (hp:T i j ≠ 0) {k c:Nat} (hk:k < M) (hc:c≤C):co M (up b i (A j)) e k (A c)=pv T i j d k c:=by
 have h1:=(h.pivot_key hi hj hp hk hc).2
 have h3:=h.pos
 unfold pv
 by_cases hki:k=i
 ·rw [f1N hki] at h1 ⊢;exact h1t (by omega) h1
 ·rw [f1K hki] at h1 ⊢;rw [← h1,Int.mul_ediv_cancel_left _ (by omega)]
theorem Inv.exact (h:Inv M C A T b d e) {i j:Nat} (hi:i < M) (hj:j≤C) (hp:T i j ≠ 0) {k c:Nat} (hk:k < M) (hc:c≤C) (hki:k ≠ i):T k c * T i j - T k j * T i c=d * pv T i j d k c:=by
 rw [← h.pv_eq hi hj hp hk hc,(h.pivot_key hi hj hp hk hc).2,f1K hki]
theorem Inv.pivot (h:Inv M C A T b d e) {i j:Nat} (hi:i < M) (hj:j≤C) (hp:0 < T i j):Inv M C A (pv T i j d) (up b i (A j)) (T i j) e where
 pos:=hp
 eps:=h.eps
 dt:=(h.pivot_key hi hj (by omega) hi hj).1
 col:=fun c hc r hr=>by
  have h3:=h.pos
  have hcc:=h.col c hc r hr
  have hcj:=h.col j hj r hr
  rw [j0F hi] at hcc hcj
  refine h1t (a:=d) (by omega) ?_
  rw [← e0M,j0F hi]
  have e1:d * (pv T i j d i c * up b i (A j) i r)=T i c * (d * A j r):=by simp only [pv,g1y,b0m];grind
  have e2:sm (fun k=>if k=i then 0 else d * (pv T i j d k c * up b i (A j) k r)) M=T i j * sm (fun k=>if k=i then 0 else T k c * b k r) M + -(T i c) * sm (fun k=>if k=i then 0 else T k j * b k r) M:=by
   rw [← x0o]
   refine b0l fun k hk=>?_
   by_cases hki:k=i
   ·simp [hki]
   ·simp only [f1K hki,e0v hki]
    have:=h.exact hi hj (by omega) hk hc hki
    rw [← h1Y,← this];grind
  rw [e1,e2,hcj]
  have:d * (T i j * A c r)=T i j * (d * A c r):=by grind
  rw [this,hcc]
  grind
def ng (T:Nat→Nat→Int) (i:Nat):Nat→Nat→Int:=fun k c=>if k=i then -T i c else T k c
theorem Inv.turn (h:Inv M C A T b d e) {i:Nat} (hi:i < M):Inv M C A (ng T i) (up b i (fun r=>-b i r)) d (-e) where
 pos:=h.pos
 eps:=by have:=h.eps;grind
 dt:=by
  have h1:=i0r (m:=M) (v:=b) (i:=i) hi (a:=-1) (b:=0) (x:=b i) (y:=b i)
  rw [i0K] at h1
  have:(fun r=>(-1:Int) * b i r + 0 * b i r)=fun r=>-b i r:=by funext r;omega
  rw [this] at h1
  rw [h1];have:=h.dt;grind
 col:=fun c hc r hr=>by
  rw [h.col c hc r hr]
  refine b0l fun k hk=>?_
  by_cases hki:k=i
  ·subst hki;simp only [ng,g1y,b0m];grind
  ·simp only [ng,f1K hki,e0v hki]
theorem Inv.bound (h:Inv M C A T b d e) {B:Nat} (hb:∀ i r,i < M→r < M→(b i r).natAbs≤B) (hA:∀ c r,c≤C→r < M→(A c r).natAbs≤B) {k c:Nat} (hk:k < M) (hc:c≤C):(T k c).natAbs≤fac M * B ^ M:=by
 have h1:e.natAbs=1:=by
  have:=h.eps
  have h2:(e * e).natAbs=1:=by rw [this];rfl
  rw [h1n] at h2
  exact Nat.eq_one_of_mul_eq_one_left h2
 rw [← h.entry hk hc]
 unfold co
 rw [h1n,h1,g1A]
 refine l0K fun i r hi hr=>?_
 unfold up;split
 ·exact hA c r hc hr
 ·exact hb i r hi hr
theorem Inv.bound_d (h:Inv M C A T b d e) {B:Nat} (hb:∀ i r,i < M→r < M→(b i r).natAbs≤B):d.natAbs≤fac M * B ^ M:=by
 have h1:e.natAbs=1:=by
  have:=h.eps
  have h2:(e * e).natAbs=1:=by rw [this];rfl
  rw [h1n] at h2
  exact Nat.eq_one_of_mul_eq_one_left h2
 rw [h.dt,h1n,h1,g1A]
 exact l0K hb
theorem Inv.first:Inv M C A (fun i c=>A c i) j0H 1 1 where
 pos:=by omega
 eps:=rfl
 dt:=by rw [v0G];rfl
 col:=fun c hc r hr=>by
  rw [g0l hr]
  ·simp [j0H]
  ·intro i hi hne;unfold j0H;rw [f1K (h1w hne)];omega
end Go.Proofs.YtjlohmnnldbjoaaGreat.SX
namespace Go.Proofs.YtjlohmnnldbjoaaGreat.SX
open AI (f1I f1K f1N f1V g1F g1G g1f g1g g1j g1k g1l h1Q h1W h1m i1a)
structure Tab (m C:Nat) (A:Nat→Nat→Int) (neg:Nat→Prop) (T:Nat→Nat→Int) (base:Nat→Nat) (d:Int):Prop where
 inv:∃ b e,Inv (m + 2) C A T b d e∧(∀ i,i < m→(base i < C∧∀ r,r < m + 2→b i r=A (base i) r) ∨ (base i=C + i∧neg i∧∀ r,b i r=j0H i r))∧(∀ r,b m r=j0H m r)∧(∀ r,b (m + 1) r=j0H (m + 1) r)
 rhs:∀ i,i < m→0≤T i C
variable {m C:Nat} {A:Nat→Nat→Int} {neg:Nat→Prop} {T T':Nat→Nat→Int} {base base':Nat→Nat} {d d':Int}
theorem Tab.pos (h:Tab m C A neg T base d):0 < d:=by obtain ⟨b,e,hi,_⟩:=h.inv;exact hi.pos
theorem Tab.base_lt (h:Tab m C A neg T base d) {i:Nat} (hi:i < m):base i < C + m:=by
 obtain ⟨b,e,_,h1,_⟩:=h.inv
 rcases h1 i hi with ⟨h2,_⟩ | ⟨h2,_⟩ <;> omega
theorem Tab.col (h:Tab m C A neg T base d) {k i:Nat} (hk:k < m + 2) (hi:i < m) (hb:base i < C):T k (base i)=if k=i then d else 0:=by
 obtain ⟨b,e,hI,h1,_⟩:=h.inv
 rcases h1 i hi with ⟨_,h2⟩ | ⟨h2,_⟩
 ·exact hI.col1 hk (by omega) (by omega) h2
 ·omega
theorem Tab.inj (h:Tab m C A neg T base d) {i k:Nat} (hi:i < m) (hk:k < m) (hb:base i < C) (he:base i=base k):i=k:=by
 have h1:=h.col (k:=i) (by omega) hi hb
 have h2:=h.col (k:=i) (by omega) hk (by omega)
 have:=h.pos
 rw [he,h2,f1N rfl] at h1
 by_cases h3:i=k
 ·exact h3
 ·rw [f1K h3] at h1;omega
theorem W0W (h:Tab m C A neg T base d) (h':Tab m C A neg T' base' d') {g:Nat} (hg:g=m ∨ g=m + 1) (ha:∀ i,i < m→¬ base i < C→¬ base' i < C) {c:Nat} (hc:c≤C) :
  d * T' g c=d' * T g c + sm (fun i=>if base i < C then T i c * T' g (base i) else 0) m:=by
 obtain ⟨b,e,hI,h1,h2,h3⟩:=h.inv
 obtain ⟨b',e',hI',h1',h2',h3'⟩:=h'.inv
 have hgM:g < m + 2:=by omega
 have k1:co (m + 2) b' e' g (fun r=>d * A c r)=co (m + 2) b' e' g (fun r=>sm (fun i=>T i c * b i r) (m + 2)):=e0S fun r hr=>hI.col c hc r hr
 rw [W0U hgM,M0S hgM,hI'.entry hgM hc] at k1
 rw [k1]
 show sm _ m + T m c * co (m + 2) b' e' g (b m) + T (m + 1) c * co (m + 2) b' e' g (b (m + 1))=_
 have e1:co (m + 2) b' e' g (b m)=if g=m then d' else 0:=by
  rw [← hI'.basis hgM (i:=m) (by omega)];exact e0S fun r _=>by rw [h2,h2']
 have e2:co (m + 2) b' e' g (b (m + 1))=if g=m + 1 then d' else 0:=by
  rw [← hI'.basis hgM (i:=m + 1) (by omega)];exact e0S fun r _=>by rw [h3,h3']
 have e3:sm (fun i=>T i c * co (m + 2) b' e' g (b i)) m=sm (fun i=>if base i < C then T i c * T' g (base i) else 0) m:=by
  refine b0l fun i hi=>?_
  rcases h1 i hi with ⟨k2,k3⟩ | ⟨k2,_,k3⟩
  ·rw [f1N k2,e0S (w:=A (base i)) k3,hI'.entry hgM (by omega)]
  ·rw [f1K (by omega)]
   rcases h1' i hi with ⟨k4,_⟩ | ⟨_,_,k5⟩
   ·exact g1g k4 (ha i hi (by omega))
   ·rw [e0S (w:=b' i) (fun r _=>by rw [k3,k5]),hI'.basis hgM (by omega),f1K (by omega)];simp
 rw [e1,e2,e3]
 rcases hg with rfl | rfl
 ·simp;grind
 ·simp;grind
theorem S0P {f:Nat→Int}:∀ {n:Nat},0 < sm f n→∃ i,i < n∧0 < f i
 | 0,h=>by simp [sm] at h
 | n + 1,h=>by
  rw [sm] at h
  by_cases h1:0 < sm f n
  ·obtain ⟨i,hi,h2⟩:=S0P h1;exact ⟨i,by omega,h2⟩
  ·exact ⟨n,by omega,by omega⟩
structure Run (m C g:Nat) (A:Nat→Nat→Int) (neg:Nat→Prop) (N:Nat) (T:Nat→Nat→Nat→Int) (base:Nat→Nat→Nat) (d:Nat→Int) (s r:Nat→Nat):Prop where
 tab:∀ k,k≤N→Tab m C A neg (T k) (base k) (d k)
 sC:∀ k,k < N→s k < C
 rm:∀ k,k < N→r k < m
 ent:∀ k,k < N→T k g (s k) < 0
 low:∀ k,k < N→∀ c,c < s k→0≤T k g c
 piv:∀ k,k < N→0 < T k (r k) (s k)
 min:∀ k,k < N→∀ i,i < m→0 < T k i (s k)→T k (r k) C * T k i (s k) < T k i C * T k (r k) (s k) ∨ (T k (r k) C * T k i (s k)=T k i C * T k (r k) (s k)∧base k (r k)≤base k i)
 nxt:∀ k,k < N→∀ i c,i < m + 2→c≤C→T (k + 1) i c=pv (T k) (r k) (s k) (d k) i c
 nb:∀ k,k < N→∀ i,i < m→base (k + 1) i=if i=r k then s k else base k i
 nd:∀ k,k < N→d (k + 1)=T k (r k) (s k)
section
variable {g N:Nat} {T:Nat→Nat→Nat→Int} {base:Nat→Nat→Nat} {d:Nat→Int} {s r:Nat→Nat}
theorem Run.change (h:Run m C g A neg N T base d s r) {i:Nat} (hi:i < m):∀ (n p:Nat),p + n≤N→base (p + n) i ≠ base p i→∃ k,p≤k∧k < p + n∧r k=i∧base k i=base p i∧base (k + 1) i ≠ base p i
 | 0,p,_,hne=>g1g rfl hne
 | n + 1,p,hN,hne=>by
  by_cases h1:base (p + n) i=base p i
  ·refine ⟨p + n,by omega,by omega,?_,h1,hne⟩
   by_cases h2:i=r (p + n)
   ·exact h2.symm
   ·exfalso;apply hne
    have:=h.nb (p + n) (by omega) i hi
    rw [f1K h2] at this
    rw [show p + (n + 1)=p + n + 1 by omega,this,h1]
  ·obtain ⟨k,a1,a2,a3⟩:=h.change hi n p (by omega) h1
   exact ⟨k,a1,by omega,a3⟩
theorem Run.enters (h:Run m C g A neg N T base d s r) {i:Nat} (hi:i < m):∀ (n p:Nat),p + n≤N→base p i ≠ base (p + n) i→∃ k,p≤k∧k < p + n∧r k=i∧s k=base (p + n) i
 | 0,p,_,hne=>g1g rfl hne
 | n + 1,p,hN,hne=>by
  have h3:=h.nb (p + n) (by omega) i hi
  rw [← show p + (n + 1)=p + n + 1 by omega] at h3
  by_cases h2:i=r (p + n)
  ·rw [f1N h2] at h3
   exact ⟨p + n,by omega,by omega,h2.symm,h3.symm⟩
  ·rw [f1K h2] at h3
   obtain ⟨k,a1,a2,a3,a4⟩:=h.enters hi n p (by omega) (by rw [← h3];exact hne)
   exact ⟨k,a1,by omega,a3,by rw [a4,h3]⟩
theorem Run.real (h:Run m C g A neg N T base d s r) {i:Nat} (hi:i < m):∀ (n p:Nat),p + n≤N→base p i < C→base (p + n) i < C
 | 0,_,_,hb=>hb
 | n + 1,p,hN,hb=>by
  have h1:=h.real hi n p (by omega) hb
  have:=h.nb (p + n) (by omega) i hi
  rw [show p + (n + 1)=p + n + 1 by omega,this]
  split
  ·exact h.sC _ (by omega)
  ·exact h1
theorem Run.grow (h:Run m C g A neg N T base d s r) (hg:g=m ∨ g=m + 1) {k:Nat} (hk:k < N):T k g C * d (k + 1)≤T (k + 1) g C * d k∧(T k g C * d (k + 1)=T (k + 1) g C * d k→T k (r k) C=0):=by
 have h1:=h.nxt k hk g C (by omega) (by omega)
 have h2:=(h.tab k (by omega))
 obtain ⟨b,e,hI,_⟩:=h2.inv
 have h3:=hI.exact (i:=r k) (j:=s k) (k:=g) (c:=C) (by have:=h.rm k hk;omega) (by have:=h.sC k hk;omega) (by have:=h.piv k hk;omega) (by omega) (by omega) (by have:=h.rm k hk;omega)
 rw [← h1] at h3
 have h4:=h.ent k hk
 have h5:=h2.rhs (r k) (h.rm k hk)
 rw [h.nd k hk]
 have h6:T k g (s k) * T k (r k) C≤0:=g1G (by omega) h5
 refine ⟨by rw [Int.mul_comm _ (d k),← h3];omega,fun h7=>?_⟩
 rw [Int.mul_comm _ (d k),← h3] at h7
 have h8:T k g (s k) * T k (r k) C=0:=by omega
 rcases Int.mul_eq_zero.1 h8 with h9 | h9
 ·omega
 ·exact h9
theorem Run.grows (h:Run m C g A neg N T base d s r) (hg:g=m ∨ g=m + 1):∀ (n p:Nat),p + n≤N→T p g C * d (p + n)≤T (p + n) g C * d p
 | 0,p,_=>Int.le_refl _
 | n + 1,p,hN=>by
  have h1:=h.grows hg n p (by omega)
  have h2:=(h.grow hg (k:=p + n) (by omega)).1
  have p1:=(h.tab p (by omega)).pos
  have p2:=(h.tab (p + n) (by omega)).pos
  have p3:=(h.tab (p + n + 1) (by omega)).pos
  rw [show p + (n + 1)=p + n + 1 by omega]
  have h3:=g1F h1 (by omega:0≤d (p + n + 1))
  have h4:=g1F h2 (by omega:0≤d p)
  have h5:(T p g C * d (p + n + 1)) * d (p + n)≤(T (p + n + 1) g C * d p) * d (p + n):=by
   have e1:(T p g C * d (p + n + 1)) * d (p + n)=T p g C * d (p + n) * d (p + n + 1):=by grind
   have e2:(T (p + n + 1) g C * d p) * d (p + n)=T (p + n + 1) g C * d (p + n) * d p:=by grind
   have e3:T (p + n) g C * d p * d (p + n + 1)=T (p + n) g C * d (p + n + 1) * d p:=by grind
   rw [e1,e2];omega
  exact Int.le_of_mul_le_mul_right h5 p2
theorem Run.flat (h:Run m C g A neg N T base d s r) (hg:g=m ∨ g=m + 1) {p q:Nat} (hpq:p < q) (hq:q≤N) (hb:∀ i,i < m→base p i=base q i) {k:Nat} (hk1:p≤k) (hk2:k < q):T k (r k) C=0:=by
 have hp:=h.tab p (by omega)
 have hqt:=h.tab q hq
 have h1:=W0W hp hqt hg (fun i hi h1=>by rw [← hb i hi];exact h1) (c:=C) (by omega)
 rw [e0k (fun i hi=>?_),h1m] at h1
 ·refine (h.grow hg (k:=k) (by omega)).2 ?_
  have a1:=h.grows hg (k - p) p (by omega)
  have a2:=(h.grow hg (k:=k) (by omega)).1
  have a3:=h.grows hg (q - (k + 1)) (k + 1) (by omega)
  rw [show p + (k - p)=k by omega] at a1
  rw [show k + 1 + (q - (k + 1))=q by omega] at a3
  have p1:=hp.pos
  have p2:=hqt.pos
  have p3:=(h.tab k (by omega)).pos
  have p4:=(h.tab (k + 1) (by omega)).pos
  -- a1: Tp dk <= Tk dp ; a3 : Tk1 dq <= Tq dk1 ; h1 : dp Tq = dq Tp
  refine Int.le_antisymm a2 ?_
  have b1:=g1F a3 (by omega:0≤d p)
  have b1:=g1F b1 (by omega:0≤d k)
  have b2:=g1F a1 (by omega:0≤d q)
  have b2:=g1F b2 (by omega:0≤d (k + 1))
  have b3:T (k + 1) g C * d k * (d p * d q)≤T k g C * d (k + 1) * (d p * d q):=by
   have e1:T (k + 1) g C * d k * (d p * d q)=T (k + 1) g C * d q * d p * d k:=by grind
   have e2:T k g C * d (k + 1) * (d p * d q)=T k g C * d p * d q * d (k + 1):=by grind
   have e3:T q g C * d (k + 1) * d p * d k=T p g C * d k * d q * d (k + 1):=by
    have:T q g C * d (k + 1) * d p * d k=(d p * T q g C) * (d (k + 1) * d k):=by grind
    rw [this,h1];grind
   rw [e1,e2];omega
  exact Int.le_of_mul_le_mul_right b3 (Int.mul_pos p1 p2)
 ·split
  ·rename_i h2
   have h3:=hqt.col (k:=g) (i:=i) (by omega) hi (by rw [← hb i hi];exact h2)
   rw [f1K (by omega)] at h3
   rw [hb i hi,h3];simp
  ·rfl
theorem Run.rhs0 (h:Run m C g A neg N T base d s r) {k i:Nat} (hk:k < N) (hi:i < m) (h0:T k (r k) C=0):T k i C=0 ↔ T (k + 1) i C=0:=by
 have h1:=h.nxt k hk i C (by omega) (by omega)
 have h2:=(h.tab k (by omega))
 by_cases hr:i=r k
 ·subst hr;rw [h1];unfold pv;rw [f1N rfl]
 ·obtain ⟨b,e,hI,_⟩:=h2.inv
  have h3:=hI.exact (i:=r k) (j:=s k) (k:=i) (c:=C) (by have:=h.rm k hk;omega) (by have:=h.sC k hk;omega) (by have:=h.piv k hk;omega) (by omega) (by omega) hr
  rw [← h1,h0,h1W,Int.sub_zero] at h3
  have p1:=h.piv k hk
  have p2:=h2.pos
  constructor
  ·intro h4;rw [h4,Int.zero_mul] at h3
   rcases Int.mul_eq_zero.1 h3.symm with h5 | h5
   ·omega
   ·exact h5
  ·intro h4;rw [h4,h1W] at h3
   rcases Int.mul_eq_zero.1 h3 with h5 | h5
   ·exact h5
   ·omega
theorem Run.rhs00 (h:Run m C g A neg N T base d s r) {i p:Nat} (hi:i < m):∀ n:Nat,p + n≤N→(∀ k,p≤k→k < p + n→T k (r k) C=0)→(T p i C=0 ↔ T (p + n) i C=0)
 | 0,_,_=>Iff.rfl
 | n + 1,hN,h0=>(h.rhs00 hi n (by omega) (fun k h1 h2=>h0 k h1 (by omega))).trans (h.rhs0 (k:=p + n) (by omega) hi (h0 _ (by omega) (by omega)))
theorem d1Q (s:Nat→Nat):∀ (n p:Nat),0 < n→∃ k,p≤k∧k < p + n∧∀ l,p≤l→l < p + n→s l≤s k
 | 0,_,h=>by omega
 | n + 1,p,_=>by
  by_cases h0:n=0
  ·subst h0;exact ⟨p,by omega,by omega,fun l h1 h2=>by rw [show l=p by omega];exact f1I _⟩
  ·obtain ⟨k,a1,a2,a3⟩:=d1Q s n p (by omega)
   by_cases h1:s (p + n)≤s k
   ·exact ⟨k,a1,by omega,fun l b1 b2=>by
     by_cases h2:l=p + n
     ·rw [h2];exact h1
     ·exact a3 l b1 (by omega)⟩
   ·exact ⟨p + n,by omega,by omega,fun l b1 b2=>by
     by_cases h2:l=p + n
     ·rw [h2];exact f1I _
     ·have:=a3 l b1 (by omega);omega⟩
theorem Run.norep (h:Run m C g A neg N T base d s r) (hg:g=m ∨ g=m + 1) {p q:Nat} (hpq:p < q) (hq:q≤N) (hb:∀ i,i < m→base p i=base q i):False:=by
 have hflat:∀ k,p≤k→k < q→T k (r k) C=0:=fun k h1 h2=>h.flat hg hpq hq hb h1 h2
 -- a row that a pivot r0V has nought at the right throughout
 have hzero:∀ k0 k i,p≤k0→k0 < q→p≤k→k < q→i < m→r k0=i→T k i C=0:=by
  intro k0 k i a1 a2 a3 a4 hi hr
  have e0:T k0 i C=0:=by rw [← hr];exact hflat k0 a1 a2
  have e1:=(h.rhs00 hi (k0 - p) (p:=p) (by omega) (fun l b1 b2=>hflat l b1 (by omega)))
  have e2:=(h.rhs00 hi (k - p) (p:=p) (by omega) (fun l b1 b2=>hflat l b1 (by omega)))
  rw [show p + (k0 - p)=k0 by omega] at e1
  rw [show p + (k - p)=k by omega] at e2
  exact e2.1 (e1.2 e0)
 -- what is made up stays so
 have hart:∀ k l i,p≤k→k≤q→p≤l→l≤q→i < m→¬ base k i < C→¬ base l i < C:=by
  intro k l i a1 a2 a3 a4 hi h1 h2
  have h3:=h.real hi (q - l) l (by omega) h2
  rw [show l + (q - l)=q by omega,← hb i hi] at h3
  have h4:=h.real hi (k - p) p (by omega) h3
  rw [show p + (k - p)=k by omega] at h4
  exact h1 h4
 obtain ⟨ks,s1,s2,s3⟩:=d1Q s (q - p) p (by omega)
 have s3':∀ l,p≤l→l < q→s l≤s ks:=fun l a b=>s3 l a (by omega)
 have hS:=h.tab ks (by omega)
 have hne:=h.ent ks (by omega)
 -- the greatest leaves
 have hout:∃ k,p≤k∧k < q∧base k (r k)=s ks:=by
  have hr:=h.rm ks (by omega)
  have hnb:=h.nb ks (by omega) (r ks) hr
  rw [f1N rfl] at hnb
  by_cases hc:base q (r ks)=s ks
  ·rw [← hb _ hr] at hc
   have hno:base ks (r ks) ≠ s ks:=by
    intro h1
    have:=hS.col (k:=g) (i:=r ks) (by omega) hr (by rw [h1];exact h.sC ks (by omega))
    rw [h1,f1K (by omega)] at this;omega
   obtain ⟨k,b1,b2,b3,b4,_⟩:=h.change hr (ks - p) p (by omega) (by rw [show p + (ks - p)=ks by omega,hc];exact hno)
   exact ⟨k,b1,by omega,by rw [b3,b4,hc]⟩
  ·obtain ⟨k,b1,b2,b3,b4,_⟩:=h.change hr (q - (ks + 1)) (ks + 1) (by omega) (by rw [show ks + 1 + (q - (ks + 1))=q by omega,hnb];exact hc)
   exact ⟨k,by omega,by omega,by rw [b3,b4,hnb]⟩
 obtain ⟨k,k1,k2,k3⟩:=hout
 have hD:=h.tab k (by omega)
 have hrk:=h.rm k (by omega)
 have hsC:=h.sC ks (by omega)
 have hst:s k ≠ s ks:=by
  intro h1
  have:=hD.col (k:=g) (i:=r k) (by omega) hrk (by rw [k3];exact hsC)
  rw [k3,← h1,f1K (by omega)] at this
  have:=h.ent k (by omega);omega
 have hslt:s k < s ks:=by have:=s3' k k1 k2;omega
 have hlow:=h.low ks (by omega)
 have h1:=W0W hD hS hg (fun i hi h1=>hart k ks i k1 (by omega) s1 (by omega) hi h1) (c:=s k) (by have:=h.sC k (by omega);omega)
 have h2:0 < sm (fun i=>if base k i < C then T k i (s k) * T ks g (base k i) else 0) m:=by
  have a1:=i1a (by have:=hD.pos;omega:0≤d k) (hlow (s k) hslt)
  have a2:=h1Q hS.pos (h.ent k (by omega))
  omega
 obtain ⟨i,hi,h3⟩:=S0P h2
 split at h3
 case isFalse=>omega
 rename_i hreal
 have hnz:T ks g (base k i) ≠ 0:=by intro h4;rw [h4] at h3;omega
 have hnot:base ks i ≠ base k i:=by
  intro h4
  apply hnz
  rw [← h4,hS.col (k:=g) (i:=i) (by omega) hi (by rw [h4];exact hreal),f1K (by omega)]
 -- it comes in somewhere, and its row is met
 have hin:∃ l,p≤l∧l < q∧r l=i∧s l=base k i:=by
  by_cases hlt:ks < k
  ·obtain ⟨l,b1,b2,b3,b4⟩:=h.enters hi (k - ks) ks (by omega) (by rw [show ks + (k - ks)=k by omega];exact hnot)
   rw [show ks + (k - ks)=k by omega] at b4
   exact ⟨l,by omega,by omega,b3,b4⟩
  ·by_cases hpe:base p i=base k i
   ·have hqe:base q i=base k i:=by rw [← hb i hi];exact hpe
    obtain ⟨l,b1,b2,b3,b4⟩:=h.enters hi (q - ks) ks (by omega) (by rw [show ks + (q - ks)=q by omega,hqe];exact hnot)
    rw [show ks + (q - ks)=q by omega,hqe] at b4
    exact ⟨l,by omega,by omega,b3,b4⟩
   ·obtain ⟨l,b1,b2,b3,b4⟩:=h.enters hi (k - p) p (by omega) (by rw [show p + (k - p)=k by omega];exact hpe)
    rw [show p + (k - p)=k by omega] at b4
    exact ⟨l,by omega,by omega,b3,b4⟩
 obtain ⟨l,l1,l2,l3,l4⟩:=hin
 have hle:base k i≤s ks:=by rw [← l4];exact s3' l l1 l2
 have hnt:base k i ≠ s ks:=by
  intro h4
  have:i=r k:=hD.inj hi hrk hreal (by rw [h4,k3])
  have h5:=h.piv k (by omega)
  rw [this,k3] at h3
  have:=h1Q h5 hne
  omega
 have hge:=hlow (base k i) (by omega)
 have hpos:0 < T k i (s k):=by
  rcases Int.lt_trichotomy 0 (T k i (s k)) with h4 | h4 | h4
  ·exact h4
  ·rw [← h4] at h3;omega
  ·have:=g1G (by omega:T k i (s k)≤0) hge;omega
 have hz1:=hzero l k i l1 l2 k1 k2 hi l3
 have hz2:=hflat k k1 k2
 rcases h.min k (by omega) i hi hpos with h4 | ⟨_,h4⟩
 ·rw [hz1,hz2] at h4;omega
 ·rw [k3] at h4;omega
end
theorem N0f:∀ (K:Nat) (f:Nat→Nat),(∀ k,k≤K→f k < K)→∃ p q,p < q∧q≤K∧f p=f q
 | 0,f,h=>g1g (h 0 (f1I _)) (by omega)
 | K + 1,f,h=>by
  by_cases h1:∃ k,k≤K∧f k=f (K + 1)
  ·obtain ⟨k,hk,he⟩:=h1;exact ⟨k,K + 1,by omega,f1I _,he⟩
  ·have hne:∀ k,k≤K→f k ≠ f (K + 1):=fun k hk he=>h1 ⟨k,hk,he⟩
   have hv:=h (K + 1) (f1I _)
   obtain ⟨p,q,a1,a2,a3⟩:=N0f K (fun k=>if f k=K then f (K + 1) else f k) (fun k hk=>by
    have:=h k (by omega);have:=hne k hk
    split <;> omega)
   refine ⟨p,q,a1,by omega,?_⟩
   have:=hne p (by omega);have:=hne q (by omega)
   split at a3 <;> split at a3 <;> omega
def enc (B:Nat) (f:Nat→Nat):Nat→Nat
 | 0=>0
 | n + 1=>f n + B * enc B f n
theorem M0U {B:Nat} {f:Nat→Nat}:∀ {n:Nat},(∀ i,i < n→f i < B)→enc B f n < B ^ n
 | 0,_=>by simp [enc]
 | n + 1,h=>by
  have h1:=M0U (n:=n) (fun i hi=>h i (by omega))
  have h2:=h n (by omega)
  rw [enc,g1f,g1k]
  have:B * (enc B f n + 1)≤B * B ^ n:=g1l B h1
  rw [f1V] at this
  rw [g1k (enc B f n) B,g1k (B ^ n) B];omega
theorem z0G {B:Nat} {f h:Nat→Nat}:∀ {n:Nat},(∀ i,i < n→f i < B)→(∀ i,i < n→h i < B)→enc B f n=enc B h n→∀ i,i < n→f i=h i
 | 0,_,_,_=>fun i hi=>by omega
 | n + 1,hf,hh,e=>fun i hi=>by
  rw [enc,enc] at e
  have a1:=hf n (by omega)
  have a2:=hh n (by omega)
  have e1:f n=h n:=by
   have:=congrArg (· % B) e
   simp only [Nat.add_mul_mod_self_left,g1j a1,g1j a2] at this
   exact this
  by_cases hin:i=n
  ·rw [hin];exact e1
  ·rw [e1] at e
   exact z0G (n:=n) (fun i hi=>hf i (by omega)) (fun i hi=>hh i (by omega)) (Nat.eq_of_mul_eq_mul_left (by omega:0 < B) (Nat.add_left_cancel e)) i (by omega)
theorem Run.short {g N:Nat} {T:Nat→Nat→Nat→Int} {base:Nat→Nat→Nat} {d:Nat→Int} {s r:Nat→Nat} (h:Run m C g A neg N T base d s r) (hg:g=m ∨ g=m + 1):N < (C + m) ^ m:=by
 by_cases hN:N < (C + m) ^ m
 ·exact hN
 ·exfalso
  obtain ⟨p,q,h1,h2,h3⟩:=N0f ((C + m) ^ m) (fun k=>enc (C + m) (base k) m) (fun k hk=>M0U fun i hi=>(h.tab k (by omega)).base_lt hi)
  exact h.norep hg h1 (by omega) (z0G (fun i hi=>(h.tab p (by omega)).base_lt hi) (fun i hi=>(h.tab q (by omega)).base_lt hi) h3)
end Go.Proofs.YtjlohmnnldbjoaaGreat.SX
namespace Go.Proofs.YtjlohmnnldbjoaaGreat.SX
open AI (f1I f1K f1N g1F g1G h1Q h1W i1a)
variable {M m C:Nat} {A:Nat→Nat→Int} {neg:Nat→Prop} {T T':Nat→Nat→Int} {base base':Nat→Nat} {d d':Int}
theorem Inv.congr {b:Nat→Nat→Int} {e:Int} (h:Inv M C A T b d e) (hT:∀ i c,i < M→c≤C→T' i c=T i c):Inv M C A T' b d e :=
 { h with col:=fun c hc r hr=>by rw [h.col c hc r hr];exact b0l fun i hi=>by rw [hT i c hi hc] }
theorem Tab.congr (h:Tab m C A neg T base d) (hT:∀ i c,i < m + 2→c≤C→T' i c=T i c) (hb:∀ i,i < m→base' i=base i) (hd:d' = d):Tab m C A neg T' base' d':=by
 subst hd
 obtain ⟨b,e,h1,h2,h3⟩:=h.inv
 exact ⟨⟨b,e,h1.congr hT,fun i hi=>by rw [hb i hi];exact h2 i hi,h3⟩,fun i hi=>by rw [hT i C (by omega) (by omega)];exact h.rhs i hi⟩
theorem Tab.pivot (h:Tab m C A neg T base d) {i j:Nat} (hi:i < m) (hj:j < C) (hp:0 < T i j) (hr:∀ k,k < m→0 < T k j→T i C * T k j≤T k C * T i j) :
  Tab m C A neg (pv T i j d) (up base i j) (T i j):=by
 obtain ⟨b,e,h1,h2,h3,h4⟩:=h.inv
 refine ⟨⟨up b i (A j),e,h1.pivot (by omega) (by omega) hp,fun k hk=>?_,by rw [e0v (by omega)];exact h3,by rw [e0v (by omega)];exact h4⟩,fun k hk=>?_⟩
 ·by_cases hki:k=i
  ·subst hki;exact .inl ⟨by rw [b0m];exact hj,fun r _=>by rw [b0m,b0m]⟩
  ·rw [e0v hki,e0v hki];exact h2 k hk
 ·by_cases hki:k=i
  ·subst hki;unfold pv;rw [f1N rfl];exact h.rhs k hk
  ·have h5:=h1.exact (i:=i) (j:=j) (k:=k) (c:=C) (by omega) (by omega) (by omega) (by omega) (f1I _) hki
   have h6:=h.rhs k hk
   have h7:=h.rhs i hi
   have h8:0≤T k C * T i j - T k j * T i C:=by
    by_cases hpos:0 < T k j
    ·have:=hr k hk hpos
     have e1:T k j * T i C=T i C * T k j:=Int.mul_comm _ _
     omega
    ·have a1:=i1a h6 (by omega:0≤T i j)
     have a2:=g1G (by omega:T k j≤0) h7
     omega
   rw [h5] at h8
   have:=h1.pos
   by_cases h9:0≤pv T i j d k C
   ·exact h9
   ·have:=h1Q this (by omega:pv T i j d k C < 0);omega
theorem Tab.exact (h:Tab m C A neg T base d) {i j:Nat} (hi:i < m) (hj:j≤C) (hp:T i j ≠ 0) {k c:Nat} (hk:k < m + 2) (hc:c≤C) (hki:k ≠ i):T k c * T i j - T k j * T i c=d * pv T i j d k c:=by
 obtain ⟨b,e,h1,_⟩:=h.inv
 exact h1.exact (by omega) hj hp hk hc hki
theorem Tab.swap (h:Tab m C A neg T base d) {i j:Nat} (hi:i < m) (hj:j < C) (hp:0 < T i j) (h0:T i C=0):Tab m C A neg (pv T i j d) (up base i j) (T i j) :=
 h.pivot hi hj hp fun k hk _=>by
  rw [h0,Int.zero_mul]
  exact i1a (h.rhs k hk) (by omega)
theorem Tab.swapN (h:Tab m C A neg T base d) {i j:Nat} (hi:i < m) (hj:j < C) (hp:T i j < 0) (h0:T i C=0) :
  Tab m C A neg (pv (ng T i) i j d) (up base i j) (-T i j)∧∀ k c,k < m + 2→c≤C→k ≠ i→ng T i k c * ng T i i j - ng T i k j * ng T i i c=d * pv (ng T i) i j d k c:=by
 obtain ⟨b,e,h1,h2,h3,h4⟩:=h.inv
 have h1':=h1.turn (i:=i) (by omega)
 have hn:ng T i i j = -T i j:=by unfold ng;rw [f1N rfl]
 have hex:∀ k c,k < m + 2→c≤C→k ≠ i→ng T i k c * ng T i i j - ng T i k j * ng T i i c=d * pv (ng T i) i j d k c :=
  fun k c hk hc hki=>h1'.exact (by omega) (by omega) (by omega) hk hc hki
 have h5:=h1'.pivot (i:=i) (j:=j) (by omega) (by omega) (by omega)
 rw [hn] at h5
 refine ⟨⟨⟨up (up b i (fun r=>-b i r)) i (A j),-e,h5,fun k hk=>?_,?_,?_⟩,fun k hk=>?_⟩,hex⟩
 ·by_cases hki:k=i
  ·subst hki;exact .inl ⟨by rw [b0m];exact hj,fun r _=>by rw [b0m,b0m]⟩
  ·rw [e0v hki,e0v hki,e0v hki];exact h2 k hk
 ·rw [e0v (by omega),e0v (by omega)];exact h3
 ·rw [e0v (by omega),e0v (by omega)];exact h4
 ·by_cases hki:k=i
  ·subst hki;unfold pv;rw [f1N rfl];unfold ng;rw [f1N rfl,h0];omega
  ·have h6:=hex k C (by omega) (f1I _) hki
   have e1:ng T i i C=0:=by unfold ng;rw [f1N rfl,h0];rfl
   have e2:ng T i k C=T k C:=by unfold ng;rw [f1K hki]
   rw [e1,h1W,Int.sub_zero,e2,hn] at h6
   have h8:=i1a (h.rhs k hk) (by omega:0≤-T i j)
   rw [h6] at h8
   have:=h1.pos
   by_cases h9:0≤pv (ng T i) i j d k C
   ·exact h9
   ·have:=h1Q this (by omega:pv (ng T i) i j d k C < 0);omega
def v0m (T:Nat→Nat→Int) (base:Nat→Nat) (C j n o:Nat):Prop :=
 o < n∧0 < T o j∧∀ i,i < n→0 < T i j→T o C * T i j < T i C * T o j ∨ (T o C * T i j=T i C * T o j∧base o≤base i)
variable {j n o:Nat}
theorem v0m.one (h:0 < T n j) (h0:∀ i,i < n→T i j≤0):v0m T base C j (n + 1) n :=
 ⟨by omega,h,fun i hi hp=>by
  have:i=n:=by
   by_cases h1:i < n
   ·have:=h0 i h1;omega
   ·omega
  subst this;exact .inr ⟨rfl,f1I _⟩⟩
theorem v0m.skip (h:v0m T base C j n o) (h0:T n j≤0):v0m T base C j (n + 1) o :=
 ⟨by have:=h.1;omega,h.2.1,fun i hi hp=>by
  by_cases h1:i < n
  ·exact h.2.2 i h1 hp
  ·have:i=n:=by omega
   subst this;omega⟩
theorem v0m.keep (h:v0m T base C j n o) (h0:T o C * T n j < T n C * T o j ∨ (T o C * T n j=T n C * T o j∧base o≤base n)):v0m T base C j (n + 1) o :=
 ⟨by have:=h.1;omega,h.2.1,fun i hi hp=>by
  by_cases h1:i < n
  ·exact h.2.2 i h1 hp
  ·have:i=n:=by omega
   subst this;exact h0⟩
theorem v0m.take (h:v0m T base C j n o) (hp:0 < T n j) (h0:T n C * T o j < T o C * T n j ∨ (T n C * T o j=T o C * T n j∧base n < base o)):v0m T base C j (n + 1) n :=
 ⟨by omega,hp,fun i hi hpi=>by
  by_cases h1:i < n
  ·have h2:=h.2.2 i h1 hpi
   have ho:=h.2.1
   -- a: Tn/ ..
   generalize T n C=nC at *
   generalize T n j=nj at *
   generalize T o C=oC at *
   generalize T o j=oj at *
   generalize T i C=iC at *
   generalize T i j=ij at *
   have key:(nC * ij) * oj=(nC * oj) * ij:=by grind
   have key2:(iC * nj) * oj=(iC * oj) * nj:=by grind
   have key3:(oC * nj) * ij=(oC * ij) * nj:=by grind
   rcases h0 with h0 | ⟨h0,hb⟩
   ·left
    have a1:(nC * oj) * ij < (oC * nj) * ij:=Int.mul_lt_mul_of_pos_right h0 hpi
    have a2:(oC * ij) * nj≤(iC * oj) * nj:=g1F (by rcases h2 with h2 | h2 <;> omega) (by omega)
    exact Int.lt_of_mul_lt_mul_right (a:=oj) (by omega) (by omega)
   ·have a1:(nC * oj) * ij=(oC * nj) * ij:=by rw [h0]
    rcases h2 with h2 | ⟨h2,hb2⟩
    ·left
     have a2:(oC * ij) * nj < (iC * oj) * nj:=Int.mul_lt_mul_of_pos_right h2 hp
     exact Int.lt_of_mul_lt_mul_right (a:=oj) (by omega) (by omega)
    ·right
     have a2:(oC * ij) * nj=(iC * oj) * nj:=by rw [h2]
     refine ⟨?_,by omega⟩
     have:(nC * ij) * oj=(iC * nj) * oj:=by omega
     exact Int.eq_of_mul_eq_mul_right (by omega) this
  ·have:i=n:=by omega
   subst this;exact .inr ⟨rfl,f1I _⟩⟩
theorem Run.zero {g:Nat} (h:Tab m C A neg T base d):Run m C g A neg 0 (fun _=>T) (fun _=>base) (fun _=>d) (fun _=>0) (fun _=>0) where
 tab:=fun _ _=>h
 sC:=fun k hk=>by omega
 rm:=fun k hk=>by omega
 ent:=fun k hk=>by omega
 low:=fun k hk=>by omega
 piv:=fun k hk=>by omega
 min:=fun k hk=>by omega
 nxt:=fun k hk=>by omega
 nb:=fun k hk=>by omega
 nd:=fun k hk=>by omega
def Reach (m C g:Nat) (A:Nat→Nat→Int) (neg:Nat→Prop) (N:Nat) (T:Nat→Nat→Int) (base:Nat→Nat) (d:Int):Prop :=
 ∃ Ts bs ds s r,Run m C g A neg N Ts bs ds s r∧(∀ i c,i < m + 2→c≤C→T i c=Ts N i c)∧(∀ i,i < m→base i=bs N i)∧d=ds N
theorem Reach.zero {g:Nat} (h:Tab m C A neg T base d):Reach m C g A neg 0 T base d:=⟨_,_,_,_,_,Run.zero h,fun _ _ _ _=>rfl,fun _ _=>rfl,rfl⟩
theorem Reach.tab {g N:Nat} (h:Reach m C g A neg N T base d):Tab m C A neg T base d:=by
 obtain ⟨Ts,bs,ds,s,r,h1,h2,h3,h4⟩:=h
 exact (h1.tab N (f1I _)).congr h2 h3 h4
theorem Reach.short {g N:Nat} (hg:g=m ∨ g=m + 1) (h:Reach m C g A neg N T base d):N < (C + m) ^ m:=by
 obtain ⟨Ts,bs,ds,s,r,h1,_⟩:=h;exact h1.short hg
theorem Reach.step {g N i:Nat} (hg:g=m ∨ g=m + 1) (h:Reach m C g A neg N T base d) (hj:j < C) (he:T g j < 0) (hl:∀ c,c < j→0≤T g c) (hB:v0m T base C j m i)
  (hT:∀ k c,k < m + 2→c≤C→T' k c=pv T i j d k c) (hb:∀ k,k < m→base' k=if k=i then j else base k) (hd:d' = T i j):Reach m C g A neg (N + 1) T' base' d':=by
 have hTab:=h.tab
 obtain ⟨Ts,bs,ds,s,r,h1,h2,h3,h4⟩:=h
 obtain ⟨hi,hp,hmin⟩:=hB
 have hC:C≤C:=f1I _
 have hnew:Tab m C A neg T' base' d':=(hTab.pivot hi hj hp fun k hk hp=>by rcases hmin k hk hp with a | a <;> omega).congr hT (fun k hk=>by rw [hb k hk];rfl) hd
 refine ⟨up Ts (N + 1) T',up bs (N + 1) base',up ds (N + 1) d',up s N j,up r N i,?_,fun i c _ _=>by rw [b0m],fun i _=>by rw [b0m],by rw [b0m]⟩
 have u:∀ {α:Type} (f:Nat→α) (x:α) {k:Nat},k≤N→up f (N + 1) x k=f k:=fun f x k hk=>e0v (by omega)
 have v:∀ {α:Type} (f:Nat→α) (x:α) {k:Nat},k < N→up f N x k=f k:=fun f x k hk=>e0v (by omega)
 constructor
 ·intro k hk
  by_cases hkN:k=N + 1
  ·subst hkN;rw [b0m,b0m,b0m];exact hnew
  ·rw [u _ _ (by omega),u _ _ (by omega),u _ _ (by omega)];exact h1.tab k (by omega)
 ·intro k hk
  by_cases hkN:k=N
  ·subst hkN;rw [b0m];exact hj
  ·rw [v _ _ (by omega)];exact h1.sC k (by omega)
 ·intro k hk
  by_cases hkN:k=N
  ·subst hkN;rw [b0m];exact hi
  ·rw [v _ _ (by omega)];exact h1.rm k (by omega)
 ·intro k hk
  rw [u _ _ (by omega)]
  by_cases hkN:k=N
  ·subst hkN;rw [b0m,← h2 g j (by omega) (by omega)];exact he
  ·rw [v _ _ (by omega)];exact h1.ent k (by omega)
 ·intro k hk c hc
  rw [u _ _ (by omega)]
  by_cases hkN:k=N
  ·subst hkN;rw [b0m] at hc;rw [← h2 g c (by omega) (by omega)];exact hl c hc
  ·rw [v _ _ (by omega)] at hc;exact h1.low k (by omega) c hc
 ·intro k hk
  rw [u _ _ (by omega)]
  by_cases hkN:k=N
  ·subst hkN;rw [b0m,b0m,← h2 i j (by omega) (by omega)];exact hp
  ·rw [v _ _ (by omega),v _ _ (by omega)];exact h1.piv k (by omega)
 ·intro k hk q hq hpos
  rw [u Ts _ (by omega)] at hpos ⊢
  rw [u bs _ (by omega)]
  by_cases hkN:k=N
  ·subst hkN
   rw [b0m] at hpos ⊢
   rw [b0m]
   rw [← h2 q j (by omega) (by omega)] at hpos
   rw [← h2 q j (by omega) (by omega),← h2 i j (by omega) (by omega),← h2 i C (by omega) hC,← h2 q C (by omega) hC,← h3 i hi,← h3 q hq]
   exact hmin q hq hpos
  ·rw [v s _ (by omega)] at hpos ⊢
   rw [v r _ (by omega)]
   exact h1.min k (by omega) q hq hpos
 ·intro k hk q c hq hc
  by_cases hkN:k=N
  ·subst hkN
   rw [b0m,b0m,b0m,u _ _ (f1I _),u _ _ (f1I _),hT q c hq hc]
   unfold pv
   rw [h2 q c hq hc,h2 q j hq (by omega),h2 i c (by omega) hc,h2 i j (by omega) (by omega),h4]
  ·rw [u Ts _ (by omega),u Ts _ (by omega),u ds _ (by omega),v _ _ (by omega),v _ _ (by omega)];exact h1.nxt k (by omega) q c hq hc
 ·intro k hk q hq
  by_cases hkN:k=N
  ·subst hkN
   rw [b0m,b0m,b0m,u _ _ (f1I _),hb q hq,h3 q hq]
  ·rw [u bs _ (by omega),u bs _ (by omega),v _ _ (by omega),v _ _ (by omega)];exact h1.nb k (by omega) q hq
 ·intro k hk
  by_cases hkN:k=N
  ·subst hkN
   rw [b0m,b0m,b0m,u _ _ (f1I _),hd,h2 i j (by omega) (by omega)]
  ·rw [u ds _ (by omega),u Ts _ (by omega),v _ _ (by omega),v _ _ (by omega)];exact h1.nd k (by omega)
theorem Tab.bound (h:Tab m C A neg T base d) {B:Nat} (hB:1≤B) (hA:∀ c r,c≤C→r < m + 2→(A c r).natAbs≤B):(∀ k c,k < m + 2→c≤C→(T k c).natAbs≤fac (m + 2) * B ^ (m + 2))∧d.natAbs≤fac (m + 2) * B ^ (m + 2):=by
 obtain ⟨b,e,h1,h2,h3,h4⟩:=h.inv
 have hu:∀ i r,(j0H i r).natAbs≤B:=fun i r=>by unfold j0H;split <;> simp <;> omega
 have hb:∀ i r,i < m + 2→r < m + 2→(b i r).natAbs≤B:=by
  intro i r hi hr
  by_cases hm:i < m
  ·rcases h2 i hm with ⟨k1,k2⟩ | ⟨_,_,k2⟩
   ·rw [k2 r hr];exact hA _ r (by omega) hr
   ·rw [k2 r];exact hu i r
  ·by_cases hm2:i=m
   ·rw [hm2,h3 r];exact hu m r
   ·rw [show i=m + 1 by omega,h4 r];exact hu _ r
 exact ⟨fun k c hk hc=>h1.bound hb hA hk hc,h1.bound_d hb⟩
end Go.Proofs.YtjlohmnnldbjoaaGreat.SX
namespace Go.Proofs.YtjlohmnnldbjoaaGreat.SX
open AI (f1I f1K f1N h1W h1m h1t h1w)
def e0n (n m:Nat) (a:Nat→Nat→Int) (bb:Nat→Int) (r c:Nat):Int :=
 if c < n then a r c else if c < 2 * n then -a r (c - n) else if c < 2 * n + m then (if c - 2 * n=r then 1 else 0) else bb r
def sg (bb:Nat→Int) (r:Nat):Int:=if bb r < 0 then -1 else 1
def cost (n:Nat) (cc:Nat→Int) (c:Nat):Int:=if c < n then cc c else if c < 2 * n then -cc (c - n) else 0
def h0J (n m:Nat) (a:Nat→Nat→Int) (bb cc:Nat→Int) (c r:Nat):Int :=
 if r < m then sg bb r * e0n n m a bb r c else if r=m then -sm (fun i=>if bb i < 0 then sg bb i * e0n n m a bb i c else 0) m else -cost n cc c
def k0W (n m:Nat) (bb:Nat→Int) (i:Nat):Nat:=if bb i < 0 then 2 * n + m + i else 2 * n + i
variable {n m:Nat} {a:Nat→Nat→Int} {bb cc:Nat→Int} {T:Nat→Nat→Int} {base:Nat→Nat} {d:Int}
theorem e0z {c r:Nat} (h:r < m):h0J n m a bb cc c r=sg bb r * e0n n m a bb r c:=by unfold h0J;rw [f1N h]
theorem g0J {c:Nat}:h0J n m a bb cc c m = -sm (fun i=>if bb i < 0 then sg bb i * e0n n m a bb i c else 0) m:=by unfold h0J;rw [f1K (by omega),f1N rfl]
theorem e0E {c:Nat}:h0J n m a bb cc c (m + 1) = -cost n cc c:=by unfold h0J;rw [f1K (by omega),f1K (by omega)]
theorem c0B {r k:Nat} (h:k < m):e0n n m a bb r (2 * n + k)=if k=r then 1 else 0:=by
 unfold e0n;rw [f1K (by omega),f1K (by omega),f1N (by omega),show 2 * n + k - 2 * n=k by omega]
theorem f0t {r:Nat}:e0n n m a bb r (2 * n + m)=bb r:=by unfold e0n;rw [f1K (by omega),f1K (by omega),f1K (by omega)]
theorem e0c {c:Nat} (h:2 * n≤c):cost n cc c=0:=by unfold cost;rw [f1K (by omega),f1K (by omega)]
theorem A0k:Tab m (2 * n + m) (h0J n m a bb cc) (fun i=>bb i < 0) (fun i c=>h0J n m a bb cc c i) (k0W n m bb) 1:=by
 refine ⟨⟨j0H,1,Inv.first,fun i hi=>?_,fun _=>rfl,fun _=>rfl⟩,fun i hi=>?_⟩
 ·unfold k0W
  by_cases hb:bb i < 0
  ·rw [f1N hb];exact .inr ⟨rfl,hb,fun _=>rfl⟩
  ·rw [f1K hb]
   refine .inl ⟨by omega,fun r hr=>?_⟩
   by_cases h1:r < m
   ·rw [e0z h1,c0B hi]
    by_cases h2:i=r
    ·subst h2;unfold j0H sg;simp [hb]
    ·unfold j0H;rw [f1K (h1w h2),f1K h2];simp
   ·by_cases h2:r=m
    ·subst h2
     rw [g0J,e0k]
     ·unfold j0H;rw [f1K (by omega)];rfl
     ·intro k hk
      split
      ·rename_i h3
       rw [c0B hi,f1K (by rintro rfl;exact hb h3)];simp
      ·rfl
    ·rw [show r=m + 1 by omega,e0E,e0c (by omega)]
     unfold j0H;rw [f1K (by omega)];rfl
 ·show 0≤h0J n m a bb cc (2 * n + m) i
  rw [e0z hi,f0t]
  unfold sg;split <;> omega
theorem Tab.rows (h:Tab m (2 * n + m) (h0J n m a bb cc) (fun i=>bb i < 0) T base d) {k c:Nat} (hk:k < m + 2) (hc:c≤2 * n + m) :
  T k c=sm (fun i=>T k (2 * n + i) * e0n n m a bb i c) m - (if k=m + 1 then d * cost n cc c else 0):=by
 obtain ⟨b,e,hI,_,_,hg⟩:=h.inv
 rw [← hI.entry hk hc]
 have h1:co (m + 2) b e k (h0J n m a bb cc c)=co (m + 2) b e k (fun r=>1 * sm (fun i=>e0n n m a bb i c * h0J n m a bb cc (2 * n + i) r) m + (-cost n cc c) * b (m + 1) r):=by
  refine e0S fun r hr=>?_
  rw [hg r]
  by_cases h1:r < m
  ·rw [e0z h1,g0l h1]
   ·rw [e0z h1,c0B h1,f1N rfl];unfold j0H;rw [f1K (by omega)];grind
   ·intro i hi hne
    rw [e0z h1,c0B hi,f1K hne];simp
  ·by_cases h2:r=m
   ·subst h2
    rw [g0J]
    have e2:sm (fun i=>e0n n r a bb i c * h0J n r a bb cc (2 * n + i) r) r=sm (fun i=>-1 * if bb i < 0 then sg bb i * e0n n r a bb i c else 0) r:=by
     refine b0l fun i hi=>?_
     rw [g0J]
     by_cases h3:bb i < 0
     ·rw [f1N h3,g0l hi]
      ·rw [f1N h3,c0B hi,f1N rfl];grind
      ·intro j hj hne
       rw [c0B hi,f1K (h1w hne)];simp
     ·rw [f1K h3,e0k]
      ·simp
      ·intro j hj
       by_cases h4:j=i
       ·subst h4;rw [f1K h3]
       ·rw [c0B hi,f1K (h1w h4)];simp
    rw [e2,e0M];unfold j0H;rw [f1K (by omega)];grind
   ·have h3:r=m + 1:=by omega
    subst h3
    rw [e0E,e0k]
    ·unfold j0H;rw [f1N rfl];grind
    ·intro i hi;rw [e0E,e0c (by omega)];simp
 rw [h1,M0R hk,M0S hk,hI.basis hk (by omega)]
 have h2:sm (fun i=>e0n n m a bb i c * co (m + 2) b e k (h0J n m a bb cc (2 * n + i))) m=sm (fun i=>T k (2 * n + i) * e0n n m a bb i c) m :=
  b0l fun i hi=>by rw [hI.entry hk (by omega)];grind
 rw [h2]
 by_cases hkm:k=m + 1
 ·rw [f1N hkm,f1N hkm];grind
 ·rw [f1K hkm,f1K hkm];grind
theorem Tab.lack (h:Tab m (2 * n + m) (h0J n m a bb cc) (fun i=>bb i < 0) T base d) {c:Nat} (hc:c≤2 * n + m):T m c = -sm (fun i=>if base i < 2 * n + m then 0 else T i c) m:=by
 obtain ⟨b,e,hI,hb,hm,hg⟩:=h.inv
 -- the functional: the number in the row of what is lacking, and those of rows with a right side below nought
 let psi:(Nat→Int)→Int:=fun v=>v m + sm (fun i=>if bb i < 0 then v i else 0) m
 have psiA:∀ c,psi (h0J n m a bb cc c)=0:=fun c=>by
  simp only [psi,g0J]
  have:sm (fun i=>if bb i < 0 then h0J n m a bb cc c i else 0) m=sm (fun i=>if bb i < 0 then sg bb i * e0n n m a bb i c else 0) m:=b0l fun i hi=>by
   split
   ·rw [e0z hi]
   ·rfl
  rw [this];omega
 have psi_sum:∀ (t:Nat→Int) (x:Nat→Nat→Int) (N:Nat),psi (fun r=>sm (fun i=>t i * x i r) N)=sm (fun i=>t i * psi (x i)) N:=by
  intro t x N
  induction N with
  | zero=>simp only [psi,sm];rw [e0k (fun i _=>by split <;> rfl)];rfl
  | succ N ih =>
   simp only [sm]
   rw [← ih]
   simp only [psi]
   have:sm (fun i=>if bb i < 0 then sm (fun k=>t k * x k i) N + t N * x N i else 0) m=sm (fun i=>if bb i < 0 then sm (fun k=>t k * x k i) N else 0) m + t N * sm (fun i=>if bb i < 0 then x N i else 0) m:=by
    rw [← e0M,← s0G]
    exact b0l fun i _=>by split <;> simp
   rw [this];grind
 have h1:psi (fun r=>sm (fun i=>T i c * b i r) (m + 2))=psi (fun r=>d * h0J n m a bb cc c r):=by
  simp only [psi]
  rw [← hI.col c hc m (by omega)]
  congr 1
  exact b0l fun i hi=>by rw [← hI.col c hc i (by omega)]
 have h2:psi (fun r=>d * h0J n m a bb cc c r)=0:=by
  have:=psi_sum (fun _=>d) (fun _=>h0J n m a bb cc c) 1
  simp only [sm,Int.zero_add] at this
  rw [this,psiA];simp
 rw [psi_sum,h2] at h1
 have h3:sm (fun i=>T i c * psi (b i)) (m + 2)=sm (fun i=>T i c * psi (b i)) m + T m c * psi (b m) + T (m + 1) c * psi (b (m + 1)):=rfl
 have e1:psi (b m)=1:=by
  simp only [psi]
  rw [hm,e0k]
  ·unfold j0H;simp
  ·intro i hi;rw [hm];unfold j0H;rw [f1K (show i ≠ m by omega)];simp
 have e2:psi (b (m + 1))=0:=by
  simp only [psi]
  rw [hg,e0k]
  ·unfold j0H;simp
  ·intro i hi;rw [hg];unfold j0H;rw [f1K (show i ≠ m + 1 by omega)];simp
 have e3:sm (fun i=>T i c * psi (b i)) m=sm (fun i=>if base i < 2 * n + m then 0 else T i c) m:=by
  refine b0l fun i hi=>?_
  rcases hb i hi with ⟨k1,k2⟩ | ⟨k1,k2,k3⟩
  ·rw [f1N k1]
   have:psi (b i)=psi (h0J n m a bb cc (base i)):=by
    simp only [psi];rw [k2 m (by omega)];congr 1
    exact b0l fun j hj=>by rw [k2 j (by omega)]
   rw [this,psiA];simp
  ·rw [f1K (by omega)]
   have:psi (b i)=1:=by
    simp only [psi]
    rw [k3,g0l hi]
    ·rw [f1N k2,k3];unfold j0H;rw [f1K (by omega),f1N rfl];rfl
    ·intro j hj hne;rw [k3];unfold j0H;rw [f1K hne];simp
   rw [this];simp
 rw [h3,e1,e2,e3] at h1
 omega
theorem h0n {f:Nat→Int}:∀ {N:Nat},(∀ i,i < N→0≤f i)→0≤sm f N
 | 0,_=>by simp [sm]
 | N + 1,h=>by rw [sm];have:=h0n (fun i hi=>h i (by omega)) (N:=N) (f:=f);have:=h N (by omega);omega
theorem s0H {f:Nat→Int}:∀ {N:Nat},(∀ i,i < N→0≤f i)→sm f N≤0→∀ i,i < N→f i=0
 | 0,_,_=>fun i hi=>by omega
 | N + 1,h,h0=>fun i hi=>by
  rw [sm] at h0
  have h1:=h0n (fun i hi=>h i (by omega)) (N:=N) (f:=f)
  have h2:=h N (by omega)
  by_cases hN:i=N
  ·rw [hN];omega
  ·exact s0H (N:=N) (f:=f) (fun i hi=>h i (by omega)) (by omega) i (by omega)
theorem Tab.full (h:Tab m (2 * n + m) (h0J n m a bb cc) (fun i=>bb i < 0) T base d) (h0:0≤T m (2 * n + m)):∀ i,i < m→¬ base i < 2 * n + m→T i (2 * n + m)=0:=by
 intro i hi hb
 rw [h.lack (f1I _)] at h0
 have:=s0H (f:=fun i=>if base i < 2 * n + m then 0 else T i (2 * n + m)) (fun j hj=>by split;exact Int.le_refl _;exact h.rhs j hj) (by omega) i hi
 rw [f1K hb] at this;exact this
theorem y0g (h:Tab m (2 * n + m) (h0J n m a bb cc) (fun i=>bb i < 0) T base d) (ho:∀ c,c < 2 * n + m→0≤T m c) :
  (∀ i,i < m→0≤T m (2 * n + i))∧(∀ k,k < n→sm (fun i=>T m (2 * n + i) * a i k) m=0)∧sm (fun i=>T m (2 * n + i) * bb i) m=T m (2 * n + m):=by
 refine ⟨fun i hi=>ho _ (by omega),fun k hk=>?_,?_⟩
 ·have h1:=h.rows (k:=m) (c:=k) (by omega) (by omega)
  have h2:=h.rows (k:=m) (c:=n + k) (by omega) (by omega)
  rw [f1K (by omega),Int.sub_zero] at h1 h2
  have e1:sm (fun i=>T m (2 * n + i) * e0n n m a bb i k) m=sm (fun i=>T m (2 * n + i) * a i k) m:=b0l fun i _=>by unfold e0n;rw [f1N hk]
  have e2:sm (fun i=>T m (2 * n + i) * e0n n m a bb i (n + k)) m = -1 * sm (fun i=>T m (2 * n + i) * a i k) m:=by
   rw [← e0M]
   exact b0l fun i _=>by unfold e0n;rw [f1K (by omega),f1N (by omega),show n + k - n=k by omega];grind
  have:=ho k (by omega)
  have:=ho (n + k) (by omega)
  omega
 ·have h1:=h.rows (k:=m) (c:=2 * n + m) (by omega) (by omega)
  rw [f1K (by omega),Int.sub_zero] at h1
  rw [h1];exact b0l fun i _=>by rw [f0t]
theorem duals (h:Tab m (2 * n + m) (h0J n m a bb cc) (fun i=>bb i < 0) T base d) (ho:∀ c,c < 2 * n + m→0≤T (m + 1) c) :
  (∀ i,i < m→0≤T (m + 1) (2 * n + i))∧(∀ k,k < n→sm (fun i=>T (m + 1) (2 * n + i) * a i k) m=d * cc k)∧sm (fun i=>T (m + 1) (2 * n + i) * bb i) m=T (m + 1) (2 * n + m):=by
 refine ⟨fun i hi=>ho _ (by omega),fun k hk=>?_,?_⟩
 ·have h1:=h.rows (k:=m + 1) (c:=k) (by omega) (by omega)
  have h2:=h.rows (k:=m + 1) (c:=n + k) (by omega) (by omega)
  rw [f1N rfl] at h1 h2
  have e1:sm (fun i=>T (m + 1) (2 * n + i) * e0n n m a bb i k) m=sm (fun i=>T (m + 1) (2 * n + i) * a i k) m:=b0l fun i _=>by unfold e0n;rw [f1N hk]
  have e2:sm (fun i=>T (m + 1) (2 * n + i) * e0n n m a bb i (n + k)) m = -1 * sm (fun i=>T (m + 1) (2 * n + i) * a i k) m:=by
   rw [← e0M]
   exact b0l fun i _=>by unfold e0n;rw [f1K (by omega),f1N (by omega),show n + k - n=k by omega];grind
  have e3:cost n cc k=cc k:=by unfold cost;rw [f1N hk]
  have e4:cost n cc (n + k) = -cc k:=by unfold cost;rw [f1K (by omega),f1N (by omega),show n + k - n=k by omega]
  have:=ho k (by omega)
  have:=ho (n + k) (by omega)
  rw [e3] at h1
  rw [e4,Int.mul_neg] at h2
  omega
 ·have h1:=h.rows (k:=m + 1) (c:=2 * n + m) (by omega) (by omega)
  rw [f1N rfl,e0c (by omega),h1W,Int.sub_zero] at h1
  rw [h1];exact b0l fun i _=>by rw [f0t]
def pt (n m:Nat) (base:Nat→Nat) (F:Nat→Int) (k:Nat):Int:=sm (fun i=>if base i=k then F i else if base i=n + k then -F i else 0) m
theorem J0r {f:Nat→Nat→Int} {M:Nat}:∀ {N:Nat},sm (fun i=>sm (fun j=>f i j) M) N=sm (fun j=>sm (fun i=>f i j) N) M
 | 0=>by simp only [sm];rw [e0k (fun _ _=>rfl)]
 | N + 1=>by simp only [sm];rw [J0r,← s0G]
theorem B0f {F:Nat→Int} {w:Nat→Int} {W:Nat→Int} (hW:∀ c,c < 2 * n→W c=if c < n then w c else -w (c - n)):sm (fun k=>w k * pt n m base F k) n=sm (fun i=>if base i < 2 * n then F i * W (base i) else 0) m:=by
 have h1:sm (fun k=>w k * pt n m base F k) n=sm (fun k=>sm (fun i=>w k * (if base i=k then F i else if base i=n + k then -F i else 0)) m) n :=
  b0l fun k _=>by unfold pt;rw [e0M]
 rw [h1,J0r]
 refine b0l fun i hi=>?_
 by_cases hb:base i < 2 * n
 ·rw [f1N hb,hW _ hb]
  by_cases hb2:base i < n
  ·rw [f1N hb2,g0l hb2]
   ·rw [f1N rfl];grind
   ·intro k hk hne;rw [f1K (h1w hne),f1K (by omega)];simp
  ·rw [f1K hb2,g0l (k:=base i - n) (by omega)]
   ·rw [f1K (by omega),f1N (by omega)];grind
   ·intro k hk hne;rw [f1K (by omega),f1K (by omega)];simp
 ·rw [f1K hb]
  exact e0k fun k hk=>by rw [f1K (by omega),f1K (by omega)];simp
theorem Tab.colrow (h:Tab m (2 * n + m) (h0J n m a bb cc) (fun i=>bb i < 0) T base d) {c:Nat} (hc:c≤2 * n + m) (h0:∀ i,i < m→¬ base i < 2 * n + m→T i c=0) :
  (∀ r,r < m→d * e0n n m a bb r c=sm (fun i=>if base i < 2 * n + m then T i c * e0n n m a bb r (base i) else 0) m) ∧
  d * cost n cc c=sm (fun i=>if base i < 2 * n + m then T i c * cost n cc (base i) else 0) m - T (m + 1) c:=by
 obtain ⟨b,e,hI,hb,hm,hg⟩:=h.inv
 refine ⟨fun r hr=>?_,?_⟩
 ·have h1:=hI.col c hc r (by omega)
  have h3:sm (fun i=>T i c * b i r) (m + 2)=sm (fun i=>T i c * b i r) m + T m c * b m r + T (m + 1) c * b (m + 1) r:=rfl
  rw [h3,hm,hg] at h1
  unfold j0H at h1
  rw [f1K (by omega),f1K (by omega),e0z hr,h1W,h1W,h1m,h1m] at h1
  have e3:sm (fun i=>T i c * b i r) m=sg bb r * sm (fun i=>if base i < 2 * n + m then T i c * e0n n m a bb r (base i) else 0) m:=by
   rw [← e0M]
   refine b0l fun i hi=>?_
   rcases hb i hi with ⟨k1,k2⟩ | ⟨k1,k2,k3⟩
   ·rw [f1N k1,k2 r (by omega),e0z hr];grind
   ·rw [f1K (by omega),h0 i hi (by omega)];simp
  rw [e3] at h1
  have h4:sg bb r * (d * e0n n m a bb r c)=sg bb r * sm (fun i=>if base i < 2 * n + m then T i c * e0n n m a bb r (base i) else 0) m:=by rw [← h1];grind
  refine h1t ?_ h4
  unfold sg;split <;> omega
 ·have h1:=hI.col c hc (m + 1) (by omega)
  have h3:sm (fun i=>T i c * b i (m + 1)) (m + 2)=sm (fun i=>T i c * b i (m + 1)) m + T m c * b m (m + 1) + T (m + 1) c * b (m + 1) (m + 1):=rfl
  rw [h3,hm,hg] at h1
  unfold j0H at h1
  rw [f1K (by omega),f1N rfl,e0E,h1W,Int.mul_one,h1m] at h1
  have e3:sm (fun i=>T i c * b i (m + 1)) m = -1 * sm (fun i=>if base i < 2 * n + m then T i c * cost n cc (base i) else 0) m:=by
   rw [← e0M]
   refine b0l fun i hi=>?_
   rcases hb i hi with ⟨k1,k2⟩ | ⟨k1,k2,k3⟩
   ·rw [f1N k1,k2 (m + 1) (by omega),e0E];grind
   ·rw [f1K (by omega),h0 i hi (by omega)];simp
  rw [e3,Int.mul_neg] at h1
  omega
theorem v0W {r c:Nat} (h:c < 2 * n):e0n n m a bb r c=if c < n then a r c else -a r (c - n):=by
 unfold e0n;by_cases h1:c < n
 ·rw [f1N h1,f1N h1]
 ·rw [f1K h1,f1K h1,f1N h]
theorem v0E {c:Nat} (h:c < 2 * n):cost n cc c=if c < n then cc c else -cc (c - n):=by
 unfold cost;by_cases h1:c < n
 ·rw [f1N h1,f1N h1]
 ·rw [f1K h1,f1K h1,f1N h]
theorem S0Q {f g:Nat→Int} {N:Nat}:sm f N - sm g N=sm (fun i=>f i - g i) N:=by
 have:=x0o (a:=1) (b:=-1) (f:=f) (g:=g) (n:=N)
 have e:sm (fun i=>1 * f i + -1 * g i) N=sm (fun i=>f i - g i) N:=b0l fun i _=>by omega
 omega
theorem Y0a (h:Tab m (2 * n + m) (h0J n m a bb cc) (fun i=>bb i < 0) T base d) (h0:∀ i,i < m→¬ base i < 2 * n + m→T i (2 * n + m)=0) :
  (∀ r,r < m→sm (fun k=>a r k * pt n m base (fun i=>T i (2 * n + m)) k) n≤d * bb r)∧sm (fun k=>cc k * pt n m base (fun i=>T i (2 * n + m)) k) n=T (m + 1) (2 * n + m):=by
 obtain ⟨h1,h2⟩:=h.colrow (f1I _) h0
 refine ⟨fun r hr=>?_,?_⟩
 ·have h3:=h1 r hr
  rw [f0t] at h3
  rw [B0f (W:=e0n n m a bb r) (fun c hc=>v0W hc),h3]
  have h4:0≤sm (fun i=>if base i < 2 * n + m then T i (2 * n + m) * e0n n m a bb r (base i) else 0) m - sm (fun i=>if base i < 2 * n then T i (2 * n + m) * e0n n m a bb r (base i) else 0) m:=by
   rw [S0Q]
   refine h0n fun i hi=>?_
   by_cases hb:base i < 2 * n
   ·rw [f1N (by omega),f1N hb];omega
   ·rw [f1K hb]
    by_cases hb2:base i < 2 * n + m
    ·rw [f1N hb2]
     have:base i=2 * n + (base i - 2 * n):=by omega
     rw [this,c0B (by omega)]
     have:=h.rhs i hi
     split <;> omega
    ·rw [f1K hb2];omega
  omega
 ·rw [e0c (by omega),h1W] at h2
  rw [B0f (W:=cost n cc) (fun c hc=>v0E hc)]
  have:sm (fun i=>if base i < 2 * n + m then T i (2 * n + m) * cost n cc (base i) else 0) m=sm (fun i=>if base i < 2 * n then T i (2 * n + m) * cost n cc (base i) else 0) m:=by
   refine b0l fun i hi=>?_
   by_cases hb:base i < 2 * n
   ·rw [f1N (by omega),f1N hb]
   ·rw [f1K hb,e0c (by omega)];split <;> simp
  omega
def J0a (n m:Nat) (T:Nat→Nat→Int) (base:Nat→Nat) (d:Int) (j k:Nat):Int:=pt n m base (fun i=>-T i j) k + (if j=k then d else if j=n + k then -d else 0)
theorem J0b {w W:Nat→Int} {j:Nat} (hW:∀ c,c < 2 * n→W c=if c < n then w c else -w (c - n)) :
  sm (fun k=>w k * J0a n m T base d j k) n = -sm (fun i=>if base i < 2 * n then T i j * W (base i) else 0) m + (if j < 2 * n then d * W j else 0):=by
 have h1:sm (fun k=>w k * J0a n m T base d j k) n=sm (fun k=>w k * pt n m base (fun i=>-T i j) k) n + sm (fun k=>w k * (if j=k then d else if j=n + k then -d else 0)) n:=by
  rw [← s0G];exact b0l fun k _=>by unfold J0a;grind
 rw [h1,B0f hW]
 congr 1
 ·have:sm (fun i=>if base i < 2 * n then -T i j * W (base i) else 0) m = -1 * sm (fun i=>if base i < 2 * n then T i j * W (base i) else 0) m:=by
   rw [← e0M];exact b0l fun i _=>by split <;> grind
  omega
 ·by_cases hj:j < 2 * n
  ·rw [f1N hj,hW j hj]
   by_cases hj2:j < n
   ·rw [f1N hj2,g0l hj2]
    ·rw [f1N rfl];grind
    ·intro k hk hne;rw [f1K (h1w hne),f1K (by omega)];simp
   ·rw [f1K hj2,g0l (k:=j - n) (by omega)]
    ·rw [f1K (by omega),f1N (by omega)];grind
    ·intro k hk hne;rw [f1K (by omega),f1K (by omega)];simp
  ·rw [f1K hj]
   exact e0k fun k hk=>by rw [f1K (by omega),f1K (by omega)];simp
theorem J0z (h:Tab m (2 * n + m) (h0J n m a bb cc) (fun i=>bb i < 0) T base d) {j:Nat} (hj:j < 2 * n + m) (hle:∀ i,i < m→T i j≤0) (h0:∀ i,i < m→¬ base i < 2 * n + m→T i j=0) :
  (∀ r,r < m→sm (fun k=>a r k * J0a n m T base d j k) n≤0)∧sm (fun k=>cc k * J0a n m T base d j k) n = -T (m + 1) j:=by
 obtain ⟨h1,h2⟩:=h.colrow (c:=j) (by omega) h0
 have hd:=h.pos
 refine ⟨fun r hr=>?_,?_⟩
 ·have h3:=h1 r hr
  rw [J0b (W:=e0n n m a bb r) (fun c hc=>v0W hc)]
  have h4:sm (fun i=>if base i < 2 * n + m then T i j * e0n n m a bb r (base i) else 0) m - sm (fun i=>if base i < 2 * n then T i j * e0n n m a bb r (base i) else 0) m≤0:=by
   rw [S0Q]
   have:0≤sm (fun i=>-1 * ((if base i < 2 * n + m then T i j * e0n n m a bb r (base i) else 0) - (if base i < 2 * n then T i j * e0n n m a bb r (base i) else 0))) m:=by
    refine h0n fun i hi=>?_
    by_cases hb:base i < 2 * n
    ·rw [f1N (by omega),f1N hb];omega
    ·rw [f1K hb]
     by_cases hb2:base i < 2 * n + m
     ·rw [f1N hb2]
      have:base i=2 * n + (base i - 2 * n):=by omega
      rw [this,c0B (by omega)]
      have:=hle i hi
      split <;> omega
     ·rw [f1K hb2];omega
   rw [e0M] at this
   omega
  by_cases hj2:j < 2 * n
  ·rw [f1N hj2];omega
  ·rw [f1K hj2]
   have e:j=2 * n + (j - 2 * n):=by omega
   have h5:0≤d * e0n n m a bb r j:=by
    rw [e,c0B (by omega)];split <;> omega
   omega
 ·rw [J0b (W:=cost n cc) (fun c hc=>v0E hc)]
  have:sm (fun i=>if base i < 2 * n + m then T i j * cost n cc (base i) else 0) m=sm (fun i=>if base i < 2 * n then T i j * cost n cc (base i) else 0) m:=by
   refine b0l fun i hi=>?_
   by_cases hb:base i < 2 * n
   ·rw [f1N (by omega),f1N hb]
   ·rw [f1K hb,e0c (by omega)];split <;> simp
  by_cases hj2:j < 2 * n
  ·rw [f1N hj2];omega
  ·rw [f1K hj2]
   rw [e0c (by omega),h1W] at h2
   omega
theorem B0h {C i j k c:Nat} (hk:∀ c,c≤C→T k c=0) (hki:k ≠ i) (hc:c≤C) (hj:j≤C):pv T i j d k c=0:=by
 unfold pv;rw [f1K hki,hk c hc,hk j hj];simp
end Go.Proofs.YtjlohmnnldbjoaaGreat.SX
namespace Go.Proofs.YtjlohmnnldbjoaaGreat.AI
section
open Go SX
set_option maxHeartbeats 4000000
set_option maxRecDepth 4000
variable {fl:Nat} {H G:a0f} {R:a0E} {v w u:Value} {F:RK}
def W0m (T:Nat→Nat→Int) (base:Nat→Nat) (C j i:Nat) (z:Int):Prop:=(z = -1∧∀ k,k < i→T k j≤0) ∨ ∃ o:Nat,z=o∧o < i∧v0m T base C j i o
theorem x0K (X Y:Int):(c0x X Y = -1∧X < Y) ∨ (c0x X Y=0∧X=Y) ∨ (c0x X Y=1∧Y < X):=by
 unfold c0x
 by_cases hA:X < Y
 ·exact .inl ⟨by rw [f1N hA],hA⟩
 ·by_cases hB:Y < X
  ·exact .inr (.inr ⟨by rw [f1K hA,f1N hB],hB⟩)
  ·exact .inr (.inl ⟨by rw [f1K hA,f1K hB],by omega⟩)
theorem t0t {f0 p n m j:Nat} {L:List (List Int)} {k D:Int} {bs:List Nat} {sR sD sB:Value} {vs:List Value} (h:e0G F f0 H p n m L D bs k sR sD sB vs) (hf:fl≤H.size) (hS:ShT n m L bs) (hz:∀ r c,lz (Tf L r c) < 67108864) (hj:j < 2 * n + m) (hm:m < 1048576) :
  a0U env fl (l0Q F) [.pointer (some ⟨p,0,none⟩),.int .i64 (j:Int)] H (fun r H'=>(∃ z:Int,r=.int .i64 z∧W0m (Tf L) (bf bs) (2 * n + m) j m z)∧Ext H H') R:=by
 refine a0i z0E hf (h:=?_)
 intro ρ h0
 have hL:=hS.len
 have hr:=hS.row
 have hb:=hS.base
 simp [f0y,m0r,m0s,m0t,h0,h.blk]
 refine d0W (n:=m) (fun i ρ G=>ρ 0=.pointer (some ⟨p,0,none⟩)∧ρ 1=.int .i64 (j:Int)∧Ext H G∧∃ z,ρ 5=.int .i64 z∧W0m (Tf L) (bf bs) (2 * n + m) j i z) rfl rfl (by decide) (by omega) (by simp) (by simp) ?_ ?_ ?_ ?_
 ·exact ⟨by simp [h0],by simp [h0],Ext.refl H,-1,by simp,.inl ⟨rfl,fun k hk=>by omega⟩⟩
 ·intro i ρ ρ' G h hI;simpa [h] using hI
 ·clear h0 ρ
  rintro i ρ G hi gi gn ⟨g0,g1,hx,z,g5,hq⟩
  have hG:=h.mono hx
  have hiL:i < L.length:=by omega
  have hjL:j < L[i].length:=by rw [hr i hiL];omega
  obtain ⟨w1,e1,f1⟩:=hG.num hiL hjL
  have e0:=hG.head hiL
  have eh:=hG.hia hiL
  have ej:=hG.ia hiL hjL
  have hbk:=hG.blk
  obtain ⟨vi,hvi1⟩:∃ x,x=vs[i]'(by have:=h.rows.len;omega):=⟨_,rfl⟩
  rw [← hvi1] at e0 ej e1
  simp [m0u,gi]
  refine a0G ?_
  simp [m0v,g0,g1,gi,hbk,eh,e0,ej,e1]
  refine (r0i f1 (by have:=hx.1;omega) (hz _ _)).mono ?_
  rintro _ G2 ⟨rfl,hx2⟩
  replace hG:=hG.mono hx2
  replace hx:=hx.trans hx2
  clear hbk e1 f1 ej
  by_cases hp:0 < Tf L i j
  ·have hc:c0x (Tf L i j) 0=1:=by unfold c0x;rw [f1K (by omega),f1N (by omega)]
   simp [hc,m0w,g5]
   rcases hq with ⟨rfl,hq⟩ | ⟨o,rfl,ho,hB⟩
   ·simp [m0x]
    exact Rnd.mk (by simp [gi]) (by simp [gn]) ⟨by simp [g0],by simp [g1],hx,(i:Int),by simp,.inr ⟨i,rfl,by omega,v0m.one hp hq⟩⟩
   ·have hoL:o < L.length:=by omega
    have hjo:j < L[o].length:=by rw [hr o hoL];omega
    have hCi:2 * n + m < L[i].length:=by rw [hr i hiL];omega
    have hCo:2 * n + m < L[o].length:=by rw [hr o hoL];omega
    obtain ⟨w1,a1,fa⟩:=hG.num hiL hCi
    obtain ⟨w2,a2,fb⟩:=hG.num hoL hjo
    obtain ⟨w3,a3,fc⟩:=hG.num hoL hCo
    obtain ⟨w4,a4,fd⟩:=hG.num hiL hjL
    have ei:=hG.head hiL
    have eo:=hG.head hoL
    refine ⟨fun hh=>by omega,fun _=>?_⟩
    refine a0G ?_
    have iC:=hG.ia hiL hCi
    have oC:=hG.ia hoL hCo
    have eC:((2 * n + m:Nat):Int)=2 * (n:Int) + m:=by omega
    rw [eC] at iC oC
    have ij:=hG.ia hiL hjL
    have oj:=hG.ia hoL hjo
    have hi1:=hG.hia hiL
    have ho1:=hG.hia hoL
    have hbk:=hG.blk
    obtain ⟨vi,hvi1⟩:∃ x,x=vs[i]'(by have:=h.rows.len;omega):=⟨_,rfl⟩
    obtain ⟨vo,hvo1⟩:∃ x,x=vs[o]'(by have:=h.rows.len;omega):=⟨_,rfl⟩
    rw [← hvi1] at ei ij iC a1 a4
    rw [← hvo1] at eo oj oC a2 a3
    simp [m0y,g0,g1,g5,hbk,hi1,ho1,ei,eo,ij,oj]
    simp [iC,a1]
    simp [oC,oj,ij,a2,a3,a4]
    refine (S0W fa fb fc fd (by have:=hx.1;omega) (hz _ _) (hz _ _) (hz _ _) (hz _ _)).mono ?_
    rintro _ G3 ⟨rfl,hx3⟩
    replace hG:=hG.mono hx3
    replace hx:=hx.trans hx3
    refine a0G ?_
    obtain ⟨hc,h1⟩ | ⟨hc,h1⟩ | ⟨hc,h1⟩:=x0K (Tf L i (2 * n + m) * Tf L o j) (Tf L o (2 * n + m) * Tf L i j)
    ·simp [hc,f0Y]
     simp [h0f]
     exact Rnd.mk (by simp [gi]) (by simp [gn]) ⟨by simp [g0],by simp [g1],hx,(i:Int),by simp,.inr ⟨i,rfl,by omega,hB.take hp (.inl h1)⟩⟩
    ·obtain ⟨li,bi⟩:=hG.base (show i < bs.length by omega)
     obtain ⟨lo,bo⟩:=hG.base (show o < bs.length by omega)
     have hbk:=hG.blk
     simp [hc,f0Y,g0,g5,hbk,bi,bo,li,lo]
     by_cases hlt:bf bs i < bf bs o
     ·have hlt':¬ bf bs o≤bf bs i:=by omega
      simp [hlt,hlt',h0f]
      exact Rnd.mk (by simp [gi]) (by simp [gn]) ⟨by simp [g0],by simp [g1],hx,(i:Int),by simp,.inr ⟨i,rfl,by omega,hB.take hp (.inr ⟨h1,hlt⟩)⟩⟩
     ·have hlt':bf bs o≤bf bs i:=by omega
      simp [hlt,hlt']
      exact Rnd.mk (by simp [gi]) (by simp [gn]) ⟨by simp [g0],by simp [g1],hx,(o:Int),by simp [g5],.inr ⟨o,rfl,by omega,hB.keep (.inr ⟨h1.symm,by omega⟩)⟩⟩
    ·simp [hc,f0Y]
     exact Rnd.mk (by simp [gi]) (by simp [gn]) ⟨by simp [g0],by simp [g1],hx,(o:Int),by simp [g5],.inr ⟨o,rfl,by omega,hB.keep (.inl h1)⟩⟩
  ·have hc:c0x (Tf L i j) 0≤0:=by unfold c0x;split <;> (try split) <;> omega
   simp [hc]
   refine Rnd.mk (by simp [gi]) (by simp [gn]) ⟨by simp [g0],by simp [g1],hx,z,by simp [g5],?_⟩
   rcases hq with ⟨rfl,hq⟩ | ⟨o,rfl,ho,hB⟩
   ·refine .inl ⟨rfl,fun k hk=>?_⟩
    by_cases hki:k=i
    ·rw [hki];omega
    ·exact hq k (by omega)
   ·exact .inr ⟨o,rfl,by omega,hB.skip (by omega)⟩
 ·rintro ρ G gi gn ⟨g0,g1,hx,z,g5,hq⟩
  simp [k0M,g5]
  exact fun _=>hq
end
section
open Go SX
set_option maxHeartbeats 4000000
variable {fl:Nat} {H G:a0f} {R:a0E} {v w u:Value}
def pvt (T:Nat→Nat→Int) (i j:Nat) (D:Int) (r c:Nat):Int:=if r=i then T i c else (T r c * T i j - T r j * T i c).tdiv D
def pvu (T:Nat→Nat→Int) (i j:Nat) (D:Int) (k q r c:Nat):Int:=if r < k ∨ r=k∧c < q then pvt T i j D r c else T r c
theorem B0j {T:Nat→Nat→Int} {i j:Nat} {D:Int} {k W r c:Nat} (hc:c < W):pvu T i j D k W r c=pvu T i j D (k + 1) 0 r c:=by
 unfold pvu
 by_cases h:r < k ∨ r=k∧c < W
 ·rw [f1N h,f1N (by omega)]
 ·rw [f1K h,f1K (by omega)]
theorem s0X {E:Env} {bef:List Nat} {Z:b0c→a0f→Prop} {v:Value} {j:Nat} {t:b0c}:∀ {ops:List a0L} {i:Nat} {lg:Log},(List.range ops.length).all (fun k=>(bef.getD (i + k) 0).testBit j)=true→R v→WRP E fl bef [] Z R i ops t H (some (j,v)) lg
 | [],i,lg,_,h=>⟨rfl,h⟩
 | o :: r,i,lg,hb,h=>by
  have h0:(bef.getD i 0).testBit j=true:=by
   have:=g1w.1 hb 0 (by simp)
   simpa using this
  show (if g0N bef i (some (j,v))=true then _ else _)
  rw [f1N (show g0N bef i (some (j,v))=true from h0)]
  refine s0X ?_ h
  rw [g1w]
  intro k hk
  have:=g1w.1 hb (k + 1) (by simp at hk ⊢;omega)
  rwa [show i + (k + 1)=i + 1 + k by omega] at this
theorem A0h {E:Env} {bef:List Nat} {Z:b0c→a0f→Prop} {j i:Nat} {t:b0c} {ops:List a0L} {lg:Log} (hb:(List.range ops.length).all (fun k=>(bef.getD (i + k) 0).testBit j)=true) (h:q0m .few R):q0m .few (fun v=>WRP E fl bef [] Z R i ops t H (some (j,v)) lg):=s0X hb h
theorem n0H {p n m i j:Nat} {L:List (List Int)} {k D:Int} {bs:List Nat} {sR sD sB:Value} {vs:List Value} (h:e0G .few fl H p n m L D bs k sR sD sB vs) (hf:fl≤H.size) (hS:ShT n m L bs) (hz:∀ r c,lz (Tf L r c) < 67108864) (hD:lz D < 67108864) (hD0:D ≠ 0) (hi:i < m) (hj:j < 2 * n + m) (hm:m < 1048576) (hn:n < 1048576) (hR:q0m .few R) :
  a0U env fl t0p [.pointer (some ⟨p,0,none⟩),.int .i64 (i:Int),.int .i64 (j:Int)] H (fun _ H'=>((∃ L' sD',e0G .few fl H' p n m L' (Tf L i j) (bs.set i j) (IntKind.i64.wrap (k + 1)) sR sD' sB vs∧ShT n m L' (bs.set i j)∧∀ r c,r < m + 2→c < 2 * n + m + 1→Tf L' r c=pvt (Tf L) i j D r c)∧Frm a0d d0w H H')∧f0C fl H H') R:=by
 refine p0q c1V hf (h:=?_)
 intro ρ h0
 have hL:=hS.len
 have hr:=hS.row
 have hb:=hS.base
 have hiL:i < L.length:=by omega
 have hjL:j < L[i].length:=by rw [hr i hiL];omega
 have hbk:=h.blk
 rw [h0D] at hbk
 have hpl:=a0l hbk
 have hlow:=h.low
 simp [M0g,G0K,h0,hbk,hlow,hpl]
 generalize hS1:Array.setIfInBounds H p _=G1
 have t1:∀ {e:Nat},a0d ≠ e→LxT e H G1:=fun hne=>b0e hS1 hbk hne
 have hG:e0G .few fl G1 p n m L D bs (IntKind.i64.wrap (k + 1)) sR sD sB vs:=⟨a0u hS1 hbk,hlow,h.d,h.heads.lxm (t1 (by decide)) (fun _ _ h=>h),⟨h.rows.len,fun r hr=>(h.rows.own r hr).lxm (t1 (by decide)) (fun cs x hx=>V0Z.lx _ _ _ _ (t1 (by decide)) hx),h.rows.apart⟩,h.basis.lxm (t1 (by decide)) (fun _ _ h=>h)⟩
 have hx:Frm a0d d0w H G1:=⟨by rw [← hS1];simp,fun e he _ _=>t1 (h1w he)⟩
 clear hS1 t1
 obtain ⟨w6,e6,f6⟩:=hG.num hiL hjL
 have eh:=hG.head hiL
 have hi1:=hG.hia hiL
 have ij:=hG.ia hiL hjL
 have hbk:=hG.blk
 rw [h0D] at hbk
 obtain ⟨vi,hvi1⟩:∃ x,x=vs[i]'(by have:=h.rows.len;omega):=⟨_,rfl⟩
 rw [← hvi1] at eh ij e6
 simp only [RK.w,RK.b,RK.p_few] at ij e6
 refine a0G ?_
 simp [G0L,h0,hbk,hi1,eh,ij,e6]
 have hsl:=hG.heads.sls.slen
 rw [hG.rows.len] at hsl
 simp [G0M,h0,hbk,hsl]
 refine d0W (n:=L.length) (fun k' ρ G=>ρ 0=.pointer (some ⟨p,0,none⟩)∧ρ 1=.int .i64 (i:Int)∧ρ 2=.int .i64 (j:Int)∧ρ 6=w6∧ρ 7=vi∧ρ 39=sR∧Frm a0d d0w H G∧rV .few G w6 (Tf L i j) ∧
   ∃ L',e0G .few fl G p n m L' D bs (IntKind.i64.wrap (k + 1)) sR sD sB vs∧ShT n m L' bs∧∀ r c,r < m + 2→c < 2 * n + m + 1→Tf L' r c=pvu (Tf L) i j D k' 0 r c) rfl rfl (by decide) (by omega) (by simp) (by simp) ?_ ?_ ?_ ?_
 ·exact ⟨by simp [h0],by simp [h0],by simp [h0],by simp,by simp,by simp,hx,f6,L,hG,hS,fun r c _ _=>by unfold pvu;rw [f1K (by omega)]⟩
 ·intro i ρ ρ' G h hI;simpa [h] using hI
 ·clear h0 ρ hG hx f6 e6 eh hi1 ij hbk hpl hsl
  rintro q ρ G hq gi gn ⟨g0,g1,g2,g6,g7,g39,hx,f6,L',hG,hS',hT⟩
  obtain ⟨vq,hvq⟩:∃ x,x=vs[q]'(by have:=h.rows.len;clear hG;omega):=⟨_,rfl⟩
  have hqL:q < L'.length:=by rw [hS'.len];omega
  have eq:=hG.head hqL
  have hq1:=hG.hia hqL
  rw [← hvq] at eq
  simp [G0N,gi,g39,hq1,eq]
  by_cases hqi:q=i
  ·subst hqi
   simp [u0x,g1]
   refine Rnd.mk (by simp [gi]) (by simp [gn]) ⟨by simp [g0],by simp [g1],by simp [g2],by simp [g6],by simp [g7],by simp [g39],hx,f6,L',hG,hS',fun r c h1 h2=>?_⟩
   rw [hT r c h1 h2]
   unfold pvu
   by_cases hrq:r=q
   ·subst hrq;rw [f1K (by omega),f1N (by omega)];unfold pvt;rw [f1N rfl]
   ·by_cases hlt:r < q
    ·rw [f1N (.inl hlt),f1N (by omega)]
    ·rw [f1K (by omega),f1K (by omega)]
  ·have hqi':¬ ((q:Int)=(i:Int)):=by omega
   have hjq:j < L'[q].length:=by rw [hS'.row q hqL];omega
   obtain ⟨w10,e10,f10⟩:=hG.num hqL hjq
   have qj:=hG.ia hqL hjq
   have hsq:=(hG.rows.own q hqL).slen
   rw [hS'.row q hqL] at hsq
   rw [← hvq] at qj e10 hsq
   simp only [RK.w,RK.b,RK.p_few] at qj e10
   have hb10:Tf L' q j=Tf L q j:=by rw [hT q j (by omega) (by omega)];unfold pvu;rw [f1K (by omega)]
   rw [hb10] at f10
   simp [u0x,g1,hqi,hqi',G0O,G0P,g2,qj,e10,hsq]
   obtain ⟨W,hW⟩:∃ W,W=2 * n + m + 1:=⟨_,rfl⟩
   have hWi:(2 * (n:Int) + m + 1)=(W:Int):=by omega
   refine r0k (n:=W) (fun c ρ G=>ρ 0=.pointer (some ⟨p,0,none⟩)∧ρ 1=.int .i64 (i:Int)∧ρ 2=.int .i64 (j:Int)∧ρ 6=w6∧ρ 7=vi∧ρ 39=sR∧ρ 41=.int .i64 (q:Int)∧ρ 40=.int .i64 (L.length:Int)∧ρ 9=vq∧ρ 10=w10∧Frm a0d d0w H G∧rV .few G w6 (Tf L i j)∧rV .few G w10 (Tf L q j) ∧
     ∃ L',e0G .few fl G p n m L' D bs (IntKind.i64.wrap (k + 1)) sR sD sB vs∧ShT n m L' bs∧∀ r c',r < m + 2→c' < 2 * n + m + 1→Tf L' r c' = pvu (Tf L) i j D q c r c') rfl rfl (by decide) (by omega) (by simp) (by simp [hWi]) ?_ ?_ ?_ ?_
   ·exact ⟨by simp [g0],by simp [g1],by simp [g2],by simp [g6],by simp [g7],by simp [g39],by simp [gi],by simp [gn],by simp,by simp,hx,f6,f10,L',hG,hS',hT⟩
   ·intro i ρ ρ' G h hI;simpa [h] using hI
   ·clear g0 g1 g2 g6 g7 g39 gi gn hx f6 f10 hG hS' hT e10 eq hq1 qj hsq hb10 hqL hjq L' ρ G
    rintro c ρ G hc gc gw ⟨g0,g1,g2,g6,g7,g39,gi,gn,g9,g10,hx,f6,f10,L',hG,hS',hT⟩
    have hqL:q < L'.length:=by rw [hS'.len];omega
    have hiL':i < L'.length:=by rw [hS'.len];omega
    have hcq:c < L'[q].length:=by rw [hS'.row q hqL];omega
    have hci:c < L'[i].length:=by rw [hS'.row i hiL'];omega
    obtain ⟨wq,eq,fq⟩:=hG.num hqL hcq
    obtain ⟨wi,ei,fi⟩:=hG.num hiL' hci
    have qc:=hG.ia hqL hcq
    have ic:=hG.ia hiL' hci
    have tq:Tf L' q c=Tf L q c:=by rw [hT q c (by omega) (by omega)];unfold pvu;rw [f1K (by omega)]
    have ti:Tf L' i c=Tf L i c:=by
     rw [hT i c (by omega) (by omega)];unfold pvu;split
     ·unfold pvt;rw [f1N rfl]
     ·rfl
    rw [tq] at fq
    rw [ti] at fi
    have qc':=qc
    rw [← hvq] at qc eq
    rw [← hvi1] at ic ei
    simp only [RK.w,RK.b,RK.p_few] at qc ic eq ei
    have hbk:=hG.blk
    rw [h0D] at hbk
    have dv:=hG.dv
    simp [G0Q,gc]
    refine l0E ?_
    simp [w0T,g0,g6,g7,g9,g10,gc,hbk,qc,ic,eq,ei]
    have hxs:=hx.1
    have hq1:=fun (R':a0E) (hR':q0m .few R')=>M0O (fl:=fl) (R:=R') fq f6 f10 fi dv (by omega) (hz _ _) (hz _ _) (hz _ _) (hz _ _) hD hD0 hR'
    refine a0U.mono (hq1 _ (A0h rfl hR)) ?_
    clear hq1
    rintro ws G3 ⟨fs,hx3⟩
    obtain ⟨G4,hst,hG4,hx4,_⟩:=(hG.mono hx3).store (x:=(Tf L q c * Tf L i j - Tf L q j * Tf L i c).tdiv D) hqL hcq fs
    rw [← hvq] at hst
    simp only [RK.w,RK.b,RK.p_few] at hst
    have hlx:Lx G3 G4:=hx4.2 a0j (by decide) (by decide) (by decide)
    simp [g9,gc,qc,hst]
    refine Rnd.mk ?_ ?_ ?_
    ·simp [gc]
    ·simp [gw]
    refine ⟨by simp [g0],by simp [g1],by simp [g2],by simp [g6],by simp [g7],by simp [g39],by simp [gi],by simp [gn],by simp [g9],by simp [g10],hx.trans (hx3.frm.trans hx4),(f6.mono hx3).lx hlx,(f10.mono hx3).lx hlx,_,hG4,hS'.set hqL,fun r c' h1 h2=>?_⟩
    rw [z0m hS' hqL hcq,hT r c' h1 h2]
    unfold pvu
    by_cases hrc:r=q∧c' = c
    ·obtain ⟨rfl,rfl⟩:=hrc
     rw [f1N ⟨rfl,rfl⟩,f1N (by omega)]
     unfold pvt;rw [f1K hqi]
    ·rw [f1K hrc]
     by_cases hlt:r < q ∨ r=q∧c' < c
     ·rw [f1N hlt,f1N (by omega)]
     ·rw [f1K hlt,f1K (by omega)]
   ·rintro ρ G gc gw ⟨g0,g1,g2,g6,g7,g39,gi,gn,g9,g10,hx,f6,f10,L',hG,hS',hT⟩
    simp
    refine Rnd.mk gi gn ⟨g0,g1,g2,g6,g7,g39,hx,f6,L',hG,hS',fun r c h1 h2=>?_⟩
    rw [hT r c h1 h2,hW];exact B0j h2
 ·clear h0 ρ hG hx f6 e6 eh hi1 ij hbk hpl hsl
  rintro ρ G gi gn ⟨g0,g1,g2,g6,g7,g39,hx,f6,L',hG,hS',hT⟩
  obtain ⟨rfl,fz⟩:=f6
  have hbk:=hG.blk
  rw [h0D] at hbk
  have hpl:=a0l hbk
  have hib:i < bs.length:=by omega
  have ib:=(hG.base hib).2
  have hiL':i < L'.length:=by rw [hS'.len];omega
  simp [w0U,g0,g1,g2,g6,hbk,hlow,hpl,ib]
  generalize hS1:Array.setIfInBounds G p _=G1
  have t1:∀ {e:Nat},a0d ≠ e→LxT e G G1:=fun hne=>b0e hS1 hbk hne
  obtain ⟨G2,hst,ho,hxb⟩:=b0b.store (Q:=PK) (x:=j) (w:=.int .i64 (j:Int)) (hG.basis.lxm (Q':=PK) (t1 (by decide)) (fun _ _ h=>h)) hib (by decide) rfl rfl (fun _ _ _=>rfl) (by decide) (fun _ _ _ _ _ h=>h)
  have hob:=hG.basis.lxm (Q':=PK) (G':=G1) (t1 (by decide)) (fun _ _ h=>h)
  have tb:∀ {e:Nat},g0n ≠ e→LxT e G1 G2:=fun hne=>hob.lxT hne hxb
  simp [hst]
  refine ⟨⟨L',⟨sD,⟨?_,hlow,fz,?_,?_,ho⟩⟩,⟨hS'.len,hS'.row,by simp [hS'.base]⟩,fun r c h1 h2=>?_⟩,hx.trans ⟨f1Y (by rw [← hS1];simp) hxb.1,fun e h1 h2 h3 b ro cs hb=>tb (h1w h3) b ro cs (t1 (h1w h1) b ro cs hb)⟩⟩
  ·have hw:=a0u hS1 hbk
   exact tb (by decide) _ _ _ (by rw [h0D];simpa using hw)
  ·exact (hG.heads.lxm (Q':=PV) (t1 (by decide)) (fun _ _ h=>h)).lxm (tb (by decide)) (fun _ _ h=>h)
  ·exact ⟨hG.rows.len,fun r hr=>((hG.rows.own r hr).lxm (Q':=PF) (t1 (by decide)) (fun cs x hx=>V0Z.lx _ _ _ _ (t1 (by decide)) hx)).lxm (tb (by decide)) (fun cs x hx=>V0Z.lx _ _ _ _ (tb (by decide)) hx),hG.rows.apart⟩
  ·rw [hT r c h1 h2];unfold pvu;rw [f1N (by omega)]
theorem b0b.adr_blk {α:Type} {P:a0f→List Value→α→Prop} {e sz j:Nat} {v:Value} {l:List α} (h:b0b P fl G e sz v l) (hj:j < l.length):∃ b,AI.blkOf (adr sz v j)=[b]∧b < G.size∧slB v=some b:=by
 obtain ⟨cs',⟨hl',⟨rfl,h0⟩ | ⟨b',cap,rfl,hp,hf⟩⟩,h2⟩:=h
 ·omega
 ·exact ⟨b',rfl,a0l hp,rfl⟩
def Bx (G:a0f) (q:Nat) (z:Int):Prop:=∃ s,a0f.blk G q=.row false a0a [.bool (a0k z).1,s]∧Lim G s (a0k z).2
theorem Bx.mono {G':a0f} {q:Nat} {z:Int} (h:Bx G q z) (hx:Ext G G'):Bx G' q z:=by obtain ⟨s,h1,h2⟩:=h;exact ⟨s,hx.blk h1,h2.mono hx⟩
theorem Bx.off {G':a0f} {q:Nat} {z:Int} {o:Option Nat} (h:Bx G q z) (hx:e0l o G G') (hl:Lx G G') (ho:o ≠ some q):Bx G' q z:=by
 obtain ⟨s,h1,h2⟩:=h;exact ⟨s,(hx.2 q (a0l h1) ho).trans h1,h2.lx hl⟩
theorem n0w {p n m i j:Nat} {L:List (List Int)} {k D:Int} {bs:List Nat} {sR sD sB:Value} {vs:List Value} (h:e0G .all fl H p n m L D bs k sR sD sB vs) (hf:fl≤H.size) (hS:ShT n m L bs) (hz:∀ r c,lz (Tf L r c) < 67108864) (hD:lz D < 67108864) (hD0:D ≠ 0) (hi:i < m) (hj:j < 2 * n + m) (hm:m < 1048576) (hn:n < 1048576) (hR:q0m .all R) :
  a0U env fl t0o [.pointer (some ⟨p,0,none⟩),.int .i64 (i:Int),.int .i64 (j:Int)] H (fun _ H'=>((∃ L' sD',e0G .all fl H' p n m L' (Tf L i j) (bs.set i j) (IntKind.i64.wrap (k + 1)) sR sD' sB vs∧ShT n m L' (bs.set i j)∧∀ r c,r < m + 2→c < 2 * n + m + 1→Tf L' r c=pvt (Tf L) i j D r c)∧Frm a0c a0a H H')∧f0C fl H H') R:=by
 refine p0q c1M hf (h:=?_)
 intro ρ h0
 have hL:=hS.len
 have hr:=hS.row
 have hb:=hS.base
 have hiL:i < L.length:=by omega
 have hjL:j < L[i].length:=by rw [hr i hiL];omega
 have hbk:=h.blk
 rw [g0b] at hbk
 have hpl:=a0l hbk
 have hlow:=h.low
 simp [L0X,F0F,h0,hbk,hlow,hpl]
 generalize hS1:Array.setIfInBounds H p _=G1
 have t1:∀ {e:Nat},a0c ≠ e→LxT e H G1:=fun hne=>b0e hS1 hbk hne
 have hG:e0G .all fl G1 p n m L D bs (IntKind.i64.wrap (k + 1)) sR sD sB vs:=⟨a0u hS1 hbk,hlow,h.d.lx (t1 (by decide)),h.heads.lxm (t1 (by decide)) (fun _ _ h=>h),⟨h.rows.len,fun r hr=>(h.rows.own r hr).lxm (t1 (by decide)) (fun cs x hx=>V0Y.lx _ _ _ _ (t1 (by decide)) hx),h.rows.apart⟩,h.basis.lxm (t1 (by decide)) (fun _ _ h=>h)⟩
 have hx:Frm a0c a0a H G1:=⟨by rw [← hS1];simp,fun e he _ _=>t1 (h1w he)⟩
 clear hS1 t1
 obtain ⟨w6,e6,f6⟩:=hG.num hiL hjL
 have eh:=hG.head hiL
 have hi1:=hG.hia hiL
 have ij:=hG.ia hiL hjL
 have hbk:=hG.blk
 rw [g0b] at hbk
 obtain ⟨vi,hvi1⟩:∃ x,x=vs[i]'(by have:=h.rows.len;omega):=⟨_,rfl⟩
 rw [← hvi1] at eh ij e6
 simp only [RK.w,RK.b,RK.p_all] at ij e6
 obtain ⟨bR,hbR,hbRl,_⟩:=(hG.heads).adr_blk (j:=i) (by have:=h.rows.len;omega)
 obtain ⟨s6,rfl,k6⟩:=f6
 have hfl:fl≤G1.size:=f1Y hf hx.1
 have hpl1:=a0l hbk
 refine e0u ?_
 simp [F0G,h0,hbk,hi1,eh,ij,e6,k6.cells,k6.plain,hfl]
 generalize hN:Array.setIfInBounds (Array.push _ _) _ _=G2
 obtain ⟨hx2,b6⟩:=new1 hN
 clear hN
 have P6l:∀ r (hr:r < vs.length),slB vs[r] ≠ some G1.size:=fun r hr' h5=>by
  have:=((hG.rows.own r (by have:=hG.rows.len;omega)).ge h5).2
  omega
 generalize hP6:Array.size G1=P6 at *
 have hne1:p ≠ P6:=by omega
 have hne2:bR ≠ P6:=by omega
 replace hG:=hG.mono hx2
 replace hx:=hx.trans hx2.frm
 replace k6:=k6.mono hx2
 replace hbk:=hG.blk
 rw [g0b] at hbk
 simp [hbR,hne1,hne2,h1w hne1,h1w hne2]
 have hsl:=hG.heads.sls.slen
 rw [hG.rows.len] at hsl
 simp [F0H,h0,hbk,hsl]
 refine d0W (n:=L.length) (fun k' ρ G=>ρ 0=.pointer (some ⟨p,0,none⟩)∧ρ 1=.int .i64 (i:Int)∧ρ 2=.int .i64 (j:Int)∧ρ 6=.pointer (some ⟨P6,0,none⟩)∧ρ 7=vi∧ρ 39=sR∧Frm a0c a0a H G∧Bx G P6 (Tf L i j) ∧
   ∃ L',e0G .all fl G p n m L' D bs (IntKind.i64.wrap (k + 1)) sR sD sB vs∧ShT n m L' bs∧∀ r c,r < m + 2→c < 2 * n + m + 1→Tf L' r c=pvu (Tf L) i j D k' 0 r c) rfl rfl (by decide) (by omega) (by simp) (by simp) ?_ ?_ ?_ ?_
 ·exact ⟨by simp [h0],by simp [h0],by simp [h0],by simp,by simp,by simp,hx,⟨s6,b6,k6⟩,L,hG,hS,fun r c _ _=>by unfold pvu;rw [f1K (by omega)]⟩
 ·intro i ρ ρ' G h hI;simpa [h] using hI
 ·clear h0 ρ hG hx k6 b6 e6 eh hi1 ij hbk hpl hsl hx2 hpl1
  rintro q ρ G hq gi gn ⟨g0,g1,g2,g6,g7,g39,hx,f6,L',hG,hS',hT⟩
  obtain ⟨vq,hvq⟩:∃ x,x=vs[q]'(by have:=h.rows.len;clear hG;omega):=⟨_,rfl⟩
  have hqL:q < L'.length:=by rw [hS'.len];omega
  have eq:=hG.head hqL
  have hq1:=hG.hia hqL
  rw [← hvq] at eq
  simp [F0I,gi,g39,hq1,eq]
  by_cases hqi:q=i
  ·subst hqi
   simp [u0n,g1]
   refine Rnd.mk (by simp [gi]) (by simp [gn]) ⟨by simp [g0],by simp [g1],by simp [g2],by simp [g6],by simp [g7],by simp [g39],hx,f6,L',hG,hS',fun r c h1 h2=>?_⟩
   rw [hT r c h1 h2]
   unfold pvu
   by_cases hrq:r=q
   ·subst hrq;rw [f1K (by omega),f1N (by omega)];unfold pvt;rw [f1N rfl]
   ·by_cases hlt:r < q
    ·rw [f1N (.inl hlt),f1N (by omega)]
    ·rw [f1K (by omega),f1K (by omega)]
  ·have hqi':¬ ((q:Int)=(i:Int)):=by omega
   have hjq:j < L'[q].length:=by rw [hS'.row q hqL];omega
   obtain ⟨w10,e10,f10⟩:=hG.num hqL hjq
   have qj:=hG.ia hqL hjq
   have hsq:=(hG.rows.own q hqL).slen
   rw [hS'.row q hqL] at hsq
   rw [← hvq] at qj e10 hsq
   simp only [RK.w,RK.b,RK.p_all] at qj e10
   have hb10:Tf L' q j=Tf L q j:=by rw [hT q j (by omega) (by omega)];unfold pvu;rw [f1K (by omega)]
   rw [hb10] at f10
   obtain ⟨s10,rfl,k10⟩:=f10
   have hfl2:fl≤G.size:=f1Y hf hx.1
   simp [u0n,g1,hqi,hqi',F0J,g2,qj,e10,k10.cells,k10.plain,hfl2]
   generalize hN:Array.setIfInBounds (Array.push _ _) _ _=G2
   obtain ⟨hx2,b10⟩:=new1 hN
   clear hN
   have P10l:∀ r (hr:r < vs.length),slB vs[r] ≠ some G.size:=fun r hr' h5=>by
    have:=((hG.rows.own r (by have:=hG.rows.len;omega)).ge h5).2
    omega
   generalize hP10:Array.size G=P10 at *
   replace hG:=hG.mono hx2
   replace hx:=hx.trans hx2.frm
   replace f6:=f6.mono hx2
   replace k10:=k10.mono hx2
   have f10:Bx G2 P10 (Tf L q j):=⟨s10,b10,k10⟩
   simp [F0K,hsq]
   obtain ⟨W,hW⟩:∃ W,W=2 * n + m + 1:=⟨_,rfl⟩
   have hWi:(2 * (n:Int) + m + 1)=(W:Int):=by omega
   refine r0k (n:=W) (fun c ρ G=>ρ 0=.pointer (some ⟨p,0,none⟩)∧ρ 1=.int .i64 (i:Int)∧ρ 2=.int .i64 (j:Int)∧ρ 6=.pointer (some ⟨P6,0,none⟩)∧ρ 7=vi∧ρ 39=sR∧ρ 41=.int .i64 (q:Int)∧ρ 40=.int .i64 (L.length:Int)∧ρ 9=vq∧ρ 10=.pointer (some ⟨P10,0,none⟩)∧Frm a0c a0a H G∧Bx G P6 (Tf L i j)∧Bx G P10 (Tf L q j) ∧
     ∃ L',e0G .all fl G p n m L' D bs (IntKind.i64.wrap (k + 1)) sR sD sB vs∧ShT n m L' bs∧∀ r c',r < m + 2→c' < 2 * n + m + 1→Tf L' r c' = pvu (Tf L) i j D q c r c') rfl rfl (by decide) (by omega) (by simp) (by simp [hWi]) ?_ ?_ ?_ ?_
   ·exact ⟨by simp [g0],by simp [g1],by simp [g2],by simp [g6],by simp [g7],by simp [g39],by simp [gi],by simp [gn],by simp,by simp,hx,f6,f10,L',hG,hS',hT⟩
   ·intro i ρ ρ' G h hI;simpa [h] using hI
   ·clear g0 g1 g2 g6 g7 g39 gi gn hx f6 f10 hG hS' hT e10 eq hq1 qj hsq hb10 hqL hjq k10 b10 hx2 hfl2 hP10 L' ρ G
    rintro c ρ G hc gc gw ⟨g0,g1,g2,g6,g7,g39,gi,gn,g9,g10,hx,f6,f10,L',hG,hS',hT⟩
    have hqL:q < L'.length:=by rw [hS'.len];omega
    have hiL':i < L'.length:=by rw [hS'.len];omega
    have hcq:c < L'[q].length:=by rw [hS'.row q hqL];omega
    have hci:c < L'[i].length:=by rw [hS'.row i hiL'];omega
    obtain ⟨wq,eq,fq⟩:=hG.num hqL hcq
    obtain ⟨wi,ei,fi⟩:=hG.num hiL' hci
    have qc:=hG.ia hqL hcq
    have ic:=hG.ia hiL' hci
    have tq:Tf L' q c=Tf L q c:=by rw [hT q c (by omega) (by omega)];unfold pvu;rw [f1K (by omega)]
    have ti:Tf L' i c=Tf L i c:=by
     rw [hT i c (by omega) (by omega)];unfold pvu;split
     ·unfold pvt;rw [f1N rfl]
     ·rfl
    rw [tq] at fq
    rw [ti] at fi
    have qc':=qc
    rw [← hvq] at qc eq
    rw [← hvi1] at ic ei
    simp only [RK.w,RK.b,RK.p_all] at qc ic eq ei
    have hbk:=hG.blk
    rw [g0b] at hbk
    have dv:=hG.dv
    obtain ⟨s6,b6,k6⟩:=id f6
    obtain ⟨s10,b10,k10⟩:=id f10
    have v6:rV .all G (.agg #[.bool (a0k (Tf L i j)).1,s6]) (Tf L i j):=⟨s6,rfl,k6⟩
    have v10:rV .all G (.agg #[.bool (a0k (Tf L q j)).1,s10]) (Tf L q j):=⟨s10,rfl,k10⟩
    simp [F0L,gc]
    refine l0E ?_
    simp [w0L,g0,g6,g7,g9,g10,gc,hbk,qc,ic,eq,ei,b6,b10]
    have hxs:=hx.1
    have hq1:=fun (R':a0E) (hR':q0m .all R')=>M0O (fl:=fl) (R:=R') fq v6 v10 fi dv (by omega) (hz _ _) (hz _ _) (hz _ _) (hz _ _) hD hD0 hR'
    refine a0U.mono (hq1 _ trivial) ?_
    clear hq1
    rintro ws G3 ⟨fs,hx3⟩
    obtain ⟨G4,hst,hG4,hx4,hxb4⟩:=(hG.mono hx3).store (x:=(Tf L q c * Tf L i j - Tf L q j * Tf L i c).tdiv D) hqL hcq fs
    rw [← hvq] at hst hxb4
    simp only [RK.w,RK.b,RK.p_all] at hst
    have hvq6:slB vq ≠ some P6:=by rw [hvq];exact P6l q (by have:=h.rows.len;omega)
    have hvq10:slB vq ≠ some P10:=by rw [hvq];exact P10l q (by have:=h.rows.len;omega)
    have hlx:Lx G3 G4:=hx4.2 a0j (by decide) (by decide) (by decide)
    simp [g9,gc,qc,hst]
    refine Rnd.mk ?_ ?_ ?_
    ·simp [gc]
    ·simp [gw]
    refine ⟨by simp [g0],by simp [g1],by simp [g2],by simp [g6],by simp [g7],by simp [g39],by simp [gi],by simp [gn],by simp [g9],by simp [g10],hx.trans (hx3.frm.trans hx4),(f6.mono hx3).off hxb4 hlx hvq6,(f10.mono hx3).off hxb4 hlx hvq10,_,hG4,hS'.set hqL,fun r c' h1 h2=>?_⟩
    rw [z0m hS' hqL hcq,hT r c' h1 h2]
    unfold pvu
    by_cases hrc:r=q∧c' = c
    ·obtain ⟨rfl,rfl⟩:=hrc
     rw [f1N ⟨rfl,rfl⟩,f1N (by omega)]
     unfold pvt;rw [f1K hqi]
    ·rw [f1K hrc]
     by_cases hlt:r < q ∨ r=q∧c' < c
     ·rw [f1N hlt,f1N (by omega)]
     ·rw [f1K hlt,f1K (by omega)]
   ·rintro ρ G gc gw ⟨g0,g1,g2,g6,g7,g39,gi,gn,g9,g10,hx,f6,f10,L',hG,hS',hT⟩
    simp
    refine Rnd.mk gi gn ⟨g0,g1,g2,g6,g7,g39,hx,f6,L',hG,hS',fun r c h1 h2=>?_⟩
    rw [hT r c h1 h2,hW];exact B0j h2
 ·clear h0 ρ hG hx k6 b6 e6 eh hi1 ij hbk hpl hsl hx2 hpl1
  rintro ρ G gi gn ⟨g0,g1,g2,g6,g7,g39,hx,f6,L',hG,hS',hT⟩
  obtain ⟨s6,b6,k6⟩:=f6
  have hbk:=hG.blk
  rw [g0b] at hbk
  have hpl:=a0l hbk
  have hib:i < bs.length:=by omega
  have ib:=(hG.base hib).2
  have hiL':i < L'.length:=by rw [hS'.len];omega
  refine a0G ?_
  simp [w0M,g0,g1,g2,g6,hbk,hlow,hpl,ib,b6,k6.cells,k6.plain]
  generalize hS1:Array.setIfInBounds G p _=G1
  have t1:∀ {e:Nat},a0c ≠ e→LxT e G G1:=fun hne=>b0e hS1 hbk hne
  obtain ⟨G2,hst,ho,hxb⟩:=b0b.store (Q:=PK) (x:=j) (w:=.int .i64 (j:Int)) (hG.basis.lxm (Q':=PK) (t1 (by decide)) (fun _ _ h=>h)) hib (by decide) rfl rfl (fun _ _ _=>rfl) (by decide) (fun _ _ _ _ _ h=>h)
  have hob:=hG.basis.lxm (Q':=PK) (G':=G1) (t1 (by decide)) (fun _ _ h=>h)
  have tb:∀ {e:Nat},g0n ≠ e→LxT e G1 G2:=fun hne=>hob.lxT hne hxb
  simp [hst]
  refine ⟨⟨L',⟨s6,⟨?_,hlow,(k6.lx (t1 (by decide))).lx (tb (by decide)),?_,?_,ho⟩⟩,⟨hS'.len,hS'.row,by simp [hS'.base]⟩,fun r c h1 h2=>?_⟩,hx.trans ⟨f1Y (by rw [← hS1];simp) hxb.1,fun e h1 h2 h3 b ro cs hb=>tb (h1w h3) b ro cs (t1 (h1w h1) b ro cs hb)⟩⟩
  ·have hw:=a0u hS1 hbk
   exact tb (by decide) _ _ _ (by rw [g0b];simpa using hw)
  ·exact (hG.heads.lxm (Q':=PV) (t1 (by decide)) (fun _ _ h=>h)).lxm (tb (by decide)) (fun _ _ h=>h)
  ·exact ⟨hG.rows.len,fun r hr=>((hG.rows.own r hr).lxm (Q':=PI) (t1 (by decide)) (fun cs x hx=>V0Y.lx _ _ _ _ (t1 (by decide)) hx)).lxm (tb (by decide)) (fun cs x hx=>V0Y.lx _ _ _ _ (tb (by decide)) hx),hG.rows.apart⟩
  ·rw [hT r c h1 h2];unfold pvu;rw [f1N (by omega)]
theorem k0i {F:RK} {p n m i j:Nat} {L:List (List Int)} {k D:Int} {bs:List Nat} {sR sD sB:Value} {vs:List Value} (h:e0G F fl H p n m L D bs k sR sD sB vs) (hf:fl≤H.size) (hS:ShT n m L bs) (hz:∀ r c,lz (Tf L r c) < 67108864) (hD:lz D < 67108864) (hD0:D ≠ 0) (hi:i < m) (hj:j < 2 * n + m) (hm:m < 1048576) (hn:n < 1048576) (hR:q0m F R) :
  a0U env fl (F.p t0p t0o) [.pointer (some ⟨p,0,none⟩),.int .i64 (i:Int),.int .i64 (j:Int)] H (fun _ H'=>((∃ L' sD',e0G F fl H' p n m L' (Tf L i j) (bs.set i j) (IntKind.i64.wrap (k + 1)) sR sD' sB vs∧ShT n m L' (bs.set i j)∧∀ r c,r < m + 2→c < 2 * n + m + 1→Tf L' r c=pvt (Tf L) i j D r c)∧Frm F.T F.E H H')∧f0C fl H H') R:=by
 cases F
 ·exact n0H h hf hS hz hD hD0 hi hj hm hn hR
 ·exact n0w h hf hS hz hD hD0 hi hj hm hn hR
end
section
open Go SX
set_option maxHeartbeats 4000000
variable {fl:Nat} {H G:a0f} {R:a0E} {v w u:Value} {F:RK}
theorem T0e {c:SCode} {i:Nat} {t:b0c} {Q:d0R} (I:Nat→b0c→a0f→Prop) (M:b0c→a0f→Prop) (k:Nat) (hI:I k t H)
  (step:∀ k t H,I k t H→W env fl c t H (n0J i (fun t' H'=>∃ k',k' < k∧I k' t' H') M Q) R)
  (rest:∀ t H,M t H→Q .normal t H):W env fl (.loop c) t H (e0H i Q) R:=by
 rw [← h0G (Q:=Q)]
 refine b0Z (Z:=fun t H=>Q .normal t H) (Q:=Q) I M k hI step rest
theorem N0g {m C:Nat} {A T:Nat→Nat→Int} {neg:Nat→Prop} {base:Nat→Nat} {d:Int} (h:Tab m C A neg T base d) {i j r c:Nat} (hi:i < m) (hj:j≤C) (hp:T i j ≠ 0) (hr:r < m + 2) (hc:c≤C):pvt T i j d r c=pv T i j d r c:=by
 unfold pvt
 by_cases hri:r=i
 ·rw [f1N hri];unfold pv;rw [f1N hri]
 ·rw [f1K hri,h.exact hi hj hp hr hc hri,Int.mul_tdiv_cancel_left _ (by have:=h.pos;omega)]
theorem z0t {bs:List Nat} {i j k:Nat} (hi:i < bs.length):bf (bs.set i j) k=if k=i then j else bf bs k:=by
 unfold bf
 simp only [f1H,g1t]
 by_cases h:i=k
 ·subst h;simp [hi]
 ·rw [f1K h,f1K (fun h2=>h h2.symm)]
theorem W0p {n m r c:Nat} {L:List (List Int)} {bs:List Nat} (h:ShT n m L bs) (ho:¬ (r < m + 2∧c≤2 * n + m)):Tf L r c=0:=by
 unfold Tf
 by_cases hr:r < L.length
 ·have:=h.row r hr
  have:=h.len
  rw [f1H,f1H,f1M hr,g1s,f1T (by omega)];rfl
 ·have e:L.getD r []=[]:=by rw [f1H,f1T (by omega)];rfl
  rw [e];rfl
theorem T0Z {n m:Nat} {L:List (List Int)} {bs:List Nat} (h:ShT n m L bs) (hb:∀ r c,r < m + 2→c≤2 * n + m→lz (Tf L r c) < 67108864) (r c:Nat):lz (Tf L r c) < 67108864:=by
 by_cases ho:r < m + 2∧c≤2 * n + m
 ·exact hb r c ho.1 ho.2
 ·rw [W0p h ho,d0y];decide
def Zr (m C:Nat) (T:Nat→Nat→Int) (base:Nat→Nat):Prop:=∀ i,i < m→¬ base i < C→∀ c,c≤C→T i c=0
theorem Zr.pivot {m C:Nat} {A T T':Nat→Nat→Int} {base base':Nat→Nat} {d:Int} {i j:Nat} (h:Zr m C T base) (hi:i < m) (hj:j < C) (hT:∀ k c,k < m + 2→c≤C→T' k c=pv T i j d k c) (hb:∀ k,k < m→base' k=if k=i then j else base k):Zr m C T' base':=by
 intro r hr hbr c hc
 have h1:=hb r hr
 by_cases hri:r=i
 ·rw [f1N hri] at h1;omega
 ·rw [f1K hri] at h1
  rw [hT r c (by omega) hc]
  exact B0h (C:=C) (fun c hc=>h r hr (by omega) c hc) hri hc (by omega)
def Bnd (m C:Nat) (A:Nat→Nat→Int) (neg:Nat→Prop):Prop:=∀ T base d,Tab m C A neg T base d→(∀ r c,r < m + 2→c≤C→lz (T r c) < 67108864)∧lz d < 67108864
def d1F (F:RK) (fl p n m g:Nat) (L:List (List Int)) (bs:List Nat) (sR sB:Value) (vs:List Value) (A:Nat→Nat→Int) (neg:Nat→Prop) (H:a0f) (z:Int) (H':a0f):Prop :=
 ∃ L' D' bs' k' sD',e0G F fl H' p n m L' D' bs' k' sR sD' sB vs∧ShT n m L' bs'∧Tab m (2 * n + m) A neg (Tf L') (bf bs') D'∧(Zr m (2 * n + m) (Tf L) (bf bs)→Zr m (2 * n + m) (Tf L') (bf bs'))∧Frm F.T F.E H H' ∧
   ((z = -1∧∀ c,c < 2 * n + m→0≤Tf L' g c) ∨ (∃ j:Nat,z=j∧j < 2 * n + m∧Tf L' g j < 0∧∀ i,i < m→Tf L' i j≤0))
def d1E (F:RK) (fl p n m g:Nat) (L:List (List Int)) (bs:List Nat) (sR sB:Value) (vs:List Value) (A:Nat→Nat→Int) (neg:Nat→Prop) (H:a0f) (c:Nat) (t:b0c) (G:a0f):Prop :=
 ∃ N ρ L' D' bs' k' sD',t=T 50 ρ∧N + c=((2 * n + m) + m) ^ m∧ρ 0=.pointer (some ⟨p,0,none⟩)∧ρ 1=.int .i64 (g:Int)∧Frm F.T F.E H G∧e0G F fl G p n m L' D' bs' k' sR sD' sB vs∧ShT n m L' bs'∧SX.Reach m (2 * n + m) g A neg N (Tf L') (bf bs') D'∧(Zr m (2 * n + m) (Tf L) (bf bs)→Zr m (2 * n + m) (Tf L') (bf bs'))
theorem x0l {p n m g:Nat} {L:List (List Int)} {k D:Int} {bs:List Nat} {sR sD sB:Value} {vs:List Value} {A:Nat→Nat→Int} {neg:Nat→Prop} (h:e0G F fl H p n m L D bs k sR sD sB vs) (hf:fl≤H.size) (hS:ShT n m L bs) (hT:Tab m (2 * n + m) A neg (Tf L) (bf bs) D) (hBd:Bnd m (2 * n + m) A neg) (hg:g=m ∨ g=m + 1) (hm:m < 1048576) (hn:n < 1048576) (hR:q0m F R) :
  a0U env fl (v0I F) [.pointer (some ⟨p,0,none⟩),.int .i64 (g:Int)] H (fun r H'=>(∃ z,r=.int .i64 z∧d1F F fl p n m g L bs sR sB vs A neg H z H')∧f0C fl H H') R:=by
 refine p0q X0d hf (h:=?_)
 intro ρ h0
 simp [o0W,w0e,h0]
 refine T0e (d1E F fl p n m g L bs sR sB vs A neg H)
  (fun _ _=>False) (((2 * n + m) + m) ^ m) ⟨0,_,L,D,bs,k,sD,rfl,by omega,by simp [h0],by simp [h0],Frm.refl,h,hS,SX.Reach.zero hT,id⟩ ?_ (fun _ _ h=>g1g h id)
 clear h0 ρ
 rintro c _ G0 ⟨N,ρ,L',D',bs',k',sD',rfl,hN,g0,g1,hx,hG,hS',hre,hZ⟩
 have hTab:=hre.tab
 have hshort:=hre.short hg
 have hz:=T0Z hS' (hBd _ _ _ hTab).1
 have hlD:=(hBd _ _ _ hTab).2
 simp [w0f]
 refine b0Z (fun c t G=>∃ q ρ,t=T 50 ρ∧q + c=2 * n + m∧ρ 0=.pointer (some ⟨p,0,none⟩)∧ρ 1=.int .i64 (g:Int)∧ρ 5=.int .i64 (q:Int)∧Ext G0 G∧∀ c',c' < q→0≤Tf L' g c')
  (fun t G=>∃ (q:Nat) (ρ:Nat→Value),t=T 50 ρ∧q≤2 * n + m∧ρ 0=.pointer (some ⟨p,0,none⟩)∧ρ 1=.int .i64 (g:Int)∧ρ 5=.int .i64 (q:Int)∧Ext G0 G∧(∀ c',c' < q→0≤Tf L' g c')∧(q < 2 * n + m→Tf L' g q < 0)) (2 * n + m) ⟨0,_,rfl,by omega,by simp [g0],by simp [g1],by simp,Ext.refl G0,fun c' h=>by omega⟩ ?_ ?_
 ·clear g0 g1 ρ
  rintro c _ G ⟨q,ρ,rfl,hq,g0,g1,g5,hx0,hpre⟩
  have hG1:=hG.mono hx0
  have hgL:g < L'.length:=by rw [hS'.len];omega
  have hbk:=hG1.blk
  have hsz:fl≤G.size:=by have:=hx.1;have:=hx0.1;omega
  have e2:((2 * n + m:Nat):Int)=2 * (n:Int) + m:=by omega
  by_cases hqc:q < 2 * n + m
  ·have hqL:q < L'[g].length:=by rw [hS'.row g hgL];omega
   obtain ⟨w1,e1,f1⟩:=hG1.num hgL hqL
   have eh:=hG1.head hgL
   have hi1:=hG1.hia hgL
   have gq:=hG1.ia hgL hqL
   obtain ⟨vg,hvg⟩:∃ x,x=vs[g]'(by have:=hG.rows.len;omega):=⟨_,rfl⟩
   rw [← hvg] at eh gq e1
   have hqc':(q:Int) < 2 * (n:Int) + m:=by omega
   simp
   refine a0G ?_
   simp [q0j,g0,g1,g5,hbk,hi1,eh,gq,e1,hqc']
   refine (r0i f1 hsz (hz _ _)).mono ?_
   rintro _ G2 ⟨rfl,hx2⟩
   by_cases hs:0≤Tf L' g q
   ·have hc:0≤c0x (Tf L' g q) 0:=by unfold c0x;rw [f1K (by omega)];split <;> omega
    simp [hc,w0g,g5,a0R (show q < 4611686018427387904 by omega)]
    refine ⟨c - 1,by omega,q + 1,_,rfl,by omega,by simp [g0],by simp [g1],by simp,hx0.trans hx2,fun c' h=>?_⟩
    by_cases h2:c' = q
    ·rw [h2];exact hs
    ·exact hpre c' (by omega)
   ·have hc:¬ 0≤c0x (Tf L' g q) 0:=by unfold c0x;rw [f1N (by omega)];omega
    simp [hc]
    exact ⟨q,_,rfl,by omega,by simp [g0],by simp [g1],by simp [g5],hx0.trans hx2,hpre,fun _=>by omega⟩
  ·have hqc':¬ (q:Int) < 2 * (n:Int) + m:=by omega
   simp
   refine a0G ?_
   simp [q0j,g0,g1,g5,hbk,hqc']
   exact ⟨q,_,rfl,by omega,by simp [g0],by simp [g1],by simp [g5],hx0,hpre,fun h=>g1g h hqc⟩
 ·clear g0 g1 ρ
  rintro _ G ⟨q,ρ,rfl,hq,g0,g1,g5,hx0,hpre,hneg⟩
  have hG1:=hG.mono hx0
  have hbk:=hG1.blk
  have hsz:fl≤G.size:=by have:=hx.1;have:=hx0.1;omega
  have e2:((2 * n + m:Nat):Int)=2 * (n:Int) + m:=by omega
  replace hx:=hx.trans hx0.frm
  by_cases hqc:q=2 * n + m
  ·have hqc':(q:Int)=2 * (n:Int) + m:=by omega
   simp [q0k,w0h,g0,g5,hbk,hqc']
   exact ⟨L',D',bs',k',sD',hG1,hS',hTab,hZ,hx,.inl ⟨rfl,fun c hc=>hpre c (by omega)⟩⟩
  ·have hqc':¬ (q:Int)=2 * (n:Int) + m:=by omega
   replace hneg:=hneg (by omega)
   simp [q0k,g0,g5,hbk,hqc',w0i]
   refine (t0t hG1 hsz hS' hz (show q < 2 * n + m by omega) hm).mono ?_
   rintro _ G2 ⟨⟨z,rfl,hz1⟩,hx2⟩
   have hG2:=hG1.mono hx2
   replace hx:=hx.trans hx2.frm
   rcases hz1 with ⟨rfl,hz1⟩ | ⟨o,rfl,ho,hB⟩
   ·simp [q0l,w0j,g5]
    exact ⟨L',D',bs',k',sD',hG2,hS',hTab,hZ,hx,.inr ⟨q,rfl,by omega,hneg,hz1⟩⟩
   ·have ho':¬ (o:Int) < 0:=by omega
    simp [q0l,w0k,g0,g5,ho']
    refine (k0i hG2 (by have:=hx.1;omega) hS' hz hlD (by have:=hTab.pos;omega) ho (show q < 2 * n + m by omega) hm hn hR).mono ?_
    rintro _ G3 ⟨⟨⟨L2,sD2,hG3,hS2,hT2⟩,hx3⟩,_⟩
    have hp:Tf L' o q ≠ 0:=by have:=hB.2.1;omega
    have hT3:∀ r c,r < m + 2→c≤2 * n + m→Tf L2 r c=pv (Tf L') o q D' r c:=fun r c h1 h2=>by
     rw [hT2 r c h1 (by omega)];exact N0g hTab ho (by omega) hp h1 h2
    have hb3:∀ r,r < m→bf (bs'.set o q) r=if r=o then q else bf bs' r:=fun r hr=>z0t (by rw [hS'.base];exact ho)
    simp
    exact ⟨c - 1,by omega,N + 1,_,L2,_,_,_,sD2,rfl,by omega,by simp [g0],by simp [g1],hx.trans hx3,hG3,hS2,SX.Reach.step hg hre (by omega) hneg hpre hB hT3 hb3 rfl,fun hz0=>(hZ hz0).pivot (A:=A) ho (by omega) hT3 hb3⟩
end
end Go.Proofs.YtjlohmnnldbjoaaGreat.AI
