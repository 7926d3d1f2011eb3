/- Part 4 of the proof. -/
import Derived.Test.YtacninhfdfhgjaaGreatM00
import Derived.Test.YtacninhfdfhgjaaGreatM02
set_option linter.unusedVariables false
set_option linter.unusedSimpArgs false
set_option linter.unusedSectionVars false
namespace Go.Proofs.YtacninhfdfhgjaaGreat.AI
section
open Go
variable {E:Env} {fl:Nat} {t:a0Q} {H G:a0c} {K:l0v} {R:a0E}
theorem nr {α:Sort _} {a b:α} (h:a=b):a=b:=h
def oo {α:Type} (o:Option α) (K:α→Prop):Prop:=∃ a,o=some a∧K a
@[simp] theorem r0g {α:Type} (a:α) (K:α→Prop):oo (some a) K=K a:=by simp [oo]
@[simp] theorem O0L {α:Type} (K:α→Prop):oo (none:Option α) K=False:=by simp [oo]
def T (n:Nat) (ρ:Nat→Value):a0Q:=(List.range n).map ρ
def upd (ρ:Nat→Value) (d:Nat) (v:Value):Nat→Value:=fun i=>if d=i then v else ρ i
theorem i0j {ρ:Nat→Value} {d:Nat} {v:Value}:upd ρ d v d=v:=by simp [upd]
theorem g0W {ρ:Nat→Value} {d i:Nat} {v:Value} (h:d ≠ i):upd ρ d v i=ρ i:=by simp [upd,h]
theorem F0R {n d:Nat} {ρ:Nat→Value} {v:Value}:put (T n ρ) (some d) v=T n (upd ρ d v):=by
 unfold put T
 apply S0G
 intro i
 simp only [T0e,R0M,List.length_map,List.length_range,List.getElem?_range',S0h]
 by_cases hi:i < n
 ·rw [S0h hi]
  by_cases hd:d=i
  ·subst hd;simp [hi,upd]
  ·simp [hd,upd]
 ·rw [R0d (by simpa using hi)]
  by_cases hd:d=i
  ·subst hd;simp [hi]
  ·simp [hd]
theorem b0o {n i:Nat} {ρ:Nat→Value} (h:i < n):get (T n ρ) i=ρ i:=by
 unfold get T
 rw [Q0T,R0M,S0h h];rfl
theorem E0Z {t:a0Q} {n:Nat} (h:t.length=n):t=T n (get t):=by
 apply S0G
 intro i
 unfold T
 by_cases hi:i < n
 ·rw [R0M,S0h hi,R0a (by omega)]
  simp [get,Q0T,R0a (show i < t.length by omega)]
 ·rw [R0d (by omega),R0d (by simpa using hi)]
theorem G0F {ρ:Nat→Value} {d i:Nat} {v:Value}:upd ρ d v i=if d=i then v else ρ i:=rfl
theorem I0N {n i:Nat} {ρ:Nat→Value}:get (T n ρ) i=if i < n then ρ i else undef:=by
 by_cases h:i < n
 ·rw [R0k h,b0o h]
 ·rw [R0c h];unfold get T;rw [Q0T,R0d (by simpa using h)];rfl
@[simp] theorem L0E {n:Nat} {ρ:Nat→Value}:(T n ρ).length=n:=by simp [T]
theorem toT {t:a0Q} {n:Nat} (h:t.length=n):∃ ρ,t=T n ρ:=⟨_,E0Z h⟩
attribute [irreducible] upd T
@[simp] theorem L0G {v:Value}:put t none v=t:=nr rfl
@[simp] theorem H0h {d:Option Nat} {v:Value}:(put t d v).length=t.length:=by cases d <;> simp [put]
@[simp] theorem h0G {i:Nat}:ev t (.tmp i)=get t i:=nr rfl
@[simp] theorem w0y {v:Value}:ev t (.const v)=v:=nr rfl
@[simp] theorem Q0J {f:FuncId}:ev t (.fn f)=.func (.func f) #[] #[]:=nr rfl
def F0P:Value→Value→Value→Option Value
 | .bool b,x,y=>some (if b then x else y)
 | _,_,_=>none
@[simp] theorem H0j {b:Bool} {x y:Value}:F0P (.bool b) x y=some (if b then x else y):=nr rfl
def F0t (k:IntKind):Value→Option Value
 | .int _ n=>some (.int k (k.wrap n))
 | _=>none
@[simp] theorem H0R {k k':IntKind} {n:Int}:F0t k (.int k' n)=some (.int k (k.wrap n)):=nr rfl
def d0j:Value→Option Value
 | .slice _ n _=>some (.int .i64 n)
 | _=>none
def adr (size:Nat) (v:Value) (j:Nat):Value :=
 match v with
 | .slice (some p) _ _=>.pointer (some ⟨p.block,p.off + j * size,none⟩)
 | _=>undef
def iaV (size:Nat) (v:Value) (i:Value):Option Value :=
 match v,i with
 | .slice (some p) n _,.int _ j=>if 0≤j∧j < n then some (.pointer (some ⟨p.block,p.off + j.toNat * size,none⟩)) else none
 | _,_=>none
def O0A (v:Value) (i:Nat):Option Value:=match v with | .tuple vs=>vs[i]? | _=>none
@[simp] theorem L0y:H0M (.slice none 0 0)=some (.int .i64 0):=nr rfl
@[simp] theorem G0O {vs:Array Value} {i:Nat}:O0A (.tuple vs) i=vs[i]?:=nr rfl
def faV (off:Nat):Value→Option Value
 | .pointer (some p)=>if p.spot.isSome=true then none else some (.pointer (some ⟨p.block,p.off + off,none⟩))
 | _=>none
@[simp] theorem O0D {off b o:Nat}:faV off (.pointer (some ⟨b,o,none⟩))=some (.pointer (some ⟨b,o + off,none⟩)):=by simp [faV]
def j0l (fl:Nat) (H:a0c) (n:Nat) (a x:Value):Option a0c :=
 match a with
 | .pointer (some p)=>if p.spot.isSome=true ∨ (a0M x).length ≠ n then none else H.write? fl p.block p.off (a0M x)
 | _=>none
def mkV (bytes:Nat):Value→Value→Option (Nat × Nat)
 | .int _ l,.int _ c=>if 0≤l∧l≤c∧c≤1073741824∧bytes≤1024 then some (l.toNat,c.toNat) else none
 | _,_=>none
theorem k0x {bytes:Nat} {k k':IntKind} {l c:Nat} (h1:l≤c) (h2:c≤1073741824) (h3:bytes≤1024):mkV bytes (.int k l) (.int k' c)=some (l,c):=by
 unfold mkV;simp only;rw [R0k (by omega)];simp
theorem J0b {bytes:Nat} {k k':IntKind} {l c:Int} (h0:0≤l) (h1:l≤c) (h2:c≤1073741824) (h3:bytes≤1024):mkV bytes (.int k l) (.int k' c)=some (l.toNat,c.toNat):=by
 unfold mkV;simp only;rw [R0k ⟨h0,h1,h2,h3⟩]
variable {x y a b c:Opd}
theorem H0z:WS E fl t H (.mv x) K R=K (ev t x) H:=nr rfl
theorem F0g:WS E fl t H (.pick c a b) K R=oo (F0P (ev t c) (ev t a) (ev t b)) fun v=>K v H:=by
 simp only [WS,opA];generalize ev t c=v;generalize ev t a=va;generalize ev t b=vb
 cases v <;> simp [F0P,oo]
 rename_i q;cases q <;> simp
theorem q0l {tag:Nat} {o:BinOp}:WS E fl t H (.bin tag o x y) K R=oo (b0X tag o (ev t x) (ev t y)) fun v=>K v H:=by
 simp only [WS,opA];cases b0X tag o (ev t x) (ev t y) <;> simp [b0b]
theorem N0s {u:UnOp}:WS E fl t H (.un u x) K R=oo (unA u (ev t x)) fun v=>K v H:=by
 simp only [WS,opA];cases unA u (ev t x) <;> simp [b0b]
theorem F0c {k:IntKind}:WS E fl t H (.conv k x) K R=oo (F0t k (ev t x)) fun v=>K v H:=by
 simp only [WS,opA];generalize ev t x=v;cases v <;> simp [F0t]
theorem H0w:WS E fl t H (.len x) K R=oo (d0j (ev t x)) fun v=>K v H:=by
 simp only [WS,opA];generalize ev t x=v;cases v <;> simp [d0j]
theorem H0t:WS E fl t H (.cap x) K R=oo (H0M (ev t x)) fun v=>K v H:=by
 simp only [WS,opA];cases H0M (ev t x) <;> simp [b0b]
theorem F0a {e:TypeId} {bytes:Nat} {z:List Value}:WS E fl t H (.appz e bytes z x y) K R=oo (w0F bytes (ev t x) (ev t y)) fun n=>K (.slice (some ⟨H.size,0,none⟩) n unk) (H.push (.row false e (b0Q z n))):=by
 simp only [WS,opA];cases w0F bytes (ev t x) (ev t y) <;> simp
def H0S (z:Value):Blk→Option Value
 | .emap=>some z
 | _=>none
@[simp] theorem G0N {z:Value}:H0S z .emap=some z:=nr rfl
@[simp] theorem I0X {z:Value} {b:Nat} {k:IntKind} {n:Int}:m0E H z (.map (some b)) (.int k n)=H0S z (H.blk b):=by
 simp only [m0E];cases H.blk b <;> rfl
theorem w0h:WS E fl t H .mkmap K R=K (.map (some H.size)) (H.push .emap):=nr rfl
theorem F0e {z:Value}:WS E fl t H (.look z x y) K R=oo (m0E H z (ev t x) (ev t y)) fun v=>K v H:=by
 simp only [WS,opA];cases m0E H z (ev t x) (ev t y) <;> simp [b0b]
theorem N0p {size:Nat}:WS E fl t H (.ia size x y) K R=oo (iaV size (ev t x) (ev t y)) fun v=>K v H:=by
 simp only [WS,opA,iaV];generalize ev t x=v;generalize ev t y=w
 cases v <;> simp
 rename_i p n c;cases p <;> cases w <;> simp
 rename_i q k j;by_cases hc:0≤j∧j < n <;> simp [hc]
theorem H0u {i:Nat}:WS E fl t H (.ext x i) K R=oo (O0A (ev t x) i) fun v=>K v H:=by
 simp only [WS,opA,O0A];generalize ev t x=v
 cases v <;> simp
 rename_i vs;cases h:vs[i]? <;> simp [b0b]
theorem N0o {off:Nat}:WS E fl t H (.fa off x) K R=oo (faV off (ev t x)) fun v=>K v H:=by
 simp only [WS,opA,faV];generalize ev t x=v
 cases v <;> simp
 rename_i p;cases p <;> simp
 rename_i q;by_cases hc:q.spot.isSome=true <;> simp [hc]
theorem H0v {agg:Bool} {off n:Nat}:WS E fl t H (.fld agg off n x) K R=oo (H0f agg off n (ev t x)) fun v=>K v H:=by
 simp only [WS,opA];cases H0f agg off n (ev t x) <;> simp [b0b]
theorem w0g {ty:TypeId}:WS E fl t H (.iface ty x) K R=K (.iface ty (ev t x)) H:=nr rfl
theorem F0f {f:Fn} {as bs:List Opd}:WS E fl t H (.mkfn f as bs) K R=K (.func f (as.map (ev t)).toArray (bs.map (ev t)).toArray) H:=nr rfl
theorem w0e {z:List Value} {ps:List (Nat × Nat × Opd)}:WS E fl t H (.build z ps) K R=oo (f0x z (b0a t ps)) fun cs=>K (.agg cs.toArray) H:=by
 simp only [WS,opA];cases f0x z (b0a t ps) <;> simp [b0b]
theorem F0d {agg:Bool} {n:Nat}:WS E fl t H (.load agg n x) K R=oo (b0y H agg n (ev t x)) fun v=>K v H:=by
 simp only [WS,opA];cases b0y H agg n (ev t x) <;> simp [b0b]
theorem H0y {big:Bool} {ys:List Opd}:WS E fl t H (.mnx big x ys) K R=oo (m0G big (ev t x) (ys.map (ev t))) fun v=>K v H:=by
 simp only [WS,opA];cases m0G big (ev t x) (ys.map (ev t)) <;> simp [b0b]
theorem N0r {e:TypeId} {size:Nat} {lo hi mx:Option Opd}:WS E fl t H (.sl e size x lo hi mx) K R =
  (elemOk H e (ev t x)=true∧oo (c0D size (ev t x) (lo.map (ev t)) (hi.map (ev t)) (mx.map (ev t))) fun v=>K v H):=by
 simp only [WS,opA]
 cases elemOk H e (ev t x) <;> cases c0D size (ev t x) (lo.map (ev t)) (hi.map (ev t)) (mx.map (ev t)) <;> simp [b0b]
theorem w0d {e:TypeId} {z:List Value}:WS E fl t H (.alloc e z) K R=K (.pointer (some ⟨H.size,0,none⟩)) (H.push (.row false e z)):=nr rfl
theorem H0r {e:TypeId}:WS E fl t H (.box e x) K R=K (.pointer (some ⟨H.size,0,none⟩)) (H.push (.row false e (a0M (ev t x)))):=nr rfl
theorem H0x {e:TypeId} {z:List Value} {n:Nat} {ps:List (Nat × Nat × Opd)}:WS E fl t H (.lit e z n ps) K R =
  oo (f0x (b0Q z n) (b0a t ps)) fun cs=>K (.slice (some ⟨H.size,0,none⟩) n n) (H.push (.row false e cs)):=by
 simp only [WS,opA];cases f0x (b0Q z n) (b0a t ps) <;> simp
theorem N0q {e:TypeId} {bytes:Nat} {z:List Value}:WS E fl t H (.mk e bytes z x y) K R =
  oo (mkV bytes (ev t x) (ev t y)) fun p=>K (.slice (some ⟨H.size,0,none⟩) p.1 p.2) (H.push (.row false e (b0Q z p.1))):=by
 simp only [WS,opA,mkV];generalize ev t x=v;generalize ev t y=w
 cases v <;> cases w <;> simp
 rename_i k l k' c;by_cases hc:0≤l∧l≤c∧c≤1073741824∧bytes≤1024 <;> simp [hc]
theorem w0i {n:Nat}:WS E fl t H (.store n x y) K R=oo (j0l fl H n (ev t x) (ev t y)) fun H'=>K undef H':=by
 simp only [WS,opA,j0l];generalize ev t x=v;generalize ev t y=w
 cases v <;> simp
 rename_i p;cases p <;> simp
 rename_i q;by_cases hc:q.spot.isSome=true ∨ (a0M w).length ≠ n <;> simp [hc]
 cases H.write? fl _ _ (a0M w) <;> simp
theorem H0q {e:TypeId} {size bytes:Nat}:WS E fl t H (.app e size bytes x y) K R=oo (j0u fl H e size bytes (ev t x) (ev t y)) fun p=>K p.1 p.2:=by
 simp only [WS,opA];cases j0u fl H e size bytes (ev t x) (ev t y) <;> simp [e0A]
theorem F0b {f:FuncId} {as:List Opd} {lone:Bool}:WS E fl t H (.call f as lone) K R=a0N E (if lone then fl else max fl H.size) f (as.map (ev t)) H K R:=nr rfl
theorem q0k {Z:a0Q→a0c→Prop}:WR E fl [] t H Z R=Z t H:=nr rfl
theorem m0y {d:Option Nat} {op:SOp} {r:List a0w} {Z:a0Q→a0c→Prop}:WR E fl (⟨d,none,op⟩ :: r) t H Z R=WS E fl t H op (fun v H'=>WR E fl r (put t d v) H' Z R) R:=by
 simp [WR,b0d]
theorem w0c {t t':a0Q} {ops:List a0w} {Z:a0Q→a0c→Prop} (h:t=t'):WR E fl ops t H Z R=WR E fl ops t' H Z R:=by rw [h]
theorem p0i {fl fl':Nat} {f:FuncId} {as as':List Value} (h:as=as') (hf:fl=fl'):a0N E fl f as H K R=a0N E fl' f as' H K R:=by rw [h,hf]
theorem F0h {c:SCode} {Q:c0S}:W E fl c t H Q R=W E fl c t H Q R:=nr rfl
theorem w0f {op:SOp}:WS E fl t H op K R=WS E fl t H op K R:=nr rfl
theorem w0P {α:Type} {o o':Option α} {K:α→Prop} (h:o=o'):oo o K=oo o' K:=by rw [h]
def Ext (H G:a0c):Prop:=H.size≤G.size∧∀ b,b < H.size→G.blk b=H.blk b
theorem Ext.refl (H:a0c):Ext H H:=⟨Q0W _,fun _ _=>rfl⟩
theorem Ext.trans {H1 H2 H3:a0c} (h:Ext H1 H2) (k:Ext H2 H3):Ext H1 H3:=⟨R0z h.1 k.1,fun b hb=>(k.2 b (R0r hb h.1)).trans (h.2 b hb)⟩
theorem f0N.ext (h:f0N H.size H G):Ext H G:=⟨h.size,h.low⟩
theorem a0u {r:Blk}:a0c.blk (H.push r) H.size=r:=by simp [a0y]
theorem c0q {r:Blk} {b:Nat} (h:b < H.size):a0c.blk (H.push r) b=H.blk b:=by rw [a0y,R0c (by omega)]
theorem a0r {r:Blk} {b:Nat} (h:b < H.size):a0c.blk (H.setIfInBounds b r) b=r:=by
 unfold a0c.blk;simp [R0e,S0a,h]
theorem a0L {r:Blk} {b c:Nat} (h:b ≠ c):a0c.blk (H.setIfInBounds b r) c=H.blk c:=by
 unfold a0c.blk;simp [R0e,S0a,h]
theorem Ext.push {r:Blk} (h:Ext H G):Ext H (G.push r):=⟨by have:=h.1;simp;omega,fun b hb=>by rw [c0q (R0r hb h.1)];exact h.2 b hb⟩
theorem Ext.set {r:Blk} {b:Nat} (h:Ext H G) (hb:H.size≤b):Ext H (G.setIfInBounds b r):=⟨by have:=h.1;simpa using this,fun c hc=>by rw [a0L (by omega)];exact h.2 c hc⟩
theorem Ext.blk {b:Nat} {ro:Bool} {e:TypeId} {cs:List Value} (h:Ext H G) (hb:H.blk b=.row ro e cs):G.blk b=.row ro e cs:=by rw [h.2 b (a0k hb)];exact hb
theorem f0m {b off n:Nat} {ro:Bool} {e:TypeId} {cs:List Value} (h:H.blk b=.row ro e cs) (hn:off + n≤cs.length):H.cells? b off n=some ((cs.drop off).take n):=by
 unfold a0c.cells?;rw [h];simp [hn]
end
section
open Go
variable {E:Env} {fl:Nat} {t:a0Q} {H:a0c} {Q:c0S} {R:a0E}
theorem k0o {n m k:Nat} {c:SCode} {o:Out} (hn:n≤m) (hk:k≤m) (h:a0J (a0T E n) fl k c t H=o) (ho:o ≠ .bad):a0J (a0T E m) fl m c t H=o:=by
 rw [a0H (a0A E n m hn) (Q0W fl) k m c t H hk (by rw [h];exact ho),h]
theorem o0f {a b:SCode}:W E fl (.seq a b) t H Q R=W E fl a t H (f0L (fun t' H'=>W E fl b t' H' Q R) Q) R:=by
 refine propext ⟨fun ⟨n,h⟩=>?_,e0c⟩
 cases n with
 | zero=>simp only [a0J] at h;exact R0q h id
 | succ m =>
  simp only [a0J] at h
  cases ha:a0J (a0T E (m+1)) fl m a t H with
  | bad=>rw [ha] at h;exact R0q h id
  | pan v=>rw [ha] at h;exact ⟨m + 1,by rw [k0o (Q0W _) (by omega) ha (by simp)];exact h⟩
  | fin e t' H' =>
   rw [ha] at h
   refine ⟨m + 1,?_⟩
   rw [k0o (Q0W _) (by omega) ha (by simp)]
   cases e with
   | normal=>exact ⟨m + 1,i0A (Q0W _) (by omega) h⟩
   | exit i=>exact h
   | ret=>exact h
theorem F0l:W E fl .skip t H Q R=Q .normal t H:=propext ⟨fun ⟨n,h⟩=>by cases n with | zero=>exact R0q h id | succ m=>exact h,o0d⟩
theorem F0k {i:Nat}:W E fl (.exit i) t H Q R=Q (.exit i) t H:=propext ⟨fun ⟨n,h⟩=>by cases n with | zero=>exact R0q h id | succ m=>exact h,o0c⟩
theorem H0C:W E fl .ret t H Q R=Q .ret t H:=propext ⟨fun ⟨n,h⟩=>by cases n with | zero=>exact R0q h id | succ m=>exact h,N0t⟩
def F0q:Value→Option Bool
 | .bool b=>some b
 | _=>none
@[simp] theorem G0L {b:Bool}:F0q (.bool b)=some b:=nr rfl
theorem F0j {c:Opd} {a b:SCode}:W E fl (.cond c a b) t H Q R=oo (F0q (ev t c)) fun x=>(x=true→W E fl a t H Q R)∧(x=false→W E fl b t H Q R):=by
 refine propext ⟨fun ⟨n,h⟩=>?_,fun ⟨x,hx,ha,hb⟩=>i0p x (by unfold F0q at hx;split at hx <;> simp_all) ha hb⟩
 cases n with
 | zero=>exact R0q h id
 | succ m =>
  simp only [a0J] at h
  split at h
  ·rename_i hc;refine ⟨true,by rw [hc];rfl,fun _=>⟨m + 1,i0A (Q0W _) (by omega) h⟩,by simp⟩
  ·rename_i hc;refine ⟨false,by rw [hc];rfl,by simp,fun _=>⟨m + 1,i0A (Q0W _) (by omega) h⟩⟩
  ·exact R0q h id
theorem w0j {i:Nat} {c:SCode}:W E fl (.block i c) t H Q R=W E fl c t H (d0w i Q) R:=by
 refine propext ⟨fun ⟨n,h⟩=>?_,k0j⟩
 cases n with
 | zero=>exact R0q h id
 | succ m =>
  simp only [a0J] at h
  cases ha:a0J (a0T E (m+1)) fl m c t H with
  | bad=>rw [ha] at h;exact R0q h id
  | pan v=>rw [ha] at h;exact ⟨m + 1,by rw [k0o (Q0W _) (by omega) ha (by simp)];exact h⟩
  | fin e t' H' =>
   rw [ha] at h
   refine ⟨m + 1,?_⟩
   rw [k0o (Q0W _) (by omega) ha (by simp)]
   cases e with
   | normal=>exact h
   | ret=>exact h
   | exit j =>
    simp only at h
    show (if j=i then Q .normal t' H' else Q (.exit j) t' H')
    split at h
    ·rename_i hj;rw [R0k hj];exact h
    ·rename_i hj;rw [R0c hj];exact h
theorem l0z {op:SOp} {K:l0v} {n:Nat} (h:k0L K R (b0V (a0T E n) fl t H op)):WS E fl t H op K R:=by
 unfold WS
 unfold b0V at h
 cases ho:opA fl t H op with
 | bad=>rw [ho] at h;exact R0q h id
 | pan v=>rw [ho] at h;exact h
 | val v H'=>rw [ho] at h;exact h
 | call f as lone=>rw [ho] at h;exact ⟨n,h⟩
theorem i0o {Z:a0Q→a0c→Prop} {n:Nat}:∀ (ops:List a0w) {t:a0Q} {H:a0c},i0T (fun _ t' H'=>Z t' H') R (g0k (a0T E n) fl ops t H)→WR E fl ops t H Z R
 | [],t,H,h=>h
 | o :: r,t,H,h=>by
  simp only [WR]
  simp only [g0k] at h
  split at h
  ·rename_i hw
   rw [R0k hw]
   cases hs:b0V (a0T E n) fl t H o.op with
   | bad=>rw [hs] at h;exact R0q h id
   | pan v=>rw [hs] at h;exact l0z (by rw [hs];exact h)
   | ok x=>rw [hs] at h;exact l0z (n:=n) (by rw [hs];exact i0o r h)
  ·rename_i hw
   rw [R0c hw];exact i0o r h
theorem H0B {ops:List a0w}:W E fl (.reg ops) t H Q R=WR E fl ops t H (fun t' H'=>Q .normal t' H') R:=by
 refine propext ⟨fun ⟨n,h⟩=>?_,i0q⟩
 cases n with
 | zero=>exact R0q h id
 | succ m =>
  simp only [a0J] at h
  refine i0o (n:=m + 1) ops ?_
  cases hr:g0k (a0T E (m+1)) fl ops t H with
  | bad=>rw [hr] at h;exact h
  | pan v=>rw [hr] at h;exact h
  | fin e t' H' =>
   rw [hr] at h
   have he:=(regA_keep' ops t H hr)
   subst he;exact h
where
 regA_keep' {c:v0Z} {fl:Nat}:∀ (ops:List a0w) (t:a0Q) (H:a0c) {e:XA} {t':a0Q} {H':a0c},g0k c fl ops t H=.fin e t' H'→e=.normal
  | [],t,H,e,t',H',h=>by simp only [g0k,Out.fin.injEq] at h;exact h.1.symm
  | o :: r,t,H,e,t',H',h=>by
   simp only [g0k] at h
   split at h
   ·split at h
    ·cases h
    ·cases h
    ·exact regA_keep' r _ _ h
   ·exact regA_keep' r _ _ h
@[simp] theorem d0a {k:a0Q→a0c→Prop}:f0L k Q .normal t H=k t H:=nr rfl
@[simp] theorem H0l {k:a0Q→a0c→Prop} {i:Nat}:f0L k Q (.exit i) t H=Q (.exit i) t H:=nr rfl
@[simp] theorem L0e {k:a0Q→a0c→Prop}:f0L k Q .ret t H=Q .ret t H:=nr rfl
@[simp] theorem w0s {i:Nat}:d0w i Q .normal t H=Q .normal t H:=nr rfl
@[simp] theorem F0o {i j:Nat}:d0w i Q (.exit j) t H=if j=i then Q .normal t H else Q (.exit j) t H:=nr rfl
@[simp] theorem G0K {i:Nat}:d0w i Q .ret t H=Q .ret t H:=nr rfl
end
section
open Go
abbrev o (d:Nat) (x:SOp):a0w:=⟨some d,none,x⟩
abbrev og (d g:Nat) (b:Bool) (x:SOp):a0w:=⟨some d,some (g,b),x⟩
abbrev t (n:Nat):Opd:=.tmp n
abbrev i (n:Int):Opd:=.const (.int .i64 n)
abbrev mV (d s:Nat):a0w:=⟨some d,none,.mv (.tmp s)⟩
abbrev lD (d s:Nat):a0w:=⟨some d,none,.load false 1 (.tmp s)⟩
abbrev lA (d n s:Nat):a0w:=⟨some d,none,.load true n (.tmp s)⟩
abbrev fA (d n s:Nat):a0w:=⟨some d,none,.fa n (.tmp s)⟩
abbrev iA (d n x y:Nat):a0w:=⟨some d,none,.ia n (.tmp x) (.tmp y)⟩
abbrev lN (d s:Nat):a0w:=⟨some d,none,.len (.tmp s)⟩
abbrev cK (d s:Nat):a0w:=⟨some d,none,.chk (.tmp s)⟩
abbrev gT (d g:Nat) (x:SOp):a0w:=⟨some d,some (g,true),x⟩
abbrev gF (d g:Nat) (x:SOp):a0w:=⟨some d,some (g,false),x⟩
abbrev lS (s:Nat):SOp:=.load false 1 (.tmp s)
abbrev aS (n s:Nat):SOp:=.load true n (.tmp s)
abbrev fS (n s:Nat):SOp:=.fa n (.tmp s)
abbrev iS (n x y:Nat):SOp:=.ia n (.tmp x) (.tmp y)
abbrev mS (s:Nat):SOp:=.mv (.tmp s)
abbrev nS (s:Nat):SOp:=.len (.tmp s)
abbrev bT (p:BinOp) (x y:Nat):SOp:=.bin 0 p (.tmp x) (.tmp y)
abbrev bI (p:BinOp) (x:Nat) (y:Int):SOp:=.bin 0 p (.tmp x) (.const (.int .i64 y))
abbrev pF (d x y:Nat):a0w:=⟨some d,none,.pick (.tmp x) (.tmp y) (.const (.bool false))⟩
abbrev pT (d x y:Nat):a0w:=⟨some d,none,.pick (.tmp x) (.const (.bool true)) (.tmp y)⟩
abbrev eX (d s k:Nat):a0w:=⟨some d,none,.ext (.tmp s) k⟩
abbrev bX (d e s:Nat):a0w:=⟨some d,none,.box e (.tmp s)⟩
abbrev cA (d f:Nat) (l:List Opd):a0w:=⟨some d,none,.call f l true⟩
abbrev cB (d f:Nat) (l:List Opd):a0w:=⟨some d,none,.call f l false⟩
abbrev cV (d:Nat) (k:IntKind) (s:Nat):a0w:=⟨some d,none,.conv k (.tmp s)⟩
abbrev mI (d:Nat) (n:Int):a0w:=⟨some d,none,.mv (.const (.int .i64 n))⟩
abbrev mB (d:Nat) (b:Bool):a0w:=⟨some d,none,.mv (.const (.bool b))⟩
abbrev mN (d:Nat):a0w:=⟨some d,none,.mv (.const (.slice none 0 0))⟩
abbrev nT (d s:Nat):a0w:=⟨some d,none,.un .not (.tmp s)⟩
abbrev sT (n x y:Nat):a0w:=⟨none,none,.store n (.tmp x) (.tmp y)⟩
abbrev zI:List Value:=[.bool false,.slice none 0 0]
abbrev zR:List Value:=[.bool false,.slice none 0 0,.bool false,.slice none 0 0]
abbrev zE:List Value:=[.int .i64 0,.bool false,.slice none 0 0,.bool false,.slice none 0 0]
abbrev zL:List Value:=[.int .i64 0,.slice none 0 0,.slice none 0 0,.slice none 0 0]
abbrev zA:List Value:=[.int .i64 0,.bool false,.slice none 0 0,.bool false,.slice none 0 0,.slice none 0 0,.slice none 0 0,.slice none 0 0]
attribute [simp] zI zR zE zL zA
abbrev SS:Type:=List a0w
abbrev SF:Type:=q0b
abbrev gR:List a0w→SCode:=.reg
abbrev qS:SCode→SCode→SCode:=.seq
abbrev f_3:Nat:=3
abbrev f_4:Nat:=4
abbrev f_5:Nat:=5
abbrev f_6:Nat:=6
abbrev f_7:Nat:=7
abbrev f_8:Nat:=8
abbrev f_9:Nat:=9
abbrev H0T:Nat:=10
abbrev G0P:Nat:=11
abbrev H0U:Nat:=12
abbrev F0x:Nat:=13
abbrev G0Q:Nat:=14
abbrev F0y:Nat:=15
abbrev G0R:Nat:=16
abbrev G0S:Nat:=17
abbrev H0V:Nat:=18
abbrev H0W:Nat:=19
abbrev H0X:Nat:=20
abbrev G0T:Nat:=21
abbrev H0Y:Nat:=22
abbrev H0Z:Nat:=23
abbrev I0a:Nat:=24
abbrev I0b:Nat:=25
abbrev G0U:Nat:=26
abbrev I0c:Nat:=27
abbrev I0d:Nat:=28
abbrev I0e:Nat:=29
abbrev I0f:Nat:=30
abbrev I0g:Nat:=31
abbrev G0V:Nat:=32
abbrev I0h:Nat:=33
abbrev I0i:Nat:=34
abbrev F0z:Nat:=35
abbrev I0j:Nat:=36
abbrev G0W:Nat:=37
abbrev I0k:Nat:=38
abbrev I0l:Nat:=39
abbrev I0m:Nat:=40
abbrev F0A:Nat:=41
abbrev F0B:Nat:=42
abbrev F0C:Nat:=43
abbrev F0D:Nat:=44
abbrev I0n:Nat:=45
abbrev I0o:Nat:=46
abbrev I0p:Nat:=47
abbrev I0q:Nat:=48
abbrev F0E:Nat:=49
abbrev F0F:Nat:=50
abbrev I0r:Nat:=51
abbrev I0s:Nat:=52
abbrev I0t:Nat:=53
abbrev x0U:Nat:=54
abbrev x0V:Nat:=55
abbrev w0z:Nat:=56
abbrev F0G:Nat:=57
abbrev I0u:Nat:=58
abbrev G0X:Nat:=59
abbrev I0v:Nat:=60
abbrev O0B:Nat:=61
abbrev O0C:Nat:=62
abbrev Q0K:Nat:=63
abbrev Q0L:Nat:=64
abbrev v0X:Nat:=65
abbrev I0w:Nat:=66
abbrev I0x:Nat:=67
abbrev v0Y:Nat:=68
abbrev I0y:Nat:=69
abbrev I0z:Nat:=70
abbrev G0Y:Nat:=71
abbrev G0Z:Nat:=72
abbrev H0a:Nat:=73
abbrev H0b:Nat:=74
abbrev I0A:Nat:=75
abbrev I0B:Nat:=76
abbrev w0A:Nat:=77
abbrev H0c:Nat:=78
abbrev I0C:Nat:=79
abbrev I0D:Nat:=80
abbrev I0E:Nat:=81
abbrev I0F:Nat:=82
abbrev w0B:Nat:=83
abbrev h0X:Nat:=84
abbrev x0W:Nat:=85
abbrev l0s:Nat:=86
abbrev k0p:Nat:=87
abbrev l0t:Nat:=88
abbrev p0w:Nat:=89
abbrev H0d:Nat:=90
abbrev I0G:Nat:=91
abbrev H0e:Nat:=92
abbrev I0H:Nat:=96
abbrev I0I:Nat:=97
abbrev F0H:Nat:=98
abbrev I0J:Nat:=99
abbrev i0C:Nat:=100
abbrev q0v:Nat:=101
abbrev q0w:Nat:=102
abbrev q0x:Nat:=103
abbrev p0u:Nat:=104
abbrev q0y:Nat:=105
abbrev q0z:Nat:=106
abbrev q0A:Nat:=107
abbrev i0D:Nat:=108
abbrev q0B:Nat:=109
abbrev q0C:Nat:=110
abbrev q0D:Nat:=111
abbrev q0E:Nat:=121
abbrev q0F:Nat:=122
abbrev m0C:Nat:=123
abbrev q0G:Nat:=124
abbrev l0J:Nat:=125
abbrev q0H:Nat:=126
abbrev q0I:Nat:=127
abbrev q0J:Nat:=128
abbrev p0v:Nat:=137
abbrev q0K:Nat:=138
abbrev q0L:Nat:=139
abbrev q0M:Nat:=140
abbrev q0N:Nat:=141
abbrev h0b:Nat:=3
abbrev w0b:Nat:=9
abbrev b0f:Nat:=27
abbrev a0i:Nat:=30
abbrev b0v:Nat:=36
abbrev a0a:Nat:=44
abbrev a0h:Nat:=46
abbrev a0x:Nat:=48
abbrev b0Y:Nat:=52
abbrev g0Z:Nat:=55
abbrev b0m:Nat:=56
abbrev l0y:Nat:=60
abbrev i0n:Nat:=78
abbrev b0s:Nat:=106
abbrev a0b:Nat:=112
def J0r:SS:=[bX 3 b0f 0,bX 4 a0i 1,mB 6 false]
def J0s:SS:=[lA 11 4 3,cA 12 f_4 [t 11],mV 13 12,gF 14 13 (fS 0 4),gF 15 13 (lS 14),gF 16 13 (.call f_5 [t 15] true),pT 17 13 16,mV 18 17,gF 19 18 (mS 2),gF 20 18 (nS 19),gF 21 18 (bI .gtr 20 60),pT 22 18 21]
def w0V:SS:=[cA 23 f_6 [],mV 6 23]
def J0w:SS:=[mI 7 0]
def J0x:SS:=[mV 24 7,mV 25 2,lN 26 25,o 27 (bT .lss 24 26)]
def J0y:SS:=[mV 30 2,mV 31 7,iA 32 1 30 31,lD 33 32,cA 34 f_7 [t 33]]
def G0c:SS:=[cA 35 f_6 [],mV 6 35]
def J0z:SS:=[mV 28 7,o 29 (bI .add 28 1),mV 7 29]
def J0A:SS:=[lA 36 4 3,lA 37 1 4,mV 38 2,cB 39 f_8 [t 36,t 37,t 38],lA 40 4 3,lA 41 1 4,mV 42 2,cA 43 f_9 [t 40,t 41,t 42],o 44 (.bin 1 .neq (t 39) (t 43)),mV 45 44,gF 46 45 (aS 1 4),gF 47 45 (.call G0P [t 46] false),gF 48 45 (aS 1 4),gF 49 45 (.call H0U [t 48] true),gF 50 45 (.call H0T [t 47,t 49] true),gF 51 45 (.un .not (t 50)),pT 52 45 51]
def O0M:SS:=[mB 6 false]
def A0K:SS:=[lA 53 4 3,lA 54 1 4,cA 55 F0x [t 53,t 54],mV 8 55]
def A0L:SS:=[mV 56 8,lN 57 56,fA 58 0 3,lD 59 58,lN 60 59,o 61 (bT .neq 57 60)]
def J0t:SS:=[mB 6 false]
def A0M:SS:=[mI 9 0]
def A0N:SS:=[mV 62 9,mV 63 8,lN 64 63,o 65 (bT .lss 62 64)]
def A0O:SS:=[mV 68 8,mV 69 9,iA 70 1 68 69,lD 71 70,lN 72 71,fA 73 0 4,lD 74 73,lN 75 74,o 76 (bT .neq 72 75)]
def J0u:SS:=[mB 6 false]
def A0P:SS:=[mI 10 0]
def A0Q:SS:=[mV 77 10,mV 78 8,mV 79 9,iA 80 1 78 79,lD 81 80,lN 82 81,o 83 (bT .lss 77 82)]
def A0R:SS:=[mV 86 8,mV 87 9,iA 88 1 86 87,lD 89 88,mV 90 10,iA 91 5 89 90,lA 92 5 91,o 93 (.build zE [(0,1,(.const (.int .i64 (-1))))]),cA 94 G0Q [t 92,t 93],nT 95 94]
def J0v:SS:=[mB 6 false]
def A0S:SS:=[mV 84 10,o 85 (bI .add 84 1),mV 10 85]
def A0T:SS:=[mV 66 9,o 67 (bI .add 66 1),mV 9 67]
def A0U:SS:=[cA 96 f_6 [],mV 6 96]
def s_3:SF:=⟨3,97,[.tmp 6],
 (qS (gR J0r) (qS (qS (gR J0s) (.cond (t 22) (qS (gR w0V) .ret) .skip)) (qS (qS (gR J0w) (.block 0 (.loop (qS (qS (gR J0x) (.cond (t 27) .skip (.exit 0))) (qS (.block 1 (qS (gR J0y) (.cond (t 34) (qS (gR G0c) .ret) .skip))) (gR J0z)))))) (qS (qS (.draw J0A [0,0,0,7,0,0,0,127,255,511,1023,2047,1023,8191,16383,32767,65535] []) (.cond (t 52) (qS (gR O0M) .ret) .skip)) (qS (gR A0K) (qS (qS (gR A0L) (.cond (t 61) (qS (gR J0t) .ret) .skip)) (qS (qS (gR A0M) (.block 2 (.loop (qS (qS (gR A0N) (.cond (t 65) .skip (.exit 2))) (qS (.block 3 (qS (qS (.draw A0O [0,0,3,7,15,0,32,96,255] []) (.cond (t 76) (qS (gR J0u) .ret) .skip)) (qS (gR A0P) (.block 4 (.loop (qS (qS (gR A0Q) (.cond (t 83) .skip (.exit 4))) (qS (.block 5 (qS (gR A0R) (.cond (t 95) (qS (gR J0v) .ret) .skip))) (gR A0S)))))))) (gR A0T)))))) (qS (gR A0U) .ret))))))))⟩
def J0I:SS:=[bX 1 b0f 0,mB 2 false]
def p0M:SS:=[fA 5 0 1,lD 6 5,lN 7 6,o 8 (bI .gtr 7 60),mV 9 8,gF 10 9 (fS 1 1),gF 11 9 (lS 10),gF 12 9 (nS 11),gF 13 9 (bI .gtr 12 10),pT 14 9 13,mV 15 14,gF 16 15 (fS 2 1),gF 17 15 (lS 16),gF 18 15 (nS 17),gF 19 15 (bI .gtr 18 300),pT 20 15 19,mV 21 20,gF 22 21 (fS 3 1),gF 23 21 (lS 22),gF 24 21 (nS 23),gF 25 21 (bI .gtr 24 300),pT 26 21 25]
def u0U:SS:=[mB 2 true]
def J0J:SS:=[mI 3 0]
def J0K:SS:=[mV 27 3,fA 28 2 1,lD 29 28,lN 30 29,o 31 (bT .lss 27 30)]
def w0W:SS:=[fA 34 2 1,lD 35 34,mV 36 3,iA 37 6 35 36,fA 38 3 37,lD 39 38,lN 40 39,o 41 (bI .gtr 40 100),mV 42 41,gF 43 42 (fS 2 1),gF 44 42 (lS 43),gF 45 42 (mS 3),gF 46 42 (iS 6 44 45),gF 47 42 (fS 4 46),gF 48 42 (lS 47),gF 49 42 (nS 48),gF 50 42 (bI .gtr 49 20),pT 51 42 50,mV 52 51,gF 53 52 (fS 2 1),gF 54 52 (lS 53),gF 55 52 (mS 3),gF 56 52 (iS 6 54 55),gF 57 52 (fS 3 56),gF 58 52 (lS 57),gF 59 52 (.call F0y [t 58] true),pT 60 52 59,mV 61 60,gF 62 61 (fS 2 1),gF 63 61 (lS 62),gF 64 61 (mS 3),gF 65 61 (iS 6 63 64),gF 66 61 (fS 4 65),gF 67 61 (lS 66),gF 68 61 (.call F0y [t 67] true),pT 69 61 68]
def u0V:SS:=[mB 2 true]
def J0L:SS:=[mV 32 3,o 33 (bI .add 32 1),mV 3 33]
def J0M:SS:=[mI 4 0]
def J0N:SS:=[mV 70 4,fA 71 3 1,lD 72 71,lN 73 72,o 74 (bT .lss 70 73)]
def u0S:SS:=[fA 77 3 1,lD 78 77,mV 79 4,iA 80 4 78 79,fA 81 3 80,lD 82 81,lN 83 82,o 84 (bI .gtr 83 100),mV 85 84,gF 86 85 (fS 3 1),gF 87 85 (lS 86),gF 88 85 (mS 4),gF 89 85 (iS 4 87 88),gF 90 85 (fS 3 89),gF 91 85 (lS 90),gF 92 85 (.call F0y [t 91] true),pT 93 85 92]
def u0T:SS:=[mB 2 true]
def B0C:SS:=[mV 75 4,o 76 (bI .add 75 1),mV 4 76]
def B0D:SS:=[mB 2 false]
def s_4:SF:=⟨1,94,[.tmp 2],
 (qS (gR J0I) (qS (qS (gR p0M) (.cond (t 26) (qS (gR u0U) .ret) .skip)) (qS (qS (gR J0J) (.block 0 (.loop (qS (qS (gR J0K) (.cond (t 31) .skip (.exit 0))) (qS (.block 1 (qS (gR w0W) (.cond (t 69) (qS (gR u0V) .ret) .skip))) (gR J0L)))))) (qS (qS (gR J0M) (.block 2 (.loop (qS (qS (gR J0N) (.cond (t 74) .skip (.exit 2))) (qS (.block 3 (qS (gR u0S) (.cond (t 93) (qS (gR u0T) .ret) .skip))) (gR B0C)))))) (qS (gR B0D) .ret)))))⟩
def J0Q:SS:=[mB 2 false]
def J0R:SS:=[mI 3 0]
def J0S:SS:=[mI 4 0]
def w0X:SS:=[mV 5 4,mV 6 0,lN 7 6,o 8 (bT .lss 5 7),mV 9 8,gT 10 9 (mS 3),gT 11 9 (bI .leq 10 200),pF 12 9 11]
def J0T:SS:=[mV 15 3,o 16 (bI .add 15 1),mV 17 0,mV 18 4,iA 19 1 17 18,lD 20 19,lN 21 20,o 22 (.mnx false (t 21) [i 201]),o 23 (bT .add 16 22),mV 3 23]
def G0h:SS:=[mV 24 0,mV 25 4,iA 26 1 24 25,lD 27 26,lN 28 27,o 29 (bI .leq 28 200),mV 30 29,gT 31 30 (mS 0),gT 32 30 (mS 4),gT 33 30 (iS 1 31 32),gT 34 30 (lS 33),gT 35 30 (.call G0R [t 34] true),pF 36 30 35]
def J0U:SS:=[mB 2 true]
def G0i:SS:=[mV 13 4,o 14 (bI .add 13 1),mV 4 14]
def G0j:SS:=[mV 37 3,o 38 (bI .gtr 37 200),mV 2 38]
def s_5:SF:=⟨1,39,[.tmp 2],
 (qS (gR J0Q) (qS (gR J0R) (qS (qS (gR J0S) (.block 0 (.loop (qS (qS (gR w0X) (.cond (t 12) .skip (.exit 0))) (qS (.block 1 (qS (gR J0T) (qS (gR G0h) (.cond (t 36) (qS (gR J0U) .ret) .skip)))) (gR G0i)))))) (qS (gR G0j) .ret))))⟩
def K0l:SS:=[mB 0 false]
def K0m:SS:=[o 5 (.build [.slice none 0 0,.int .i64 0] []),o 6 (.lit l0y [.slice none 0 0,.int .i64 0] 1 [(0,2,t 5)]),o 7 (.lit w0b [(.string ⟨#[]⟩)] 1 [(0,1,(.const (.string ⟨#[120]⟩)))]),o 8 (.build [.slice none 0 0,.slice none 0 0,.slice none 0 0,.slice none 0 0] [(0,1,t 6),(1,1,t 7)]),o 1 (.alloc b0f [.slice none 0 0,.slice none 0 0,.slice none 0 0,.slice none 0 0]),sT 4 1 8]
def K0n:SS:=[cA 9 G0S [i 1],o 2 (.alloc a0i [.slice none 0 0]),sT 1 2 9]
def K0o:SS:=[lA 11 4 1,lA 12 1 2,lA 13 4 1,lA 14 1 2,cB 15 F0x [t 13,t 14],cA 16 H0V [t 11,t 12,t 15],mV 10 16,eX 17 10 0,eX 18 10 1,mV 3 17,mV 4 18]
def K0p:SS:=[mV 19 4,cA 20 H0W [t 19],o 21 (bI .eql 20 0),mV 22 21,gT 23 22 (mS 3),gT 24 22 (nS 23),gT 25 22 (bI .eql 24 1),pF 26 22 25,mV 27 26,gT 28 27 (mS 3),gT 29 27 (.ia 1 (t 28) (i 0)),gT 30 27 (lS 29),gT 31 27 (nS 30),gT 32 27 (bI .eql 31 2),pF 33 27 32,mV 34 33,gT 35 34 (mS 3),gT 36 34 (.ia 1 (t 35) (i 0)),gT 37 34 (lS 36),gT 38 34 (.ia 5 (t 37) (i 0)),gT 39 34 (fS 0 38),gT 40 34 (lS 39),gT 41 34 (bI .eql 40 1),pF 42 34 41,mV 43 42,gT 44 43 (mS 3),gT 45 43 (.ia 1 (t 44) (i 0)),gT 46 43 (lS 45),gT 47 43 (.ia 5 (t 46) (i 1)),gT 48 43 (fS 0 47),gT 49 43 (lS 48),gT 50 43 (bI .eql 49 1),pF 51 43 50,mV 0 51]
def s_6:SF:=⟨0,52,[.tmp 0],
 (qS (gR K0l) (qS (gR K0m) (qS (gR K0n) (qS (.draw K0o [0,0,0,0,12,31,63,127,127,255,1023] []) (qS (gR K0p) .ret)))))⟩
def G0m:SS:=[mB 2 false]
def G0n:SS:=[mV 4 0,lN 5 4,o 6 (bI .gtr 5 100)]
def K0s:SS:=[mB 2 true]
def K0t:SS:=[mI 3 0]
def K0u:SS:=[mV 7 3,mV 8 0,lN 9 8,o 10 (bT .lss 7 9)]
def K0v:SS:=[mV 13 0,mV 14 3,iA 15 5 13 14,fA 16 1 15,lA 17 4 16,o 18 (.lit a0h zR 1 [(0,4,t 17)]),cA 19 G0R [t 18]]
def K0w:SS:=[mB 2 true]
def K0x:SS:=[mV 11 3,o 12 (bI .add 11 1),mV 3 12]
def K0y:SS:=[mB 2 false]
def s_7:SF:=⟨1,20,[.tmp 2],
 (qS (gR G0m) (qS (qS (gR G0n) (.cond (t 6) (qS (gR K0s) .ret) .skip)) (qS (qS (gR K0t) (.block 0 (.loop (qS (qS (gR K0u) (.cond (t 10) .skip (.exit 0))) (qS (.block 1 (qS (gR K0v) (.cond (t 19) (qS (gR K0w) .ret) .skip))) (gR K0x)))))) (qS (gR K0y) .ret))))⟩
def K0z:SS:=[bX 3 b0f 0,bX 4 a0i 1,mB 6 false]
def K0A:SS:=[fA 8 1 3,lD 9 8,lN 10 9,o 7 (.alloc h0b [.int .i64 0]),sT 1 7 10]
def K0B:SS:=[lA 11 4 3,cA 12 H0X [t 11],mV 13 12,gT 14 13 (aS 1 4),gT 15 13 (lS 7),gT 16 13 (.call G0T [t 14,t 15] true),pF 17 13 16,mV 18 17,gT 19 18 (mS 2),gT 20 18 (nS 19),gT 21 18 (fS 0 3),gT 22 18 (lS 21),gT 23 18 (nS 22),gT 24 18 (bT .eql 20 23),pF 25 18 24,mV 26 25,gT 27 26 (mS 2),gT 28 26 (.mkfn (.func H0Z) [] [t 4,t 7]),gT 29 26 (.call H0Y [t 27,t 28] true),gT 30 26 (.un .not (t 29)),pF 31 26 30,mV 6 31]
def s_8:SF:=⟨3,32,[.tmp 6],
 (qS (gR K0z) (qS (gR K0A) (qS (gR K0B) .ret)))⟩
def K0H:SS:=[bX 3 b0f 0,bX 4 a0i 1,mB 6 false]
def K0I:SS:=[lA 8 4 3,cA 9 I0b [t 8],nT 10 9,mV 11 10,gF 12 11 (mS 2),gF 13 11 (nS 12),gF 14 11 (fS 0 3),gF 15 11 (lS 14),gF 16 11 (nS 15),gF 17 11 (bT .neq 13 16),pT 18 11 17,mV 19 18,gF 20 19 (aS 1 4),gF 21 19 (fS 1 3),gF 22 19 (lS 21),gF 23 19 (nS 22),gF 24 19 (.call G0U [t 20,t 23] true),gF 25 19 (.un .not (t 24)),pT 26 19 25]
def w0Y:SS:=[mB 6 false]
def K0J:SS:=[mI 7 0]
def K0K:SS:=[mV 27 7,mV 28 2,lN 29 28,o 30 (bT .lss 27 29)]
def K0L:SS:=[lA 33 1 4,fA 34 1 3,lD 35 34,lN 36 35,mV 37 2,mV 38 7,iA 39 1 37 38,lD 40 39,cA 41 I0c [t 33,t 36,t 40],nT 42 41]
def K0M:SS:=[mB 6 false]
def K0N:SS:=[mV 31 7,o 32 (bI .add 31 1),mV 7 32]
def K0O:SS:=[mB 6 true]
def s_9:SF:=⟨3,43,[.tmp 6],
 (qS (gR K0H) (qS (qS (gR K0I) (.cond (t 26) (qS (gR w0Y) .ret) .skip)) (qS (qS (gR K0J) (.block 0 (.loop (qS (qS (gR K0K) (.cond (t 30) .skip (.exit 0))) (qS (.block 1 (qS (.draw K0L [0,0,2,6,0,0,48,112,255,511] []) (.cond (t 42) (qS (gR K0M) .ret) .skip))) (gR K0N)))))) (qS (gR K0O) .ret))))⟩
def s0B:SS:=[mB 4 false]
def s0C:SS:=[mV 6 0,lN 7 6,mV 8 1,lN 9 8,o 10 (bT .neq 7 9)]
def y0e:SS:=[mB 4 false]
def y0f:SS:=[mI 5 0]
def y0g:SS:=[mV 11 5,mV 12 0,lN 13 12,o 14 (bT .lss 11 13)]
def y0h:SS:=[mV 17 0,mV 18 5,iA 19 5 17 18,lA 20 5 19,mV 21 1,mV 22 5,iA 23 5 21 22,lA 24 5 23,cA 25 G0Q [t 20,t 24],nT 26 25]
def y0i:SS:=[mB 4 false]
def y0j:SS:=[mV 15 5,o 16 (bI .add 15 1),mV 5 16]
def y0k:SS:=[mB 4 true]
def K0S:SF:=⟨2,27,[.tmp 4],
 (qS (gR s0B) (qS (qS (gR s0C) (.cond (t 10) (qS (gR y0e) .ret) .skip)) (qS (qS (gR y0f) (.block 0 (.loop (qS (qS (gR y0g) (.cond (t 14) .skip (.exit 0))) (qS (.block 1 (qS (.draw y0h [0,0,3,7,0,0,48,112,255,511] []) (.cond (t 26) (qS (gR y0i) .ret) .skip))) (gR y0j)))))) (qS (gR y0k) .ret))))⟩
def y0l:SS:=[bX 1 a0i 0,mN 2]
def y0m:SS:=[mN 3]
def y0n:SS:=[fA 7 0 1,lD 8 7,lN 9 8,mI 10 0]
def J0i:SS:=[o 11 (bT .lss 10 9)]
def y0o:SS:=[iA 12 1 8 10,lD 13 12,mV 5 13]
def y0p:SS:=[o 14 (.build zR []),cA 15 I0d [t 14],o 6 (.alloc a0x zE),sT 5 6 15]
def y0q:SS:=[mV 16 5,o 17 (.call I0e [t 16,.fn I0f] true)]
def y0r:SS:=[o 18 (.build zE [(0,1,i 1)]),sT 5 6 18]
def s0Q:SS:=[mV 19 3,lA 20 5 6,o 21 (.lit a0x zE 1 [(0,5,t 20)]),o 22 (.app a0x 5 72 (t 19) (t 21)),mV 3 22]
def J0j:SS:=[o 23 (bI .add 10 1),mV 10 23]
def s0P:SS:=[mV 24 3,mV 2 24]
def L0H:SF:=⟨1,25,[.tmp 2],
 (qS (gR y0l) (qS (gR y0m) (qS (qS (gR y0n) (.block 0 (.loop (qS (gR J0i) (qS (.cond (t 11) .skip (.exit 0)) (qS (.block 1 (qS (gR y0o) (qS (gR y0p) (qS (qS (gR y0q) (.cond (t 17) (gR y0r) .skip)) (gR s0Q))))) (gR J0j))))))) (qS (gR s0P) .ret))))⟩
def y0s:SS:=[bX 1 a0i 0,mN 2]
def y0t:SS:=[mN 3]
def y0u:SS:=[mI 4 0]
def y0v:SS:=[mV 7 4,fA 8 0 1,lD 9 8,lN 10 9,o 11 (bT .lss 7 10)]
def y0w:SS:=[cA 14 G0V [i 0],o 15 (.build zE [(1,4,t 14)]),o 5 (.alloc a0x zE),sT 5 5 15]
def y0x:SS:=[mI 6 0]
def y0y:SS:=[mV 16 6,fA 17 0 1,lD 18 17,mV 19 4,iA 20 1 18 19,lD 21 20,lN 22 21,o 23 (bT .lss 16 22)]
def y0z:SS:=[fA 26 0 1,lD 27 26,mV 28 4,iA 29 1 27 28,lD 30 29,mV 31 6,iA 32 4 30 31,lA 33 4 32,cA 34 I0h [t 33],o 35 (bI .neq 34 0)]
def y0A:SS:=[o 36 (.build zE [(0,1,i 1)]),sT 5 5 36]
def t0N:SS:=[mV 24 6,o 25 (bI .add 24 1),mV 6 25]
def t0K:SS:=[mV 37 3,lA 38 5 5,o 39 (.lit a0x zE 1 [(0,5,t 38)]),o 40 (.app a0x 5 72 (t 37) (t 39)),mV 3 40]
def t0L:SS:=[mV 12 4,o 13 (bI .add 12 1),mV 4 13]
def t0M:SS:=[mV 41 3,mV 2 41]
def L0I:SF:=⟨1,42,[.tmp 2],
 (qS (gR y0s) (qS (gR y0t) (qS (qS (gR y0u) (.block 0 (.loop (qS (qS (gR y0v) (.cond (t 11) .skip (.exit 0))) (qS (.block 1 (qS (gR y0w) (qS (qS (gR y0x) (.block 2 (.loop (qS (qS (gR y0y) (.cond (t 23) .skip (.exit 2))) (qS (.block 3 (qS (gR y0z) (.cond (t 35) (gR y0A) .skip))) (gR t0N)))))) (gR t0K)))) (gR t0L)))))) (qS (gR t0M) .ret))))⟩
def y0B:SS:=[bX 2 b0f 0,bX 3 a0i 1,mN 4]
def y0C:SS:=[fA 8 0 2,lD 9 8,lN 10 9,o 11 (.mk b0v 24 [.slice none 0 0] (t 10) (t 10)),mV 5 11]
def y0D:SS:=[mV 12 5,lN 13 12,mI 14 0]
def J0k:SS:=[o 15 (bT .lss 14 13)]
def y0E:SS:=[mV 16 14,mV 6 16]
def y0F:SS:=[mV 17 5,mV 18 6,fA 19 0 3,lD 20 19,lN 21 20,o 22 (.mk a0x 72 zE (t 21) (t 21)),iA 23 1 17 18,sT 1 23 22]
def y0G:SS:=[mV 24 5,mV 25 6,iA 26 1 24 25,lD 27 26,lN 28 27,mI 29 0]
def J0l:SS:=[o 30 (bT .lss 29 28)]
def y0H:SS:=[mV 31 29,mV 7 31]
def y0I:SS:=[mV 32 5,mV 33 6,iA 34 1 32 33,lD 35 34,mV 36 7,o 37 (.build zE [(0,1,(.const (.int .i64 (-1))))]),iA 38 5 35 36,sT 5 38 37]
def F0T:SS:=[o 39 (bI .add 29 1),mV 29 39]
def F0U:SS:=[o 40 (bI .add 14 1),mV 14 40]
def u0c:SS:=[mV 41 5,mV 4 41]
def L0J:SF:=⟨2,42,[.tmp 4],
 (qS (gR y0B) (qS (gR y0C) (qS (qS (gR y0D) (.block 0 (.loop (qS (gR J0k) (qS (.cond (t 15) .skip (.exit 0)) (qS (.block 1 (qS (gR y0E) (qS (gR y0F) (qS (gR y0G) (.block 2 (.loop (qS (gR J0l) (qS (.cond (t 30) .skip (.exit 2)) (qS (.block 3 (qS (gR y0H) (gR y0I))) (gR F0T)))))))))) (gR F0U))))))) (qS (gR u0c) .ret))))⟩
def y0J:SS:=[bX 2 a0x 0,bX 3 a0x 1,mB 4 false]
def y0K:SS:=[fA 5 0 2,lD 6 5,fA 7 0 3,lD 8 7,o 9 (bT .eql 6 8),mV 10 9,gT 11 10 (fS 1 2),gT 12 10 (aS 4 11),gT 13 10 (fS 1 3),gT 14 10 (aS 4 13),gT 15 10 (.call I0i [t 12,t 14] true),pF 16 10 15,mV 4 16]
def L0K:SF:=⟨2,17,[.tmp 4],
 (qS (gR y0J) (qS (gR y0K) .ret))⟩
def y0L:SS:=[mB 2 false]
def y0M:SS:=[mI 3 0]
def y0N:SS:=[mV 4 3,mV 5 0,lN 6 5,o 7 (bT .lss 4 6)]
def o0T:SS:=[mV 10 0,mV 11 3,iA 12 4 10 11,fA 13 0 12,lD 14 13,lN 15 14,o 16 (bI .gtr 15 60),mV 17 16,gF 18 17 (mS 0),gF 19 17 (mS 3),gF 20 17 (iS 4 18 19),gF 21 17 (fS 1 20),gF 22 17 (lS 21),gF 23 17 (nS 22),gF 24 17 (bI .gtr 23 60),pT 25 17 24,mV 26 25,gF 27 26 (mS 0),gF 28 26 (mS 3),gF 29 26 (iS 4 27 28),gF 30 26 (fS 2 29),gF 31 26 (aS 2 30),gF 32 26 (.lit a0a zI 1 [(0,2,t 31)]),gF 33 26 (.call F0z [t 32] true),pT 34 26 33,mV 35 34,gF 36 35 (mS 0),gF 37 35 (mS 3),gF 38 35 (iS 4 36 37),gF 39 35 (fS 0 38),gF 40 35 (lS 39),gF 41 35 (.call F0z [t 40] true),pT 42 35 41,mV 43 42,gF 44 43 (mS 0),gF 45 43 (mS 3),gF 46 43 (iS 4 44 45),gF 47 43 (fS 1 46),gF 48 43 (lS 47),gF 49 43 (.call F0z [t 48] true),pT 50 43 49]
def j0Y:SS:=[mB 2 true]
def y0O:SS:=[mV 8 3,o 9 (bI .add 8 1),mV 3 9]
def y0P:SS:=[mB 2 false]
def L0L:SF:=⟨1,51,[.tmp 2],
 (qS (gR y0L) (qS (qS (gR y0M) (.block 0 (.loop (qS (qS (gR y0N) (.cond (t 7) .skip (.exit 0))) (qS (.block 1 (qS (gR o0T) (.cond (t 50) (qS (gR j0Y) .ret) .skip))) (gR y0O)))))) (qS (gR y0P) .ret)))⟩
def y0Q:SS:=[mB 2 false]
def y0R:SS:=[mI 3 0]
def y0S:SS:=[mV 4 3,mV 5 0,lN 6 5,o 7 (bT .lss 4 6)]
def o0U:SS:=[mV 10 0,mV 11 3,iA 12 4 10 11,fA 13 0 12,fA 14 1 13,lD 15 14,lN 16 15,o 17 (bI .gtr 16 6),mV 18 17,gF 19 18 (mS 0),gF 20 18 (mS 3),gF 21 18 (iS 4 19 20),gF 22 18 (fS 2 21),gF 23 18 (fS 1 22),gF 24 18 (lS 23),gF 25 18 (nS 24),gF 26 18 (bI .gtr 25 6),pT 27 18 26]
def u0k:SS:=[mB 2 true]
def y0T:SS:=[mV 8 3,o 9 (bI .add 8 1),mV 3 9]
def y0U:SS:=[mB 2 false]
def L0M:SF:=⟨1,28,[.tmp 2],
 (qS (gR y0Q) (qS (qS (gR y0R) (.block 0 (.loop (qS (qS (gR y0S) (.cond (t 7) .skip (.exit 0))) (qS (.block 1 (qS (gR o0U) (.cond (t 27) (qS (gR u0k) .ret) .skip))) (gR y0T)))))) (qS (gR y0U) .ret)))⟩
def y0V:SS:=[o 2 (.alloc a0i [.slice none 0 0])]
def y0W:SS:=[mV 5 0,cA 6 I0j [t 5],mV 0 6]
def y0X:SS:=[mN 3]
def y0Y:SS:=[mI 4 0]
def y0Z:SS:=[mV 7 4,mV 8 0,o 9 (bT .lss 7 8)]
def z0a:SS:=[mV 12 3,mV 13 0,mV 14 4,o 15 (.call G0W [t 13,t 14,i 1,(.const (.int .i64 (-1))),i 0] true),mV 16 0,mV 17 4,o 18 (.call G0W [t 16,t 17,(.const (.int .i64 (-1))),(.const (.int .i64 (-1))),i 0] true),o 19 (.lit b0m [.slice none 0 0] 2 [(0,1,t 15),(1,1,t 18)]),o 20 (.app b0m 1 24 (t 12) (t 19)),mV 3 20]
def z0b:SS:=[mV 10 4,o 11 (bI .add 10 1),mV 4 11]
def z0c:SS:=[mV 21 3,cA 22 I0k [t 21],sT 1 2 22]
def L0N:SF:=⟨1,23,[.cell 2 true 1],
 (qS (gR y0V) (qS (gR y0W) (qS (gR y0X) (qS (qS (gR y0Y) (.block 0 (.loop (qS (qS (gR y0Z) (.cond (t 9) .skip (.exit 0))) (qS (.block 1 (gR z0a)) (gR z0b)))))) (qS (gR z0c) .ret)))))⟩
def z0d:SS:=[bX 3 b0f 0,bX 4 a0i 1,mN 6,mI 7 0]
def z0e:SS:=[lA 13 4 3,lA 14 1 4,mV 15 2,cA 16 f_8 [t 13,t 14,t 15],nT 17 16]
def J0m:SS:=[mN 6,mI 7 1]
def z0f:SS:=[lA 18 4 3,cA 19 I0l [t 18],mV 8 19]
def z0g:SS:=[mN 9]
def z0h:SS:=[fA 20 0 3,lD 21 20,lN 22 21,mI 23 0]
def J0n:SS:=[o 24 (bT .lss 23 22)]
def z0i:SS:=[mV 25 23,mV 10 25]
def z0j:SS:=[lA 27 1 4,mV 28 10,o 29 (bI .eql 28 0),mV 30 8,mV 31 10,o 32 (.look (.slice none 0 0) (t 30) (t 31)),mV 33 2,cA 34 I0m [t 27,t 29,t 32,t 33],mV 26 34,eX 35 26 0,eX 36 26 1,mV 11 35,mV 12 36]
def z0k:SS:=[mV 37 12,o 38 (bI .neq 37 0)]
def F0V:SS:=[mV 39 12,mN 6,mV 7 39]
def u0l:SS:=[mV 40 9,mV 41 11,o 42 (.lit b0v [.slice none 0 0] 1 [(0,1,t 41)]),o 43 (.app b0v 1 24 (t 40) (t 42)),mV 9 43]
def F0W:SS:=[o 44 (bI .add 23 1),mV 23 44]
def u0m:SS:=[mV 45 9,mV 6 45,mI 7 0]
def L0O:SF:=⟨3,46,[.tmp 6,.tmp 7],
 (qS (gR z0d) (qS (qS (gR z0e) (.cond (t 17) (qS (gR J0m) .ret) .skip)) (qS (gR z0f) (qS (gR z0g) (qS (qS (gR z0h) (.block 0 (.loop (qS (gR J0n) (qS (.cond (t 24) .skip (.exit 0)) (qS (.block 1 (qS (gR z0i) (qS (gR z0j) (qS (qS (gR z0k) (.cond (t 38) (qS (gR F0V) .ret) .skip)) (gR u0l))))) (gR F0W))))))) (qS (gR u0m) .ret))))))⟩
def z0l:SS:=[mI 2 0]
def z0m:SS:=[mV 3 0,mV 2 3]
def L0P:SF:=⟨1,4,[.tmp 2],
 (qS (gR z0l) (qS (gR z0m) .ret))⟩
def z0n:SS:=[bX 1 b0f 0,mB 2 false]
def z0o:SS:=[fA 11 0 1,lD 12 11,lN 13 12,fA 14 1 1,lD 15 14,lN 16 15,o 3 (.alloc h0b [.int .i64 0]),sT 1 3 13,mV 4 16]
def j0e:SS:=[lD 17 3,o 18 (bI .lss 17 1),mV 19 18,gF 20 19 (lS 3),gF 21 19 (bI .gtr 20 40),pT 22 19 21,mV 23 22,gF 24 23 (mS 4),gF 25 23 (bI .gtr 24 6),pT 26 23 25,mV 27 26,gF 28 27 (fS 2 1),gF 29 27 (lS 28),gF 30 27 (nS 29),gF 31 27 (bI .gtr 30 200),pT 32 27 31,mV 33 32,gF 34 33 (fS 3 1),gF 35 33 (lS 34),gF 36 33 (nS 35),gF 37 33 (bI .gtr 36 200),pT 38 33 37]
def j0Z:SS:=[mB 2 false]
def z0p:SS:=[o 39 (.mkfn (.func F0A) [] [t 3]),mV 5 39]
def z0q:SS:=[o 6 (.mv (.fn F0B))]
def z0r:SS:=[fA 40 2 1,lD 41 40,lN 42 41,mI 43 0]
def J0o:SS:=[o 44 (bT .lss 43 42)]
def z0s:SS:=[iA 45 6 41 43,lA 46 6 45,o 8 (.alloc b0Y [.int .i64 0,.int .i64 0,.int .i64 0,.slice none 0 0,.slice none 0 0,.slice none 0 0]),sT 6 8 46]
def z0t:SS:=[mV 47 5,fA 48 0 8,lD 49 48,o 50 (.callv (t 47) [t 49] true),nT 51 50,mV 52 51,gF 53 52 (mS 5),gF 54 52 (fS 1 8),gF 55 52 (lS 54),gF 56 52 (.callv (t 53) [t 55] true),gF 57 52 (.un .not (t 56)),pT 58 52 57,mV 59 58,gF 60 59 (mS 6),gF 61 59 (fS 2 8),gF 62 59 (lS 61),gF 63 59 (.callv (t 60) [t 62] true),gF 64 59 (.un .not (t 63)),pT 65 59 64,mV 66 65,gF 67 66 (fS 4 8),gF 68 66 (lS 67),gF 69 66 (nS 68),gF 70 66 (mS 4),gF 71 66 (bT .neq 69 70),pT 72 66 71,mV 73 72,gF 74 73 (fS 4 8),gF 75 73 (lS 74),gF 76 73 (mS 4),gF 77 73 (fS 2 8),gF 78 73 (lS 77),gF 79 73 (.call F0C [t 75,t 76,t 78] true),gF 80 73 (.un .not (t 79)),pT 81 73 80,mV 82 81,gF 83 82 (fS 3 8),gF 84 82 (lS 83),gF 85 82 (mS 4),gF 86 82 (fS 2 8),gF 87 82 (lS 86),gF 88 82 (.call F0C [t 84,t 85,t 87] true),gF 89 82 (.un .not (t 88)),pT 90 82 89]
def g0j:SS:=[mB 2 false]
def F0X:SS:=[o 91 (bI .add 43 1),mV 43 91]
def u0n:SS:=[fA 92 3 1,lD 93 92,lN 94 93,mI 95 0]
def F0Y:SS:=[o 96 (bT .lss 95 94)]
def u0o:SS:=[iA 97 4 93 95,lA 98 4 97,o 10 (.alloc g0Z [.int .i64 0,.int .i64 0,.int .i64 0,.slice none 0 0]),sT 4 10 98]
def u0p:SS:=[mV 99 5,fA 100 0 10,lD 101 100,o 102 (.callv (t 99) [t 101] true),nT 103 102,mV 104 103,gF 105 104 (mS 6),gF 106 104 (fS 2 10),gF 107 104 (lS 106),gF 108 104 (.callv (t 105) [t 107] true),gF 109 104 (.un .not (t 108)),pT 110 104 109,mV 111 110,gF 112 111 (fS 3 10),gF 113 111 (lS 112),gF 114 111 (mS 4),gF 115 111 (fS 2 10),gF 116 111 (lS 115),gF 117 111 (.call F0C [t 113,t 114,t 116] true),gF 118 111 (.un .not (t 117)),pT 119 111 118]
def l0j:SS:=[mB 2 false]
def F0Z:SS:=[o 120 (bI .add 95 1),mV 95 120]
def u0q:SS:=[mB 2 true]
def L0Q:SF:=⟨1,121,[.tmp 2],
 (qS (gR z0n) (qS (.draw z0o [0,1,3,0,8,24,0,71,255] [(4,7)]) (qS (qS (gR j0e) (.cond (t 38) (qS (gR j0Z) .ret) .skip)) (qS (gR z0p) (qS (gR z0q) (qS (qS (gR z0r) (.block 0 (.loop (qS (gR J0o) (qS (.cond (t 44) .skip (.exit 0)) (qS (.block 1 (qS (gR z0s) (qS (gR z0t) (.cond (t 90) (qS (gR g0j) .ret) .skip)))) (gR F0X))))))) (qS (qS (gR u0n) (.block 2 (.loop (qS (gR F0Y) (qS (.cond (t 96) .skip (.exit 2)) (qS (.block 3 (qS (gR u0o) (qS (gR u0p) (.cond (t 119) (qS (gR l0j) .ret) .skip)))) (gR F0Z))))))) (qS (gR u0q) .ret))))))))⟩
def z0u:SS:=[bX 2 a0i 0,mB 4 false]
def m0c:SS:=[mV 9 1,o 10 (bI .lss 9 0),mV 11 10,gF 12 11 (mS 1),gF 13 11 (bI .gtr 12 6),pT 14 11 13,mV 15 14,gF 16 15 (fS 0 2),gF 17 15 (lS 16),gF 18 15 (nS 17),gF 19 15 (bI .gtr 18 40),pT 20 15 19]
def o0V:SS:=[mB 4 false]
def z0v:SS:=[fA 21 0 2,lD 22 21,lN 23 22,mI 24 0]
def J0p:SS:=[o 25 (bT .lss 24 23)]
def u0v:SS:=[iA 26 1 22 24,lD 27 26,mV 6 27]
def u0w:SS:=[mV 28 6,lN 29 28,mV 30 1,o 31 (bT .neq 29 30)]
def z0w:SS:=[mB 4 false]
def z0x:SS:=[mV 32 6,lN 33 32,mI 34 0]
def J0q:SS:=[o 35 (bT .lss 34 33)]
def u0r:SS:=[iA 36 4 32 34,lA 37 4 36,o 8 (.alloc a0h zR),sT 4 8 37]
def u0s:SS:=[lA 38 4 8,cA 39 F0D [t 38],nT 40 39]
def u0t:SS:=[mB 4 false]
def G0a:SS:=[o 41 (bI .add 34 1),mV 34 41]
def G0b:SS:=[o 42 (bI .add 24 1),mV 24 42]
def u0u:SS:=[mB 4 true]
def L0R:SF:=⟨2,43,[.tmp 4],
 (qS (gR z0u) (qS (qS (gR m0c) (.cond (t 20) (qS (gR o0V) .ret) .skip)) (qS (qS (gR z0v) (.block 0 (.loop (qS (gR J0p) (qS (.cond (t 25) .skip (.exit 0)) (qS (.block 1 (qS (gR u0v) (qS (qS (gR u0w) (.cond (t 31) (qS (gR z0w) .ret) .skip)) (qS (gR z0x) (.block 2 (.loop (qS (gR J0q) (qS (.cond (t 35) .skip (.exit 2)) (qS (.block 3 (qS (gR u0r) (qS (gR u0s) (.cond (t 40) (qS (gR u0t) .ret) .skip)))) (gR G0a)))))))))) (gR G0b))))))) (qS (gR u0u) .ret))))⟩
def z0y:SS:=[mB 4 false]
def z0z:SS:=[mV 5 0,mV 6 1,cA 7 I0n [t 5,t 6],o 8 (bI .geq 7 0),mV 4 8]
def L0S:SF:=⟨2,9,[.tmp 4],
 (qS (gR z0y) (qS (gR z0z) .ret))⟩
def z0A:SS:=[mB 4 false]
def z0B:SS:=[lA 5 1 1,lD 6 2,mV 7 0,cA 8 I0a [t 5,t 6,t 7],nT 9 8,mV 4 9]
def L0T:SF:=⟨3,10,[.tmp 4],
 (qS (gR z0A) (qS (gR z0B) .ret))⟩
def z0C:SS:=[bX 3 a0i 0,mB 6 false]
def z0D:SS:=[lA 7 1 3,mV 8 1,cA 9 G0T [t 7,t 8],mV 10 9,gT 11 10 (mS 2),gT 12 10 (nS 11),gT 13 10 (fS 0 3),gT 14 10 (lS 13),gT 15 10 (nS 14),gT 16 10 (bT .eql 12 15),pF 17 10 16,mV 18 17,gT 19 18 (mS 2),gT 20 18 (.call I0o [t 19,.fn I0p] true),gT 21 18 (.un .not (t 20)),pF 22 18 21,mV 6 22]
def L0U:SF:=⟨3,23,[.tmp 6],
 (qS (gR z0C) (qS (gR z0D) .ret))⟩
def z0E:SS:=[bX 1 b0f 0,mB 2 false]
def z0F:SS:=[fA 8 1 1,lD 9 8,lN 10 9,mV 3 10]
def j0f:SS:=[fA 11 0 1,lD 12 11,lN 13 12,o 14 (bI .lss 13 1),mV 15 14,gF 16 15 (fS 0 1),gF 17 15 (lS 16),gF 18 15 (nS 17),gF 19 15 (bI .gtr 18 40),pT 20 15 19,mV 21 20,gF 22 21 (mS 3),gF 23 21 (bI .gtr 22 6),pT 24 21 23,mV 25 24,gF 26 25 (fS 2 1),gF 27 25 (lS 26),gF 28 25 (nS 27),gF 29 25 (bI .gtr 28 200),pT 30 25 29,mV 31 30,gF 32 31 (fS 3 1),gF 33 31 (lS 32),gF 34 31 (nS 33),gF 35 31 (bI .gtr 34 200),pT 36 31 35]
def k0a:SS:=[mB 2 false]
def z0G:SS:=[mI 4 0]
def z0H:SS:=[mV 37 4,fA 38 2 1,lD 39 38,lN 40 39,o 41 (bT .lss 37 40)]
def z0I:SS:=[fA 44 2 1,lD 45 44,mV 46 4,iA 47 6 45 46,lA 48 6 47,o 5 (.alloc b0Y [.int .i64 0,.int .i64 0,.int .i64 0,.slice none 0 0,.slice none 0 0,.slice none 0 0]),sT 6 5 48]
def g0Q:SS:=[fA 49 0 5,lD 50 49,o 51 (bI .lss 50 0),mV 52 51,gF 53 52 (fS 0 5),gF 54 52 (lS 53),gF 55 52 (fS 0 1),gF 56 52 (lS 55),gF 57 52 (nS 56),gF 58 52 (bT .geq 54 57),pT 59 52 58,mV 60 59,gF 61 60 (fS 1 5),gF 62 60 (lS 61),gF 63 60 (bI .lss 62 0),pT 64 60 63,mV 65 64,gF 66 65 (fS 1 5),gF 67 65 (lS 66),gF 68 65 (fS 0 1),gF 69 65 (lS 68),gF 70 65 (nS 69),gF 71 65 (bT .geq 67 70),pT 72 65 71,mV 73 72,gF 74 73 (fS 2 5),gF 75 73 (lS 74),gF 76 73 (bI .lss 75 0),pT 77 73 76,mV 78 77,gF 79 78 (fS 2 5),gF 80 78 (lS 79),gF 81 78 (bI .gtr 80 40),pT 82 78 81,mV 83 82,gF 84 83 (fS 4 5),gF 85 83 (lS 84),gF 86 83 (nS 85),gF 87 83 (mS 3),gF 88 83 (bT .neq 86 87),pT 89 83 88,mV 90 89,gF 91 90 (fS 3 5),gF 92 90 (lS 91),gF 93 90 (mS 3),gF 94 90 (fS 2 5),gF 95 90 (lS 94),gF 96 90 (.call F0E [t 92,t 93,t 95] true),gF 97 90 (.un .not (t 96)),pT 98 90 97,mV 99 98,gF 100 99 (fS 4 5),gF 101 99 (lS 100),gF 102 99 (mS 3),gF 103 99 (fS 2 5),gF 104 99 (lS 103),gF 105 99 (.call F0E [t 101,t 102,t 104] true),gF 106 99 (.un .not (t 105)),pT 107 99 106]
def f0V:SS:=[mB 2 false]
def z0J:SS:=[mV 42 4,o 43 (bI .add 42 1),mV 4 43]
def u0x:SS:=[mI 6 0]
def u0y:SS:=[mV 108 6,fA 109 3 1,lD 110 109,lN 111 110,o 112 (bT .lss 108 111)]
def u0z:SS:=[fA 115 3 1,lD 116 115,mV 117 6,iA 118 4 116 117,lA 119 4 118,o 7 (.alloc g0Z [.int .i64 0,.int .i64 0,.int .i64 0,.slice none 0 0]),sT 4 7 119]
def h0p:SS:=[fA 120 0 7,lD 121 120,o 122 (bI .lss 121 0),mV 123 122,gF 124 123 (fS 0 7),gF 125 123 (lS 124),gF 126 123 (fS 0 1),gF 127 123 (lS 126),gF 128 123 (nS 127),gF 129 123 (bT .geq 125 128),pT 130 123 129,mV 131 130,gF 132 131 (fS 2 7),gF 133 131 (lS 132),gF 134 131 (bI .lss 133 0),pT 135 131 134,mV 136 135,gF 137 136 (fS 2 7),gF 138 136 (lS 137),gF 139 136 (bI .gtr 138 40),pT 140 136 139,mV 141 140,gF 142 141 (fS 3 7),gF 143 141 (lS 142),gF 144 141 (mS 3),gF 145 141 (fS 2 7),gF 146 141 (lS 145),gF 147 141 (.call F0E [t 143,t 144,t 146] true),gF 148 141 (.un .not (t 147)),pT 149 141 148]
def h0q:SS:=[mB 2 false]
def u0A:SS:=[mV 113 6,o 114 (bI .add 113 1),mV 6 114]
def u0B:SS:=[mB 2 true]
def L0V:SF:=⟨1,150,[.tmp 2],
 (qS (gR z0E) (qS (gR z0F) (qS (qS (gR j0f) (.cond (t 36) (qS (gR k0a) .ret) .skip)) (qS (qS (gR z0G) (.block 0 (.loop (qS (qS (gR z0H) (.cond (t 41) .skip (.exit 0))) (qS (.block 1 (qS (gR z0I) (qS (gR g0Q) (.cond (t 107) (qS (gR f0V) .ret) .skip)))) (gR z0J)))))) (qS (qS (gR u0x) (.block 2 (.loop (qS (qS (gR u0y) (.cond (t 112) .skip (.exit 2))) (qS (.block 3 (qS (gR u0z) (qS (gR h0p) (.cond (t 149) (qS (gR h0q) .ret) .skip)))) (gR u0A)))))) (qS (gR u0B) .ret))))))⟩
def z0K:SS:=[bX 2 a0i 0,mB 4 false]
def m0d:SS:=[mV 7 1,o 8 (bI .lss 7 0),mV 9 8,gF 10 9 (mS 1),gF 11 9 (bI .gtr 10 6),pT 12 9 11,mV 13 12,gF 14 13 (fS 0 2),gF 15 13 (lS 14),gF 16 13 (nS 15),gF 17 13 (bI .gtr 16 40),pT 18 13 17]
def o0W:SS:=[mB 4 false]
def z0L:SS:=[mI 5 0]
def z0M:SS:=[mV 19 5,fA 20 0 2,lD 21 20,lN 22 21,o 23 (bT .lss 19 22)]
def u0G:SS:=[fA 26 0 2,lD 27 26,mV 28 5,iA 29 1 27 28,lD 30 29,lN 31 30,mV 32 1,o 33 (bT .neq 31 32)]
def z0N:SS:=[mB 4 false]
def z0O:SS:=[mI 6 0]
def z0P:SS:=[mV 34 6,mV 35 1,o 36 (bT .lss 34 35)]
def z0Q:SS:=[fA 39 0 2,lD 40 39,mV 41 5,iA 42 1 40 41,lD 43 42,mV 44 6,iA 45 4 43 44,lA 46 4 45,cA 47 F0F [t 46],nT 48 47]
def u0C:SS:=[mB 4 false]
def u0D:SS:=[mV 37 6,o 38 (bI .add 37 1),mV 6 38]
def u0E:SS:=[mV 24 5,o 25 (bI .add 24 1),mV 5 25]
def u0F:SS:=[mB 4 true]
def L0W:SF:=⟨2,49,[.tmp 4],
 (qS (gR z0K) (qS (qS (gR m0d) (.cond (t 18) (qS (gR o0W) .ret) .skip)) (qS (qS (gR z0L) (.block 0 (.loop (qS (qS (gR z0M) (.cond (t 23) .skip (.exit 0))) (qS (.block 1 (qS (qS (gR u0G) (.cond (t 33) (qS (gR z0N) .ret) .skip)) (qS (gR z0O) (.block 2 (.loop (qS (qS (gR z0P) (.cond (t 36) .skip (.exit 2))) (qS (.block 3 (qS (gR z0Q) (.cond (t 48) (qS (gR u0C) .ret) .skip))) (gR u0D)))))))) (gR u0E)))))) (qS (gR u0F) .ret))))⟩
def z0R:SS:=[bX 3 a0i 0,mB 6 false]
def z0S:SS:=[lA 8 1 3,mV 9 1,cA 10 G0U [t 8,t 9],nT 11 10,mV 12 11,gF 13 12 (mS 2),gF 14 12 (nS 13),gF 15 12 (fS 0 3),gF 16 12 (lS 15),gF 17 12 (nS 16),gF 18 12 (bT .neq 14 17),pT 19 12 18]
def u0H:SS:=[mB 6 false]
def z0T:SS:=[mI 7 0]
def z0U:SS:=[mV 20 7,mV 21 2,lN 22 21,o 23 (bT .lss 20 22)]
def z0V:SS:=[mV 26 2,mV 27 7,iA 28 5 26 27,lA 29 5 28,cA 30 I0r [t 29],nT 31 30]
def z0W:SS:=[mB 6 false]
def z0X:SS:=[mV 24 7,o 25 (bI .add 24 1),mV 7 25]
def z0Y:SS:=[mB 6 true]
def L0X:SF:=⟨3,32,[.tmp 6],
 (qS (gR z0R) (qS (qS (gR z0S) (.cond (t 19) (qS (gR u0H) .ret) .skip)) (qS (qS (gR z0T) (.block 0 (.loop (qS (qS (gR z0U) (.cond (t 23) .skip (.exit 0))) (qS (.block 1 (qS (gR z0V) (.cond (t 31) (qS (gR z0W) .ret) .skip))) (gR z0X)))))) (qS (gR z0Y) .ret))))⟩
def z0Z:SS:=[bX 1 a0h 0,o 2 (.alloc a0x zE)]
def A0a:SS:=[lA 3 4 1,o 4 (.build zR []),cA 5 I0s [t 3,t 4],o 6 (.build zE [(1,4,t 5)]),sT 5 2 6]
def L0Y:SF:=⟨1,7,[.cell 2 true 5],
 (qS (gR z0Z) (qS (gR A0a) .ret))⟩
def A0b:SS:=[mB 4 false]
def A0c:SS:=[mV 5 0,mV 6 1,cA 7 I0t [t 5,t 6],o 8 (bI .geq 7 0),mV 4 8]
def L0Z:SF:=⟨2,9,[.tmp 4],
 (qS (gR A0b) (qS (gR A0c) .ret))⟩
def A0d:SS:=[bX 1 a0h 0,mB 2 false]
def A0e:SS:=[lA 3 4 1,o 4 (.build zR []),cA 5 I0g [t 3,t 4],o 6 (bI .neq 5 0),mV 2 6]
def M0a:SF:=⟨1,7,[.tmp 2],
 (qS (gR A0d) (qS (gR A0e) .ret))⟩
def A0f:SS:=[bX 2 a0h 0,bX 3 a0h 1,mI 4 0]
def A0g:SS:=[lA 5 4 2,cB 6 x0U [t 5],lA 7 4 3,cA 8 x0U [t 7],sT 4 2 6,sT 4 3 8]
def A0h:SS:=[fA 9 0 2,lA 10 2 9,fA 11 2 3,lA 12 2 11,cB 13 w0z [t 10,t 12],fA 14 0 3,lA 15 2 14,fA 16 2 2,lA 17 2 16,cA 18 w0z [t 15,t 17],cA 19 x0V [t 13,t 18],mV 4 19]
def M0b:SF:=⟨2,20,[.tmp 4],
 (qS (gR A0f) (qS (.draw A0g [0,1,0,7,15,31] []) (qS (.draw A0h [0,1,0,4,15,0,32,0,128,511,1023,2047] []) .ret)))⟩
def A0i:SS:=[o 2 (.alloc a0h zR)]
def A0j:SS:=[mV 3 0,cA 4 F0G [t 3],cA 5 F0G [i 1],o 6 (.build zR [(0,2,t 4),(2,2,t 5)]),sT 4 2 6]
def M0c:SF:=⟨1,7,[.cell 2 true 4],
 (qS (gR A0i) (qS (gR A0j) .ret))⟩
def A0k:SS:=[bX 1 a0h 0,mI 2 0]
def A0l:SS:=[lA 3 4 1,o 4 (.build zR []),cA 5 I0u [t 3,t 4],mV 2 5]
def M0d:SF:=⟨1,6,[.tmp 2],
 (qS (gR A0k) (qS (gR A0l) .ret))⟩
def A0m:SS:=[bX 2 a0h 0,bX 3 a0h 1,mB 4 false]
def A0n:SS:=[fA 5 0 2,lA 6 2 5,fA 7 0 3,lA 8 2 7,cA 9 G0X [t 6,t 8],mV 10 9,gT 11 10 (fS 2 2),gT 12 10 (aS 2 11),gT 13 10 (fS 2 3),gT 14 10 (aS 2 13),gT 15 10 (.call G0X [t 12,t 14] true),pF 16 10 15,mV 4 16]
def M0e:SF:=⟨2,17,[.tmp 4],
 (qS (gR A0m) (qS (gR A0n) .ret))⟩
def A0o:SS:=[mB 2 false]
def A0p:SS:=[mI 3 0]
def A0q:SS:=[mV 4 3,mV 5 0,lN 6 5,o 7 (bT .lss 4 6)]
def u0I:SS:=[mV 10 0,mV 11 3,iA 12 2 10 11,fA 13 1 12,lD 14 13,lN 15 14,o 16 (bI .gtr 15 40)]
def A0r:SS:=[mB 2 true]
def A0s:SS:=[mV 8 3,o 9 (bI .add 8 1),mV 3 9]
def A0t:SS:=[mB 2 false]
def M0f:SF:=⟨1,17,[.tmp 2],
 (qS (gR A0o) (qS (qS (gR A0p) (.block 0 (.loop (qS (qS (gR A0q) (.cond (t 7) .skip (.exit 0))) (qS (.block 1 (qS (gR u0I) (.cond (t 16) (qS (gR A0r) .ret) .skip))) (gR A0s)))))) (qS (gR A0t) .ret)))⟩
def A0u:SS:=[mI 2 0]
def A0v:SS:=[mV 3 0,o 4 (.mnx false (t 3) [i 6]),o 5 (.mnx true (i 0) [t 4]),mV 2 5]
def M0g:SF:=⟨1,6,[.tmp 2],
 (qS (gR A0u) (qS (gR A0v) .ret))⟩
def A0w:SS:=[mN 10]
def A0x:SS:=[mN 11]
def A0y:SS:=[mI 12 0]
def A0z:SS:=[mV 14 12,mV 15 0,o 16 (bT .lss 14 15)]
def A0A:SS:=[mI 13 0]
def A0B:SS:=[mV 19 12,mV 20 1,o 21 (bT .eql 19 20)]
def A0C:SS:=[mV 22 2,mV 13 22]
def A0D:SS:=[mV 23 12,mV 24 3,o 25 (bT .eql 23 24)]
def A0E:SS:=[mV 26 4,mV 13 26]
def A0F:SS:=[mV 27 11,mV 28 13,cA 29 G0V [t 28],o 30 (.lit a0h zR 1 [(0,4,t 29)]),o 31 (.app a0h 4 64 (t 27) (t 30)),mV 11 31]
def u0J:SS:=[mV 17 12,o 18 (bI .add 17 1),mV 12 18]
def u0K:SS:=[mV 32 11,mV 10 32]
def M0h:SF:=⟨5,33,[.tmp 10],
 (qS (gR A0w) (qS (gR A0x) (qS (qS (gR A0y) (.block 0 (.loop (qS (qS (gR A0z) (.cond (t 16) .skip (.exit 0))) (qS (.block 1 (qS (gR A0A) (qS (qS (gR A0B) (.cond (t 21) (gR A0C) .skip)) (qS (qS (gR A0D) (.cond (t 25) (gR A0E) .skip)) (gR A0F))))) (gR u0J)))))) (qS (gR u0K) .ret))))⟩
def A0G:SS:=[o 2 (.alloc a0i [.slice none 0 0])]
def A0H:SS:=[mV 3 0,mV 4 0,lN 5 4,o 6 (.mnx false (t 5) [i 40]),o 7 (.sl b0m 1 (t 3) none (some (t 6)) none),o 8 (.build [.slice none 0 0] [(0,1,t 7)]),sT 1 2 8]
def M0i:SF:=⟨1,9,[.cell 2 true 1],
 (qS (gR A0G) (qS (gR A0H) .ret))⟩
def A0I:SS:=[bX 1 b0f 0,o 2 (.mv (.const (.map none)))]
def A0J:SS:=[fA 3 2 1,lD 4 3,o 5 (.call I0v [t 4,.fn O0B] true),mV 2 5]
def M0j:SF:=⟨1,6,[.tmp 2],
 (qS (gR A0I) (qS (gR A0J) .ret))⟩
def A0V:SS:=[bX 4 a0i 0,mN 8,mI 9 0]
def A0W:SS:=[o 15 (.mk l0y 32 [.slice none 0 0,.int .i64 0] (i 1) (i 1)),o 16 (.build [.slice none 0 0,.slice none 0 0,.slice none 0 0,.slice none 0 0] [(0,1,t 15)]),lA 17 1 4,cA 18 F0x [t 16,t 17],o 19 (.ia 1 (t 18) (i 0)),lD 20 19,mV 10 20]
def A0X:SS:=[mV 21 1]
def A0Y:SS:=[lA 22 1 4,cA 23 G0P [t 22],mV 10 23]
def A0Z:SS:=[mV 24 2,lN 25 24,mI 26 0]
def J0B:SS:=[o 27 (bT .lss 26 25)]
def J0C:SS:=[iA 28 6 24 26,lA 29 6 28,o 12 (.alloc b0Y [.int .i64 0,.int .i64 0,.int .i64 0,.slice none 0 0,.slice none 0 0,.slice none 0 0]),sT 6 12 29]
def J0D:SS:=[lA 30 6 12,mV 31 3,fA 32 0 12,lD 33 32,iA 34 1 31 33,lD 35 34,cA 36 O0C [t 30,t 35]]
def J0E:SS:=[mN 8,mI 9 10]
def J0F:SS:=[lA 38 1 4,lA 39 6 12,mV 40 3,fA 41 0 12,lD 42 41,iA 43 1 40 42,lD 44 43,cA 45 Q0K [t 38,t 39,t 44],mV 37 45,eX 46 37 0,eX 47 37 1,mV 13 46,mV 14 47]
def G0d:SS:=[mV 48 14,o 49 (bI .neq 48 0)]
def G0e:SS:=[mV 50 14,mN 8,mV 9 50]
def G0f:SS:=[mV 51 10,mV 52 13,cA 53 Q0L [t 51,t 52],mV 10 53]
def G0g:SS:=[o 54 (bI .add 26 1),mV 26 54]
def u0L:SS:=[mV 55 10,mV 8 55,mI 9 0]
def M0k:SF:=⟨4,56,[.tmp 8,.tmp 9],
 (qS (gR A0V) (qS (.draw A0W [0,1,0,7,15,31,63] []) (qS (qS (gR A0X) (.cond (t 21) (gR A0Y) .skip)) (qS (qS (gR A0Z) (.block 0 (.loop (qS (gR J0B) (qS (.cond (t 27) .skip (.exit 0)) (qS (.block 1 (qS (gR J0C) (qS (qS (.draw J0D [0,0,0,4,14,30,63] []) (.cond (t 36) (qS (gR J0E) .ret) .skip)) (qS (.draw J0F [0,0,0,0,8,28,60,127,255,511,511,1023,4095] []) (qS (qS (gR G0d) (.cond (t 49) (qS (gR G0e) .ret) .skip)) (gR G0f)))))) (gR G0g))))))) (qS (gR u0L) .ret)))))⟩
def u0M:SS:=[mB 3 false]
def u0N:SS:=[mV 4 0,o 5 (bI .geq 4 0),mV 6 5,gT 7 6 (mS 0),gT 8 6 (lS 1),gT 9 6 (bT .lss 7 8),pF 10 6 9,mV 3 10]
def K0T:SF:=⟨2,11,[.tmp 3],
 (qS (gR u0M) (qS (gR u0N) .ret))⟩
def u0O:SS:=[mB 2 false]
def u0P:SS:=[mV 3 0,o 4 (bI .geq 3 0),mV 5 4,gT 6 5 (mS 0),gT 7 5 (bI .leq 6 40),pF 8 5 7,mV 2 8]
def K0U:SF:=⟨1,9,[.tmp 2],
 (qS (gR u0O) (qS (gR u0P) .ret))⟩
def B0a:SS:=[bX 4 h0b 1,bX 5 h0b 2,mB 6 false]
def B0b:SS:=[o 7 (.alloc b0s [.nilFunc]),⟨none,none,.store 1 (t 7) (.fn v0X)⟩]
def B0c:SS:=[mV 8 0,o 9 (.mkfn (.func I0z) [] [t 7,t 4,t 5]),cA 10 I0y [t 8,t 9],nT 11 10,mV 6 11]
def M0l:SF:=⟨3,12,[.tmp 6],
 (qS (gR B0a) (qS (gR B0b) (qS (gR B0c) .ret)))⟩
def B0d:SS:=[bX 1 a0h 0,mB 2 false]
def B0e:SS:=[lA 3 4 1,cA 4 G0Y [t 3]]
def B0f:SS:=[mB 2 true]
def B0g:SS:=[fA 5 0 1,lA 6 2 5,cA 7 v0Y [t 6],mV 8 7,gT 9 8 (fS 2 1),gT 10 8 (aS 2 9),gT 11 8 (.call v0Y [t 10] true),pF 12 8 11,mV 13 12,gT 14 13 (fS 2 1),gT 15 13 (fS 0 14),gT 16 13 (lS 15),gT 17 13 (.un .not (t 16)),pF 18 13 17,mV 19 18,gT 20 19 (fS 2 1),gT 21 19 (aS 2 20),gT 22 19 (.call G0Z [t 21] true),gT 23 19 (.un .not (t 22)),pF 24 19 23,mV 25 24,gT 26 25 (fS 0 1),gT 27 25 (aS 2 26),gT 28 25 (fS 2 1),gT 29 25 (aS 2 28),gT 30 25 (.call H0a [t 27,t 29] true),gT 31 25 (.call H0b [] true),gT 32 25 (.call x0V [t 30,t 31] true),gT 33 25 (bI .eql 32 0),pF 34 25 33,mV 2 34]
def M0m:SF:=⟨1,35,[.tmp 2],
 (qS (gR B0d) (qS (qS (gR B0e) (.cond (t 4) (qS (gR B0f) .ret) .skip)) (qS (gR B0g) .ret)))⟩
def B0h:SS:=[mI 4 0]
def B0i:SS:=[mV 6 0,lN 7 6,mI 8 0]
def J0G:SS:=[o 9 (bT .lss 8 7)]
def B0j:SS:=[mV 10 8,mV 5 10]
def B0k:SS:=[mV 11 1,mV 12 0,mV 13 5,iA 14 1 12 13,lD 15 14,o 16 (.callv (t 11) [t 15] true)]
def B0l:SS:=[mV 17 5,mV 4 17]
def J0H:SS:=[o 18 (bI .add 8 1),mV 8 18]
def B0m:SS:=[o 4 (.mv (.const (.int .i64 (-1))))]
def M0n:SF:=⟨2,19,[.tmp 4],
 (qS (gR B0h) (qS (qS (gR B0i) (.block 0 (.loop (qS (gR J0G) (qS (.cond (t 9) .skip (.exit 0)) (qS (.block 1 (qS (gR B0j) (qS (gR B0k) (.cond (t 16) (qS (gR B0l) .ret) .skip)))) (gR J0H))))))) (qS (gR B0m) .ret)))⟩
def B0n:SS:=[mB 4 false]
def B0o:SS:=[mV 5 0,mV 6 1,cA 7 I0A [t 5,t 6],o 8 (bI .geq 7 0),mV 4 8]
def M0o:SF:=⟨2,9,[.tmp 4],
 (qS (gR B0n) (qS (gR B0o) .ret))⟩
def B0p:SS:=[bX 1 a0x 0,mB 2 false]
def B0q:SS:=[lA 3 5 1,cA 4 I0q [t 3],nT 5 4,mV 2 5]
def M0p:SF:=⟨1,6,[.tmp 2],
 (qS (gR B0p) (qS (gR B0q) .ret))⟩
def B0r:SS:=[bX 1 a0x 0,mB 2 false]
def B0s:SS:=[fA 3 0 1,lD 4 3]
def B0t:SS:=[o 6 (.bin 0 .eql (t 4) (.const (.int .i64 (-1)))),mV 5 6]
def o0X:SS:=[o 7 (bI .eql 4 1),mV 5 7]
def u0Q:SS:=[fA 8 1 1,lA 9 4 8,cA 10 I0B [t 9],mV 2 10]
def u0R:SS:=[o 12 (bI .eql 4 0),mV 11 12]
def B0u:SS:=[fA 13 1 1,lA 14 4 13,cA 15 F0D [t 14],mV 2 15]
def B0v:SS:=[mB 2 false]
def M0q:SF:=⟨1,16,[.tmp 2],
 (qS (gR B0r) (qS (qS (gR B0s) (.block 0 (qS (qS (gR B0t) (.cond (t 5) .skip (gR o0X))) (.cond (t 5) (qS (gR u0Q) .ret) (qS (gR u0R) (.cond (t 11) (qS (gR B0u) .ret) .skip)))))) (qS (gR B0v) .ret)))⟩
def B0w:SS:=[mB 6 false]
def B0x:SS:=[mI 7 0]
def B0y:SS:=[mV 9 7,mV 10 0,lN 11 10,o 12 (bT .lss 9 11)]
def B0z:SS:=[mV 15 0,mV 16 7,iA 17 4 15 16,lA 18 4 17,o 8 (.alloc i0n [.slice none 0 0,.slice none 0 0,.bool false,.slice none 0 0]),sT 4 8 18]
def o0Y:SS:=[fA 19 0 8,lD 20 19,lN 21 20,mV 22 1,o 23 (bT .neq 21 22),mV 24 23,gF 25 24 (fS 1 8),gF 26 24 (lS 25),gF 27 24 (nS 26),gF 28 24 (mS 2),gF 29 24 (bT .neq 27 28),pT 30 24 29,mV 31 30,gF 32 31 (fS 2 8),gF 33 31 (aS 2 32),gF 34 31 (.call w0A [t 33] true),gF 35 31 (.un .not (t 34)),pT 36 31 35,mV 37 36,gF 38 37 (fS 0 8),gF 39 37 (lS 38),gF 40 37 (.call H0c [t 39] true),gF 41 37 (.un .not (t 40)),pT 42 37 41,mV 43 42,gF 44 43 (fS 1 8),gF 45 43 (lS 44),gF 46 43 (.call H0c [t 45] true),gF 47 43 (.un .not (t 46)),pT 48 43 47]
def k0b:SS:=[mB 6 false]
def B0A:SS:=[mV 13 7,o 14 (bI .add 13 1),mV 7 14]
def B0B:SS:=[mB 6 true]
def M0r:SF:=⟨3,49,[.tmp 6],
 (qS (gR B0w) (qS (qS (gR B0x) (.block 0 (.loop (qS (qS (gR B0y) (.cond (t 12) .skip (.exit 0))) (qS (.block 1 (qS (gR B0z) (qS (gR o0Y) (.cond (t 48) (qS (gR k0b) .ret) .skip)))) (gR B0A)))))) (qS (gR B0B) .ret)))⟩
def B0E:SS:=[bX 1 a0h 0,mB 2 false]
def o0Z:SS:=[fA 4 2 1,fA 5 1 4,lD 6 5,lN 7 6,o 8 (bI .eql 7 0),mV 9 8,gT 10 9 (fS 2 1),gT 11 9 (fS 0 10),gT 12 9 (lS 11),gT 13 9 (.un .not (t 12)),pF 14 9 13]
def u0W:SS:=[fA 15 0 1,fA 16 1 15,lD 17 16,lN 18 17,o 19 (bI .eql 18 0),mV 20 19,gT 21 20 (fS 0 1),gT 22 20 (fS 0 21),gT 23 20 (lS 22),gT 24 20 (.un .not (t 23)),pF 25 20 24,mV 2 25]
def u0X:SS:=[fA 26 0 1,lA 27 2 26,fA 28 2 1,lA 29 2 28,cA 30 I0C [t 27,t 29],o 3 (.alloc a0a zI),sT 2 3 30]
def u0Y:SS:=[fA 31 0 1,lA 32 2 31,cA 33 w0A [t 32],mV 34 33,gT 35 34 (fS 2 1),gT 36 34 (aS 2 35),gT 37 34 (.call w0A [t 36] true),pF 38 34 37,mV 39 38,gT 40 39 (fS 2 1),gT 41 39 (fS 0 40),gT 42 39 (lS 41),gT 43 39 (.un .not (t 42)),pF 44 39 43,mV 45 44,gT 46 45 (fS 1 3),gT 47 45 (lS 46),gT 48 45 (nS 47),gT 49 45 (bI .eql 48 1),pF 50 45 49,mV 51 50,gT 52 51 (fS 1 3),gT 53 51 (lS 52),gT 54 51 (.ia 1 (t 53) (i 0)),gT 55 51 (lS 54),gT 56 51 (.bin 0 .eql (t 55) (.const (.int .u32 1))),pF 57 51 56,mV 2 57]
def M0s:SF:=⟨1,58,[.tmp 2],
 (qS (gR B0E) (qS (qS (gR o0Z) (.cond (t 14) (qS (gR u0W) .ret) .skip)) (qS (gR u0X) (qS (gR u0Y) .ret))))⟩
def B0F:SS:=[bX 1 a0x 0,mB 2 false]
def m0e:SS:=[fA 3 0 1,lD 4 3,o 5 (bI .eql 4 0)]
def B0G:SS:=[fA 6 1 1,lA 7 4 6,cA 8 F0F [t 7],mV 2 8]
def p0a:SS:=[fA 9 0 1,lD 10 9,o 11 (bI .eql 10 1),mV 12 11,gF 13 12 (fS 0 1),gF 14 12 (lS 13),gF 15 12 (.bin 0 .eql (t 14) (.const (.int .i64 (-1)))),pT 16 12 15,mV 17 16,gT 18 17 (fS 1 1),gT 19 17 (aS 4 18),gT 20 17 (.call I0D [t 19] true),pF 21 17 20,mV 2 21]
def M0t:SF:=⟨1,22,[.tmp 2],
 (qS (gR B0F) (qS (qS (gR m0e) (.cond (t 5) (qS (gR B0G) .ret) .skip)) (qS (gR p0a) .ret)))⟩
def B0H:SS:=[bX 2 a0h 0,bX 3 a0h 1,o 4 (.alloc a0h zR)]
def B0I:SS:=[lA 5 4 2,cB 6 x0U [t 5],lA 7 4 3,cA 8 x0U [t 7],sT 4 2 6,sT 4 3 8]
def B0J:SS:=[fA 9 0 2,lA 10 2 9,fA 11 2 3,lA 12 2 11,cB 13 w0z [t 10,t 12],fA 14 0 3,lA 15 2 14,fA 16 2 2,lA 17 2 16,cB 18 w0z [t 15,t 17],o 19 (.lit a0a zI 1 [(0,2,t 18)]),o 20 (.call I0F [.fn w0B,t 13,t 19] false),fA 21 2 2,lA 22 2 21,fA 23 2 3,lA 24 2 23,cA 25 w0z [t 22,t 24],cA 26 I0E [t 20,t 25],sT 4 4 26]
def M0u:SF:=⟨2,27,[.cell 4 true 4],
 (qS (gR B0H) (qS (.draw B0I [0,1,0,7,15,31] []) (qS (.draw B0J [0,1,0,4,15,0,32,0,128,511,1023,2047,0,4096,0,16384,65535,131071,262143] []) .ret)))⟩
def B0K:SS:=[mI 4 0]
def B0L:SS:=[mV 6 0,lN 7 6,mI 8 0]
def J0O:SS:=[o 9 (bT .lss 8 7)]
def B0M:SS:=[mV 10 8,mV 5 10]
def B0N:SS:=[mV 11 1,mV 12 0,mV 13 5,iA 14 4 12 13,lA 15 4 14,o 16 (.callv (t 11) [t 15] true)]
def B0O:SS:=[mV 17 5,mV 4 17]
def J0P:SS:=[o 18 (bI .add 8 1),mV 8 18]
def B0P:SS:=[o 4 (.mv (.const (.int .i64 (-1))))]
def M0v:SF:=⟨2,19,[.tmp 4],
 (qS (gR B0K) (qS (qS (gR B0L) (.block 0 (.loop (qS (gR J0O) (qS (.cond (t 9) .skip (.exit 0)) (qS (.block 1 (qS (gR B0M) (qS (gR B0N) (.cond (t 16) (qS (gR B0O) .ret) .skip)))) (gR J0P))))))) (qS (gR B0P) .ret)))⟩
def B0Q:SS:=[bX 1 a0h 0,o 2 (.alloc a0h zR)]
def B0R:SS:=[lA 3 4 1,cA 4 G0Y [t 3],mV 5 4,gF 6 5 (aS 4 1),gF 7 5 (.call F0D [t 6] true),gF 8 5 (.un .not (t 7)),pT 9 5 8]
def u0Z:SS:=[cA 10 H0b [],o 11 (.build zR [(2,2,t 10)]),sT 4 2 11]
def B0S:SS:=[fA 12 0 1,lA 13 2 12,o 14 (.build zI []),cB 15 w0B [t 13,t 14],fA 16 2 1,lA 17 2 16,o 18 (.build zI []),cA 19 w0B [t 17,t 18],o 20 (.build zR [(0,2,t 15),(2,2,t 19)]),sT 4 2 20]
def M0w:SF:=⟨1,21,[.cell 2 true 4],
 (qS (gR B0Q) (qS (qS (gR B0R) (.cond (t 9) (qS (gR u0Z) .ret) .skip)) (qS (.draw B0S [0,1,0,7,0,16,0,127,255,511] []) .ret)))⟩
def B0T:SS:=[bX 2 a0a 0,bX 3 a0a 1,mI 4 0]
def B0U:SS:=[lA 6 2 2,cA 7 h0X [t 6],mV 8 7,gT 9 8 (aS 2 3),gT 10 8 (.call h0X [t 9] true),gT 11 8 (.un .not (t 10)),pF 12 8 11,mV 5 12]
def B0V:SS:=[o 4 (.mv (.const (.int .i64 (-1))))]
def v0a:SS:=[lA 14 2 2,cA 15 h0X [t 14],nT 16 15,mV 17 16,gT 18 17 (aS 2 3),gT 19 17 (.call h0X [t 18] true),pF 20 17 19,mV 13 20]
def B0W:SS:=[mI 4 1]
def v0b:SS:=[lA 22 2 2,cA 23 h0X [t 22],mV 21 23]
def B0X:SS:=[lA 24 2 3,cB 25 l0s [t 24],lA 26 2 2,cA 27 l0s [t 26],cA 28 x0W [t 25,t 27],mV 4 28]
def B0Y:SS:=[lA 29 2 2,cB 30 l0s [t 29],lA 31 2 3,cA 32 l0s [t 31],cA 33 x0W [t 30,t 32],mV 4 33]
def M0x:SF:=⟨2,34,[.tmp 4],
 (qS (gR B0T) (qS (.block 0 (qS (gR B0U) (.cond (t 5) (qS (gR B0V) .ret) (qS (gR v0a) (.cond (t 13) (qS (gR B0W) .ret) (qS (gR v0b) (.cond (t 21) (qS (.draw B0X [0,1,0,7,15,31] []) .ret) .skip))))))) (qS (.draw B0Y [0,1,0,7,15,31] []) .ret)))⟩
def B0Z:SS:=[bX 2 a0a 0,bX 3 a0a 1,o 4 (.alloc a0a zI)]
def C0a:SS:=[lA 13 2 2,cB 14 l0s [t 13],lA 15 2 3,cA 16 l0s [t 15],mV 5 14,mV 6 16]
def C0b:SS:=[mV 17 5,lN 18 17,mV 19 6,lN 20 19,o 21 (bT .add 18 20),o 22 (.mk a0b 4 [.int .u32 0] (t 21) (t 21)),mV 7 22]
def C0c:SS:=[mV 23 5,lN 24 23,mI 25 0]
def v0j:SS:=[o 26 (bT .lss 25 24)]
def C0d:SS:=[mV 27 25,iA 28 1 23 25,lD 29 28,mV 8 27,mV 9 29]
def C0e:SS:=[o 10 (.mv (.const (.int .u64 0)))]
def C0f:SS:=[mV 30 6,lN 31 30,mI 32 0]
def v0k:SS:=[o 33 (bT .lss 32 31)]
def C0g:SS:=[mV 34 32,iA 35 1 30 32,lD 36 35,mV 11 34,mV 12 36]
def v0c:SS:=[mV 37 10,mV 38 9,cV 39 .u64 38,mV 40 12,cV 41 .u64 40,o 42 (bT .mul 39 41),mV 43 7,mV 44 8,mV 45 11,o 46 (bT .add 44 45),iA 47 1 43 46,lD 48 47,cV 49 .u64 48,o 50 (bT .add 42 49),o 51 (bT .add 37 50),mV 10 51]
def v0d:SS:=[mV 52 7,mV 53 8,mV 54 11,o 55 (bT .add 53 54),mV 56 10,cA 57 k0p [t 56],iA 58 1 52 55,sT 1 58 57]
def v0e:SS:=[mV 59 10,o 60 (.bin 0 .shr (t 59) (.const (.int .u64 32))),mV 10 60]
def v0f:SS:=[o 61 (bI .add 32 1),mV 32 61]
def v0g:SS:=[mV 62 7,mV 63 8,mV 64 6,lN 65 64,o 66 (bT .add 63 65),mV 67 10,cA 68 k0p [t 67],iA 69 1 62 66,sT 1 69 68]
def v0h:SS:=[o 70 (bI .add 25 1),mV 25 70]
def v0i:SS:=[lA 71 2 2,cB 72 h0X [t 71],lA 73 2 3,cA 74 h0X [t 73],o 75 (.bin 1 .neq (t 72) (t 74)),mV 76 7,cA 77 l0t [t 75,t 76],sT 2 4 77]
def M0y:SF:=⟨2,78,[.cell 4 true 2],
 (qS (gR B0Z) (qS (.draw C0a [0,1,0,7,15,31] []) (qS (gR C0b) (qS (qS (gR C0c) (.block 0 (.loop (qS (gR v0j) (qS (.cond (t 26) .skip (.exit 0)) (qS (.block 1 (qS (gR C0d) (qS (gR C0e) (qS (qS (gR C0f) (.block 2 (.loop (qS (gR v0k) (qS (.cond (t 33) .skip (.exit 2)) (qS (.block 3 (qS (gR C0g) (qS (gR v0c) (qS (gR v0d) (gR v0e))))) (gR v0f))))))) (gR v0g))))) (gR v0h))))))) (qS (.draw v0i [0,1,0,7,15,0,63,127] []) .ret)))))⟩
def C0h:SS:=[o 2 (.alloc a0a zI)]
def v0l:SS:=[mV 4 0,cV 5 .u64 4,mV 3 5]
def v0m:SS:=[mV 6 0,o 7 (bI .lss 6 0)]
def C0i:SS:=[mV 8 3,o 9 (.un .neg (t 8)),mV 3 9]
def v0n:SS:=[mV 10 0,o 11 (bI .lss 10 0),mV 12 3,cV 13 .u32 12,mV 14 3,o 15 (.bin 0 .shr (t 14) (.const (.int .u64 32))),cV 16 .u32 15,o 17 (.lit a0b [.int .u32 0] 2 [(0,1,t 13),(1,1,t 16)]),cA 18 p0w [t 11,t 17],sT 2 2 18]
def M0z:SF:=⟨1,19,[.cell 2 true 2],
 (qS (gR C0h) (qS (gR v0l) (qS (qS (gR v0m) (.cond (t 7) (gR C0i) .skip)) (qS (gR v0n) .ret))))⟩
def C0j:SS:=[bX 2 a0h 0,bX 3 a0h 1,mI 4 0]
def C0k:SS:=[lA 5 4 2,cA 6 H0d [t 5],sT 4 2 6]
def C0l:SS:=[lA 7 4 3,cA 8 H0d [t 7],sT 4 3 8]
def C0m:SS:=[fA 9 0 2,lA 10 2 9,fA 11 2 3,lA 12 2 11,cB 13 H0e [t 10,t 12],fA 14 0 3,lA 15 2 14,fA 16 2 2,lA 17 2 16,cA 18 H0e [t 15,t 17],cA 19 I0G [t 13,t 18],mV 4 19]
def M0A:SF:=⟨2,20,[.tmp 4],
 (qS (gR C0j) (qS (gR C0k) (qS (gR C0l) (qS (.draw C0m [0,1,0,4,15,0,32,0,128,511,1023,2047] []) .ret))))⟩
def C0n:SS:=[bX 2 a0a 0,bX 3 a0a 1,mB 4 false]
def p0b:SS:=[fA 6 0 2,lD 7 6,fA 8 0 3,lD 9 8,o 10 (.bin 1 .neq (t 7) (t 9)),mV 11 10,gF 12 11 (fS 1 2),gF 13 11 (lS 12),gF 14 11 (nS 13),gF 15 11 (fS 1 3),gF 16 11 (lS 15),gF 17 11 (nS 16),gF 18 11 (bT .neq 14 17),pT 19 11 18]
def v0o:SS:=[mB 4 false]
def C0o:SS:=[mI 5 0]
def C0p:SS:=[mV 20 5,fA 21 1 2,lD 22 21,lN 23 22,o 24 (bT .lss 20 23)]
def C0q:SS:=[fA 27 1 2,lD 28 27,mV 29 5,iA 30 1 28 29,lD 31 30,fA 32 1 3,lD 33 32,mV 34 5,iA 35 1 33 34,lD 36 35,o 37 (bT .neq 31 36)]
def C0r:SS:=[mB 4 false]
def C0s:SS:=[mV 25 5,o 26 (bI .add 25 1),mV 5 26]
def C0t:SS:=[mB 4 true]
def M0B:SF:=⟨2,38,[.tmp 4],
 (qS (gR C0n) (qS (qS (gR p0b) (.cond (t 19) (qS (gR v0o) .ret) .skip)) (qS (qS (gR C0o) (.block 0 (.loop (qS (qS (gR C0p) (.cond (t 24) .skip (.exit 0))) (qS (.block 1 (qS (.draw C0q [0,1,0,7,15,0,32,0,224,480,1023] []) (.cond (t 37) (qS (gR C0r) .ret) .skip))) (gR C0s)))))) (qS (gR C0t) .ret))))⟩
def C0u:SS:=[o 4 (.mv (.const (.map none)))]
def C0v:SS:=[o 8 (.mkmap),mV 5 8]
def C0w:SS:=[mV 9 0,lN 10 9,mI 11 0]
def J0V:SS:=[o 12 (bT .lss 11 10)]
def J0W:SS:=[iA 13 6 9 11,lA 14 6 13,o 7 (.alloc b0Y [.int .i64 0,.int .i64 0,.int .i64 0,.slice none 0 0,.slice none 0 0,.slice none 0 0]),sT 6 7 14]
def J0X:SS:=[mV 15 5,mV 16 1,lA 17 6 7,o 18 (.callv (t 16) [t 17] false),mV 19 5,mV 20 1,lA 21 6 7,o 22 (.callv (t 20) [t 21] false),o 23 (.look (.slice none 0 0) (t 19) (t 22)),lA 24 6 7,o 25 (.lit b0Y [.int .i64 0,.int .i64 0,.int .i64 0,.slice none 0 0,.slice none 0 0,.slice none 0 0] 1 [(0,6,t 24)]),o 26 (.app b0Y 6 96 (t 23) (t 25)),⟨none,none,.stuck⟩]
def J0Y:SS:=[o 27 (bI .add 11 1),mV 11 27]
def C0x:SS:=[mV 28 5,mV 4 28]
def M0C:SF:=⟨2,29,[.tmp 4],
 (qS (gR C0u) (qS (gR C0v) (qS (qS (gR C0w) (.block 0 (.loop (qS (gR J0V) (qS (.cond (t 12) .skip (.exit 0)) (qS (.block 1 (qS (gR J0W) (.draw J0X [0,0,0,6,0,0,0,110,254,0,512,2046,4095] []))) (gR J0Y))))))) (qS (gR C0x) .ret))))⟩
def J0Z:SS:=[bX 1 b0Y 0,mI 2 0]
def K0a:SS:=[fA 3 1 1,lD 4 3,mV 2 4]
def O0T:SF:=⟨1,5,[.tmp 2],
 (qS (gR J0Z) (qS (gR K0a) .ret))⟩
def K0b:SS:=[bX 2 b0Y 0,mB 4 false]
def K0c:SS:=[fA 8 3 2,lD 9 8,lN 10 9,mV 5 10]
def K0d:SS:=[mV 11 1,lN 12 11,mI 13 0]
def K0e:SS:=[o 14 (bT .lss 13 12)]
def K0f:SS:=[iA 15 5 11 13,lA 16 5 15,o 7 (.alloc a0x zE),sT 5 7 16]
def K0g:SS:=[fA 17 0 7,lD 18 17]
def K0h:SS:=[o 20 (.bin 0 .eql (t 18) (.const (.int .i64 (-1)))),mV 19 20]
def K0i:SS:=[mB 4 false]
def K0j:SS:=[o 22 (bI .eql 18 0),mV 21 22]
def K0k:SS:=[mV 23 5,o 24 (bI .add 23 1),mV 5 24]
def G0k:SS:=[o 25 (bI .add 13 1),mV 13 25]
def G0l:SS:=[mV 26 5,o 27 (bI .gtr 26 60),mV 28 27,gF 29 28 (fS 4 2),gF 30 28 (lS 29),gF 31 28 (nS 30),gF 32 28 (fS 2 2),gF 33 28 (lS 32),gF 34 28 (bT .add 31 33),gF 35 28 (bI .gtr 34 60),pT 36 28 35,mV 4 36]
def O0U:SF:=⟨2,37,[.tmp 4],
 (qS (gR K0b) (qS (gR K0c) (qS (qS (gR K0d) (.block 0 (.loop (qS (gR K0e) (qS (.cond (t 14) .skip (.exit 0)) (qS (.block 1 (qS (gR K0f) (qS (gR K0g) (.block 2 (qS (gR K0h) (.cond (t 19) (qS (gR K0i) .ret) (qS (gR K0j) (.cond (t 21) (gR K0k) .skip)))))))) (gR G0k))))))) (qS (gR G0l) .ret))))⟩
def v0p:SS:=[mB 4 false]
def v0q:SS:=[mV 5 0,lN 6 5,mV 7 1,o 8 (bT .eql 6 7),mV 9 8,gT 10 9 (mS 0),gT 11 9 (.call I0w [t 10,.fn I0x] true),gT 12 9 (.un .not (t 11)),pF 13 9 12,mV 4 13]
def K0V:SF:=⟨2,14,[.tmp 4],
 (qS (gR v0p) (qS (gR v0q) .ret))⟩
def C0y:SS:=[mB 4 false]
def C0z:SS:=[mV 5 0,mV 6 1,cA 7 I0H [t 5,t 6],o 8 (bI .geq 7 0),mV 4 8]
def M0D:SF:=⟨2,9,[.tmp 4],
 (qS (gR C0y) (qS (gR C0z) .ret))⟩
def C0A:SS:=[bX 1 a0a 0,mB 2 false]
def C0B:SS:=[lA 3 2 1,cA 4 v0Y [t 3],nT 5 4,mV 2 5]
def M0E:SF:=⟨1,6,[.tmp 2],
 (qS (gR C0A) (qS (gR C0B) .ret))⟩
def C0C:SS:=[bX 1 a0a 0,mB 2 false]
def C0D:SS:=[fA 3 1 1,lD 4 3,lN 5 4,o 6 (bI .eql 5 0)]
def C0E:SS:=[fA 7 0 1,lD 8 7,nT 9 8,mV 2 9]
def C0F:SS:=[fA 10 1 1,lD 11 10,fA 12 1 1,lD 13 12,lN 14 13,o 15 (bI .sub 14 1),iA 16 1 11 15,lD 17 16,o 18 (.bin 0 .neq (t 17) (.const (.int .u32 0))),mV 2 18]
def M0F:SF:=⟨1,19,[.tmp 2],
 (qS (gR C0C) (qS (qS (gR C0D) (.cond (t 6) (qS (gR C0E) .ret) .skip)) (qS (gR C0F) .ret)))⟩
def C0G:SS:=[mB 4 false]
def C0H:SS:=[mV 5 0,mV 6 1,cA 7 I0I [t 5,t 6],o 8 (bI .geq 7 0),mV 4 8]
def M0G:SF:=⟨2,9,[.tmp 4],
 (qS (gR C0G) (qS (gR C0H) .ret))⟩
def C0I:SS:=[bX 4 i0n 0,mB 5 false]
def C0J:SS:=[lD 6 1,fA 7 0 4,lD 8 7,lD 9 2,o 10 (.callv (t 6) [t 8,t 9] true),nT 11 10,mV 12 11,gF 13 12 (lS 1),gF 14 12 (fS 1 4),gF 15 12 (lS 14),gF 16 12 (lS 3),gF 17 12 (.callv (t 13) [t 15,t 16] true),gF 18 12 (.un .not (t 17)),pT 19 12 18,mV 20 19,gF 21 20 (fS 2 4),gF 22 20 (aS 2 21),gF 23 20 (.call v0Y [t 22] true),gF 24 20 (.un .not (t 23)),pT 25 20 24,mV 5 25]
def M0H:SF:=⟨4,26,[.tmp 5],
 (qS (gR C0I) (qS (gR C0J) .ret))⟩
def C0K:SS:=[bX 1 a0h 0,mB 2 false]
def m0f:SS:=[fA 3 0 1,fA 4 0 3,lD 5 4,nT 6 5,mV 7 6,gT 8 7 (fS 0 1),gT 9 7 (fS 1 8),gT 10 7 (lS 9),gT 11 7 (nS 10),gT 12 7 (bI .eql 11 0),pF 13 7 12,mV 14 13,gT 15 14 (fS 2 1),gT 16 14 (fS 0 15),gT 17 14 (lS 16),gT 18 14 (.un .not (t 17)),pF 19 14 18,mV 20 19,gT 21 20 (fS 2 1),gT 22 20 (fS 1 21),gT 23 20 (lS 22),gT 24 20 (nS 23),gT 25 20 (bI .eql 24 0),pF 26 20 25,mV 2 26]
def M0I:SF:=⟨1,27,[.tmp 2],
 (qS (gR C0K) (qS (gR m0f) .ret))⟩
def C0L:SS:=[bX 1 a0a 0,mB 2 false]
def C0M:SS:=[lA 3 2 1,o 4 (.build zI []),cA 5 x0V [t 3,t 4],o 6 (bI .eql 5 0),mV 2 6]
def M0J:SF:=⟨1,7,[.tmp 2],
 (qS (gR C0L) (qS (gR C0M) .ret))⟩
def C0N:SS:=[bX 2 a0a 0,bX 3 a0a 1,o 4 (.alloc a0a zI)]
def C0O:SS:=[lA 10 2 2,cB 11 l0s [t 10],o 12 (.call l0t [(.const (.bool false)),t 11] false),lA 13 2 3,cB 14 l0s [t 13],o 15 (.call l0t [(.const (.bool false)),t 14] false),o 5 (.alloc a0a zI),o 6 (.alloc a0a zI),sT 2 5 12,sT 2 6 15]
def v0r:SS:=[fA 16 1 6,lD 17 16,lN 18 17,o 19 (bI .gtr 18 0)]
def C0P:SS:=[lA 21 2 5,lA 22 2 6,cA 23 F0H [t 21,t 22],mV 20 23,eX 24 20 0,eX 25 20 1,eX 26 20 2,o 7 (.alloc a0a zI),o 8 (.alloc a0a zI),sT 2 7 24,sT 2 8 25,mV 9 26]
def C0Q:SS:=[lA 27 2 6,lA 28 2 8,sT 2 5 27,sT 2 6 28]
def C0R:SS:=[lA 29 2 5,sT 2 4 29]
def M0K:SF:=⟨2,30,[.cell 4 true 2],
 (qS (gR C0N) (qS (.draw C0O [0,1,3,0,15,31,0,0,255,511] []) (qS (.block 0 (.loop (qS (qS (gR v0r) (.cond (t 19) .skip (.exit 0))) (.block 1 (qS (gR C0P) (.draw C0Q [0,0,1,7] [(1,2)])))))) (qS (gR C0R) .ret))))⟩
def C0S:SS:=[o 0 (.alloc a0a zI)]
def C0T:SS:=[cA 1 I0J [i 1],sT 2 0 1]
def M0L:SF:=⟨0,2,[.cell 0 true 2],
 (qS (gR C0S) (qS (gR C0T) .ret))⟩
def C0U:SS:=[mI 4 0]
def C0V:SS:=[mV 6 0,lN 7 6,mI 8 0]
def K0q:SS:=[o 9 (bT .lss 8 7)]
def C0W:SS:=[mV 10 8,mV 5 10]
def C0X:SS:=[mV 11 1,mV 12 0,mV 13 5,iA 14 5 12 13,lA 15 5 14,o 16 (.callv (t 11) [t 15] true)]
def C0Y:SS:=[mV 17 5,mV 4 17]
def K0r:SS:=[o 18 (bI .add 8 1),mV 8 18]
def C0Z:SS:=[o 4 (.mv (.const (.int .i64 (-1))))]
def M0M:SF:=⟨2,19,[.tmp 4],
 (qS (gR C0U) (qS (qS (gR C0V) (.block 0 (.loop (qS (gR K0q) (qS (.cond (t 9) .skip (.exit 0)) (qS (.block 1 (qS (gR C0W) (qS (gR C0X) (.cond (t 16) (qS (gR C0Y) .ret) .skip)))) (gR K0r))))))) (qS (gR C0Z) .ret)))⟩
def D0a:SS:=[bX 1 a0h 0,mB 2 false]
def m0g:SS:=[fA 3 0 1,fA 4 0 3,lD 5 4,nT 6 5,mV 7 6,gT 8 7 (fS 0 1),gT 9 7 (fS 1 8),gT 10 7 (lS 9),gT 11 7 (nS 10),gT 12 7 (bI .eql 11 0),pF 13 7 12,mV 14 13,gT 15 14 (fS 2 1),gT 16 14 (fS 0 15),gT 17 14 (lS 16),gT 18 14 (.un .not (t 17)),pF 19 14 18,mV 20 19,gT 21 20 (fS 2 1),gT 22 20 (fS 1 21),gT 23 20 (lS 22),gT 24 20 (nS 23),gT 25 20 (bI .eql 24 0),pF 26 20 25,mV 2 26]
def M0N:SF:=⟨1,27,[.tmp 2],
 (qS (gR D0a) (qS (gR m0g) .ret))⟩
def D0b:SS:=[bX 1 a0a 0,mB 2 false]
def D0c:SS:=[fA 4 1 1,lD 5 4,lN 6 5,mV 3 6]
def v0s:SS:=[mV 7 3,o 8 (bI .eql 7 0),mV 9 8,gT 10 9 (fS 0 1),gT 11 9 (lS 10),gT 12 9 (.un .not (t 11)),pF 13 9 12,mV 14 13,gF 15 14 (mS 3),gF 16 14 (bI .gtr 15 0),gF 17 14 (mS 16),gT 18 17 (fS 1 1),gT 19 17 (lS 18),gT 20 17 (mS 3),gT 21 17 (bI .sub 20 1),gT 22 17 (iS 1 19 21),gT 23 17 (lS 22),gT 24 17 (.bin 0 .neq (t 23) (.const (.int .u32 0))),gF 25 14 (.pick (t 17) (t 24) (.const (.bool false))),pT 26 14 25,mV 2 26]
def M0O:SF:=⟨1,27,[.tmp 2],
 (qS (gR D0b) (qS (gR D0c) (qS (gR v0s) .ret)))⟩
def D0d:SS:=[mB 2 false]
def D0e:SS:=[mI 3 0]
def D0f:SS:=[mV 4 3,mV 5 0,lN 6 5,o 7 (bT .lss 4 6)]
def D0g:SS:=[mV 10 0,mV 11 3,iA 12 2 10 11,lA 13 2 12,cA 14 w0A [t 13],nT 15 14]
def D0h:SS:=[mB 2 false]
def D0i:SS:=[mV 8 3,o 9 (bI .add 8 1),mV 3 9]
def D0j:SS:=[mB 2 true]
def M0P:SF:=⟨1,16,[.tmp 2],
 (qS (gR D0d) (qS (qS (gR D0e) (.block 0 (.loop (qS (qS (gR D0f) (.cond (t 7) .skip (.exit 0))) (qS (.block 1 (qS (gR D0g) (.cond (t 15) (qS (gR D0h) .ret) .skip))) (gR D0i)))))) (qS (gR D0j) .ret)))⟩
def D0k:SS:=[bX 2 a0a 0,bX 3 a0a 1,o 4 (.alloc a0a zI)]
def D0l:SS:=[lA 9 2 2,cB 10 i0C [t 9],o 11 (.fld false 1 1 (t 10)),lA 12 2 3,cA 13 i0C [t 12],o 14 (.fld false 1 1 (t 13)),mV 5 11,mV 6 14]
def v0t:SS:=[mV 15 6,lN 16 15,o 17 (bI .gtr 16 0)]
def D0m:SS:=[mV 19 5,mV 20 6,cA 21 q0v [t 19,t 20],mV 18 21,eX 22 18 0,eX 23 18 1,mV 7 22,mV 8 23]
def D0n:SS:=[mV 24 6,mV 5 24]
def D0o:SS:=[mV 25 8,mV 6 25]
def D0p:SS:=[mV 26 5,o 27 (.call p0w [(.const (.bool false)),t 26] true),sT 2 4 27]
def M0Q:SF:=⟨2,28,[.cell 4 true 2],
 (qS (gR D0k) (qS (.draw D0l [0,1,3,0,11,27,31,127] []) (qS (.block 0 (.loop (qS (qS (gR v0t) (.cond (t 17) .skip (.exit 0))) (.block 1 (qS (gR D0m) (qS (gR D0n) (gR D0o))))))) (qS (gR D0p) .ret))))⟩
def D0q:SS:=[bX 1 a0h 0,mB 2 false]
def m0h:SS:=[fA 3 0 1,fA 4 1 3,lD 5 4,lN 6 5,o 7 (bI .eql 6 0),mV 8 7,gT 9 8 (fS 0 1),gT 10 8 (fS 0 9),gT 11 8 (lS 10),gT 12 8 (.un .not (t 11)),pF 13 8 12,mV 14 13,gT 15 14 (fS 2 1),gT 16 14 (fS 1 15),gT 17 14 (lS 16),gT 18 14 (nS 17),gT 19 14 (bI .eql 18 0),pF 20 14 19,mV 21 20,gT 22 21 (fS 2 1),gT 23 21 (fS 0 22),gT 24 21 (lS 23),gT 25 21 (.un .not (t 24)),pF 26 21 25,mV 2 26]
def M0R:SF:=⟨1,27,[.tmp 2],
 (qS (gR D0q) (qS (gR m0h) .ret))⟩
def D0r:SS:=[bX 2 a0a 0,bX 3 a0a 1,o 4 (.alloc a0h zR)]
def D0s:SS:=[lA 8 2 2,lA 9 2 3,cA 10 q0w [t 8,t 9],mV 7 10,eX 11 7 0,eX 12 7 1,o 5 (.alloc a0h zR),sT 4 5 11,mV 6 12]
def D0t:SS:=[lA 13 4 5,sT 4 4 13]
def M0S:SF:=⟨2,14,[.cell 4 true 4],
 (qS (gR D0r) (qS (gR D0s) (qS (gR D0t) .ret)))⟩
def D0u:SS:=[bX 4 a0a 1,o 6 (.alloc a0a zI)]
def D0v:SS:=[mV 9 2,lN 10 9,mI 11 0]
def v0u:SS:=[o 12 (bT .lss 11 10)]
def D0w:SS:=[iA 13 2 9 11,lA 14 2 13,o 8 (.alloc a0a zI),sT 2 8 14]
def D0x:SS:=[mV 15 0,lA 16 2 4,lA 17 2 8,o 18 (.callv (t 15) [t 16,t 17] true),sT 2 4 18]
def D0y:SS:=[o 19 (bI .add 11 1),mV 11 19]
def D0z:SS:=[lA 20 2 4,sT 2 6 20]
def M0T:SF:=⟨3,21,[.cell 6 true 2],
 (qS (gR D0u) (qS (qS (gR D0v) (.block 0 (.loop (qS (gR v0u) (qS (.cond (t 12) .skip (.exit 0)) (qS (.block 1 (qS (gR D0w) (gR D0x))) (gR D0y))))))) (qS (gR D0z) .ret)))⟩
def D0A:SS:=[bX 2 a0a 0,bX 3 a0a 1,o 4 (.alloc a0a zI)]
def D0B:SS:=[lA 7 2 2,cB 8 l0s [t 7],lA 9 2 3,cA 10 l0s [t 9],mV 5 8,mV 6 10]
def D0C:SS:=[lA 12 2 2,cB 13 h0X [t 12],lA 14 2 3,cA 15 h0X [t 14],o 16 (.bin 1 .eql (t 13) (t 15)),mV 11 16]
def D0D:SS:=[lA 17 2 2,cA 18 h0X [t 17],mV 19 5,mV 20 6,cA 21 q0x [t 19,t 20],cA 22 l0t [t 18,t 21],sT 2 4 22]
def D0E:SS:=[mV 24 5,mV 25 6,cA 26 x0W [t 24,t 25],o 27 (bI .geq 26 0),mV 23 27]
def D0F:SS:=[lA 28 2 2,cA 29 h0X [t 28],mV 30 5,mV 31 6,cA 32 p0u [t 30,t 31],cA 33 l0t [t 29,t 32],sT 2 4 33]
def D0G:SS:=[lA 34 2 3,cA 35 h0X [t 34],mV 36 6,mV 37 5,cA 38 p0u [t 36,t 37],cA 39 l0t [t 35,t 38],sT 2 4 39]
def M0U:SF:=⟨2,40,[.cell 4 true 2],
 (qS (gR D0A) (qS (.draw D0B [0,1,0,7,15,31] []) (qS (.block 0 (qS (.draw D0C [0,1,0,7,15,31] []) (.cond (t 11) (qS (gR D0D) .ret) (qS (gR D0E) (.cond (t 23) (qS (gR D0F) .ret) .skip))))) (qS (gR D0G) .ret))))⟩
def D0H:SS:=[bX 1 a0a 0,mB 2 false]
def D0I:SS:=[lA 3 2 1,cA 4 v0Y [t 3],mV 5 4,gT 6 5 (fS 0 1),gT 7 5 (lS 6),pF 8 5 7,mV 2 8]
def M0V:SF:=⟨1,9,[.tmp 2],
 (qS (gR D0H) (qS (gR D0I) .ret))⟩
def D0J:SS:=[mI 4 0]
def D0K:SS:=[mV 6 0,lN 7 6,mV 8 1,lN 9 8,o 10 (bT .neq 7 9)]
def D0L:SS:=[mV 11 0,lN 12 11,mV 13 1,lN 14 13,cA 15 q0y [t 12,t 14],mV 4 15]
def D0M:SS:=[mV 16 0,lN 17 16,o 18 (bI .sub 17 1),mV 5 18]
def v0v:SS:=[mV 19 5,o 20 (bI .geq 19 0)]
def D0N:SS:=[mV 23 0,mV 24 5,iA 25 1 23 24,lD 26 25,mV 27 1,mV 28 5,iA 29 1 27 28,lD 30 29,o 31 (bT .neq 26 30)]
def D0O:SS:=[mV 32 0,mV 33 5,iA 34 1 32 33,lD 35 34,mV 36 1,mV 37 5,iA 38 1 36 37,lD 39 38,cA 40 q0z [t 35,t 39],mV 4 40]
def D0P:SS:=[mV 21 5,o 22 (bI .sub 21 1),mV 5 22]
def D0Q:SS:=[mI 4 0]
def M0W:SF:=⟨2,41,[.tmp 4],
 (qS (gR D0J) (qS (qS (gR D0K) (.cond (t 10) (qS (gR D0L) .ret) .skip)) (qS (qS (gR D0M) (.block 0 (.loop (qS (qS (gR v0v) (.cond (t 20) .skip (.exit 0))) (qS (.block 1 (qS (.draw D0N [0,0,3,7,0,0,48,112,255] []) (.cond (t 31) (qS (.draw D0O [0,0,3,7,0,0,48,112,255,511] []) .ret) .skip))) (gR D0P)))))) (qS (gR D0Q) .ret))))⟩
def D0R:SS:=[bX 1 a0a 0,mN 2]
def D0S:SS:=[lA 3 2 1,cA 4 v0Y [t 3],nT 5 4]
def D0T:SS:=[mN 2]
def D0U:SS:=[fA 6 1 1,lD 7 6,mV 2 7]
def M0X:SF:=⟨1,8,[.tmp 2],
 (qS (gR D0R) (qS (qS (gR D0S) (.cond (t 5) (qS (gR D0T) .ret) .skip)) (qS (gR D0U) .ret)))⟩
def D0V:SS:=[o 2 (.mv (.const (.int .u32 0)))]
def D0W:SS:=[mV 3 0,cV 4 .u32 3,mV 2 4]
def M0Y:SF:=⟨1,5,[.tmp 2],
 (qS (gR D0V) (qS (gR D0W) .ret))⟩
def D0X:SS:=[o 4 (.alloc a0a zI)]
def D0Y:SS:=[mV 6 1,lN 7 6,mV 5 7]
def v0w:SS:=[mV 8 5,o 9 (bI .gtr 8 0),mV 10 9,gT 11 10 (mS 1),gT 12 10 (mS 5),gT 13 10 (bI .sub 12 1),gT 14 10 (iS 1 11 13),gT 15 10 (lS 14),gT 16 10 (.bin 0 .eql (t 15) (.const (.int .u32 0))),pF 17 10 16]
def D0Z:SS:=[mV 18 5,o 19 (bI .sub 18 1),mV 5 19]
def E0a:SS:=[mV 20 5,o 21 (bI .eql 20 0)]
def E0b:SS:=[o 22 (.build zI []),sT 2 4 22]
def E0c:SS:=[mV 23 0,mV 24 1,mV 25 5,o 26 (.sl a0b 1 (t 24) none (some (t 25)) none),cA 27 q0A [t 26],o 28 (.build zI [(0,1,t 23),(1,1,t 27)]),sT 2 4 28]
def M0Z:SF:=⟨2,29,[.cell 4 true 2],
 (qS (gR D0X) (qS (gR D0Y) (qS (.block 0 (.loop (qS (qS (gR v0w) (.cond (t 17) .skip (.exit 0))) (.block 1 (gR D0Z))))) (qS (qS (gR E0a) (.cond (t 21) (qS (gR E0b) .ret) .skip)) (qS (gR E0c) .ret)))))⟩
def E0d:SS:=[o 4 (.alloc a0a zI)]
def E0e:SS:=[mV 5 1,cA 6 i0D [t 5],mV 1 6]
def v0x:SS:=[mV 7 1,lN 8 7,o 9 (bI .eql 8 0)]
def E0f:SS:=[o 10 (.build zI []),sT 2 4 10]
def E0g:SS:=[mV 11 0,o 12 (.lit a0b [.int .u32 0] 0 []),mV 13 1,o 14 (.app a0b 1 4 (t 12) (t 13)),o 15 (.build zI [(0,1,t 11),(1,1,t 14)]),sT 2 4 15]
def N0a:SF:=⟨2,16,[.cell 4 true 2],
 (qS (gR E0d) (qS (gR E0e) (qS (qS (gR v0x) (.cond (t 9) (qS (gR E0f) .ret) .skip)) (qS (gR E0g) .ret))))⟩
def E0h:SS:=[bX 1 a0h 0,o 2 (.alloc a0h zR)]
def E0i:SS:=[lA 3 4 1,cA 4 F0F [t 3],nT 5 4,mV 6 5,gF 7 6 (fS 2 1),gF 8 6 (fS 1 7),gF 9 6 (lS 8),gF 10 6 (nS 9),gF 11 6 (bI .eql 10 0),pT 12 6 11]
def v0y:SS:=[cA 13 q0B [],sT 4 2 13]
def E0j:SS:=[fA 14 0 1,fA 15 0 14,lD 16 15,fA 17 0 1,fA 18 1 17,lD 19 18,cB 20 p0w [t 16,t 19],fA 21 2 1,fA 22 1 21,lD 23 22,o 24 (.call p0w [(.const (.bool false)),t 23] true),o 25 (.build zR [(0,2,t 20),(2,2,t 24)]),sT 4 2 25]
def N0b:SF:=⟨1,26,[.cell 2 true 4],
 (qS (gR E0h) (qS (qS (gR E0i) (.cond (t 12) (qS (gR v0y) .ret) .skip)) (qS (.draw E0j [0,1,3,0,8,24,63,0,128,384,1023,2047,4095] []) .ret)))⟩
def E0k:SS:=[bX 2 a0a 0,bX 3 a0a 1,mI 4 0]
def E0l:SS:=[lA 6 2 2,lA 7 2 3,cA 8 q0C [t 6,t 7],o 5 (.alloc a0a zI),sT 2 5 8]
def p0c:SS:=[fA 9 1 5,lD 10 9,lN 11 10,o 12 (bI .eql 11 0)]
def E0m:SS:=[mI 4 0]
def v0z:SS:=[fA 13 0 5,lD 14 13]
def E0n:SS:=[o 4 (.mv (.const (.int .i64 (-1))))]
def E0o:SS:=[mI 4 1]
def N0c:SF:=⟨2,15,[.tmp 4],
 (qS (gR E0k) (qS (gR E0l) (qS (qS (gR p0c) (.cond (t 12) (qS (gR E0m) .ret) .skip)) (qS (qS (gR v0z) (.cond (t 14) (qS (gR E0n) .ret) .skip)) (qS (gR E0o) .ret)))))⟩
def E0p:SS:=[bX 2 a0a 0,bX 3 a0a 1,o 4 (.alloc a0a zI)]
def E0q:SS:=[lA 5 2 2,cA 6 i0C [t 5],sT 2 2 6]
def E0r:SS:=[lA 7 2 3,cA 8 i0C [t 7],sT 2 3 8]
def E0s:SS:=[fA 9 0 2,lD 10 9,fA 11 0 3,lD 12 11,o 13 (.bin 1 .neq (t 10) (t 12)),fA 14 1 2,lD 15 14,fA 16 1 3,lD 17 16,cB 18 q0D [t 15,t 17],cA 19 p0w [t 13,t 18],sT 2 4 19]
def N0d:SF:=⟨2,20,[.cell 4 true 2],
 (qS (gR E0p) (qS (gR E0q) (qS (gR E0r) (qS (.draw E0s [0,1,0,4,15,0,32,0,128,480,1023,2047] []) .ret))))⟩
def E0t:SS:=[mI 4 0]
def E0u:SS:=[mV 6 0,lN 7 6,mI 8 0]
def K0C:SS:=[o 9 (bT .lss 8 7)]
def E0v:SS:=[mV 10 8,mV 5 10]
def E0w:SS:=[mV 11 1,mV 12 0,mV 13 5,iA 14 2 12 13,lA 15 2 14,o 16 (.callv (t 11) [t 15] true)]
def E0x:SS:=[mV 17 5,mV 4 17]
def K0D:SS:=[o 18 (bI .add 8 1),mV 8 18]
def E0y:SS:=[o 4 (.mv (.const (.int .i64 (-1))))]
def N0e:SF:=⟨2,19,[.tmp 4],
 (qS (gR E0t) (qS (qS (gR E0u) (.block 0 (.loop (qS (gR K0C) (qS (.cond (t 9) .skip (.exit 0)) (qS (.block 1 (qS (gR E0v) (qS (gR E0w) (.cond (t 16) (qS (gR E0x) .ret) .skip)))) (gR K0D))))))) (qS (gR E0y) .ret)))⟩
def E0z:SS:=[mI 4 0]
def E0A:SS:=[mV 6 0,lN 7 6,mI 8 0]
def K0E:SS:=[o 9 (bT .lss 8 7)]
def E0B:SS:=[mV 10 8,mV 5 10]
def E0C:SS:=[mV 11 1,mV 12 0,mV 13 5,iA 14 4 12 13,lA 15 4 14,o 16 (.callv (t 11) [t 15] true)]
def E0D:SS:=[mV 17 5,mV 4 17]
def K0F:SS:=[o 18 (bI .add 8 1),mV 8 18]
def E0E:SS:=[o 4 (.mv (.const (.int .i64 (-1))))]
def N0f:SF:=⟨2,19,[.tmp 4],
 (qS (gR E0z) (qS (qS (gR E0A) (.block 0 (.loop (qS (gR K0E) (qS (.cond (t 9) .skip (.exit 0)) (qS (.block 1 (qS (gR E0B) (qS (gR E0C) (.cond (t 16) (qS (gR E0D) .ret) .skip)))) (gR K0F))))))) (qS (gR E0E) .ret)))⟩
def E0F:SS:=[bX 2 a0a 0,bX 3 a0a 1,o 4 (.alloc a0a zI),o 5 (.alloc a0a zI),mI 6 0]
def E0G:SS:=[lA 13 2 2,cB 14 l0s [t 13],lA 15 2 3,cA 16 l0s [t 15],mV 7 14,mV 8 16]
def E0H:SS:=[mV 18 8,lN 19 18,o 20 (bI .eql 19 0),mV 17 20]
def K0G:SS:=[o 21 (.build zI []),o 22 (.build zI []),sT 2 4 21,sT 2 5 22,mI 6 1]
def E0I:SS:=[mV 24 7,mV 25 8,cA 26 x0W [t 24,t 25],o 27 (bI .lss 26 0),mV 23 27]
def E0J:SS:=[o 28 (.build zI []),lA 29 2 2,cA 30 h0X [t 29],mV 31 7,cA 32 l0t [t 30,t 31],sT 2 4 28,sT 2 5 32,mI 6 0]
def v0B:SS:=[mV 34 8,lN 35 34,o 36 (bI .eql 35 1),mV 33 36]
def E0K:SS:=[mV 38 7,mV 39 8,o 40 (.ia 1 (t 39) (i 0)),lD 41 40,cA 42 q0E [t 38,t 41],mV 37 42,eX 43 37 0,eX 44 37 1,mV 9 43,mV 10 44]
def E0L:SS:=[lA 45 2 2,cB 46 h0X [t 45],lA 47 2 3,cB 48 h0X [t 47],o 49 (.bin 1 .neq (t 46) (t 48)),mV 50 9,cB 51 l0t [t 49,t 50],lA 52 2 2,cB 53 h0X [t 52],mV 54 10,o 55 (.lit a0b [.int .u32 0] 1 [(0,1,t 54)]),cA 56 l0t [t 53,t 55],sT 2 4 51,sT 2 5 56,mI 6 0]
def E0M:SS:=[mV 58 7,mV 59 8,cA 60 q0F [t 58,t 59],mV 57 60,eX 61 57 0,eX 62 57 1,mV 11 61,mV 12 62]
def v0A:SS:=[lA 63 2 2,cB 64 h0X [t 63],lA 65 2 3,cB 66 h0X [t 65],o 67 (.bin 1 .neq (t 64) (t 66)),mV 68 11,cB 69 l0t [t 67,t 68],lA 70 2 2,cA 71 h0X [t 70],mV 72 12,cA 73 l0t [t 71,t 72],sT 2 4 69,sT 2 5 73,mI 6 0]
def N0g:SF:=⟨2,74,[.cell 4 true 2,.cell 5 true 2,.tmp 6],
 (qS (gR E0F) (qS (.draw E0G [0,1,0,7,15,31] []) (qS (.block 0 (qS (gR E0H) (.cond (t 17) (qS (gR K0G) .ret) (qS (gR E0I) (.cond (t 23) (qS (gR E0J) .ret) (qS (gR v0B) (.cond (t 33) (qS (gR E0K) (qS (.draw E0L [0,1,0,7,15,0,63,0,255,0,512,2047,4095,8191,16383] []) .ret)) .skip))))))) (qS (gR E0M) (qS (.draw v0A [0,1,0,7,15,0,63,0,255,0,1023,2047,4095,8191] []) .ret)))))⟩
def E0N:SS:=[o 2 (.alloc a0a zI)]
def E0O:SS:=[mV 4 0,cV 5 .u64 4,mV 3 5]
def E0P:SS:=[mV 6 0,o 7 (bI .lss 6 0)]
def E0Q:SS:=[mV 8 3,o 9 (.un .neg (t 8)),mV 3 9]
def E0R:SS:=[mV 10 0,o 11 (bI .lss 10 0),mV 12 3,cA 13 k0p [t 12],mV 14 3,o 15 (.bin 0 .shr (t 14) (.const (.int .u64 32))),cA 16 k0p [t 15],o 17 (.lit a0b [.int .u32 0] 2 [(0,1,t 13),(1,1,t 16)]),cA 18 l0t [t 11,t 17],sT 2 2 18]
def N0h:SF:=⟨1,19,[.cell 2 true 2],
 (qS (gR E0N) (qS (gR E0O) (qS (qS (gR E0P) (.cond (t 7) (gR E0Q) .skip)) (qS (gR E0R) .ret))))⟩
def r0E:SS:=[bX 1 a0a 0,o 2 (.alloc a0a zI)]
def r0F:SS:=[lA 3 2 1,cA 4 w0A [t 3],nT 5 4]
def r0G:SS:=[o 6 (.build zI []),sT 2 2 6]
def r0H:SS:=[lA 7 2 1,sT 2 2 7]
def x0d:SF:=⟨1,8,[.cell 2 true 2],
 (qS (gR r0E) (qS (qS (gR r0F) (.cond (t 5) (qS (gR r0G) .ret) .skip)) (qS (gR r0H) .ret)))⟩
def r0I:SS:=[mN 4,mN 5]
def r0J:SS:=[mV 10 0,mV 11 1,cA 12 m0C [t 10,t 11],o 13 (bI .lss 12 0)]
def r0K:SS:=[mV 14 0,mN 4,mV 5 14]
def r0L:SS:=[mV 15 0,lN 16 15,o 17 (.mk a0b 4 [.int .u32 0] (t 16) (t 16)),mV 6 17]
def r0M:SS:=[mN 7]
def r0N:SS:=[mV 18 0,lN 19 18,o 20 (bI .sub 19 1),mV 8 20]
def m0X:SS:=[mV 21 8,o 22 (bI .geq 21 0)]
def r0O:SS:=[mI 9 31]
def m0Y:SS:=[mV 25 9,o 26 (bI .geq 25 0)]
def r0P:SS:=[mV 29 7,mV 30 0,mV 31 8,iA 32 1 30 31,lD 33 32,mV 34 9,cV 35 .u64 34,o 36 (bT .shr 33 35),o 37 (.bin 0 .and (t 36) (.const (.int .u32 1))),o 38 (.bin 0 .eql (t 37) (.const (.int .u32 1))),cA 39 q0G [t 29,t 38],mV 7 39]
def o0u:SS:=[mV 40 7,mV 41 1,cA 42 m0C [t 40,t 41],o 43 (bI .geq 42 0)]
def o0v:SS:=[mV 44 7,mV 45 1,cA 46 l0J [t 44,t 45],mV 7 46]
def o0w:SS:=[mV 47 6,mV 48 8,mV 49 6,mV 50 8,iA 51 1 49 50,lD 52 51,mV 53 9,cV 54 .u64 53,o 55 (.bin 0 .shl (.const (.int .u32 1)) (t 54)),o 56 (bT .or 52 55),iA 57 1 47 48,sT 1 57 56]
def k0M:SS:=[mV 27 9,o 28 (bI .sub 27 1),mV 9 28]
def o0x:SS:=[mV 23 8,o 24 (bI .sub 23 1),mV 8 24]
def o0y:SS:=[mV 58 6,cA 59 i0D [t 58],mV 60 7,mV 4 59,mV 5 60]
def x0e:SF:=⟨2,61,[.tmp 4,.tmp 5],
 (qS (gR r0I) (qS (qS (gR r0J) (.cond (t 13) (qS (gR r0K) .ret) .skip)) (qS (gR r0L) (qS (gR r0M) (qS (qS (gR r0N) (.block 0 (.loop (qS (qS (gR m0X) (.cond (t 22) .skip (.exit 0))) (qS (.block 1 (qS (gR r0O) (.block 2 (.loop (qS (qS (gR m0Y) (.cond (t 26) .skip (.exit 2))) (qS (.block 3 (qS (gR r0P) (qS (gR o0u) (.cond (t 43) (qS (gR o0v) (gR o0w)) .skip)))) (gR k0M))))))) (gR o0x)))))) (qS (gR o0y) .ret))))))⟩
def r0Q:SS:=[bX 2 a0a 0,bX 3 a0a 1,o 4 (.alloc a0h zR),mI 5 0]
def r0R:SS:=[lA 7 2 3,cA 8 G0Z [t 7]]
def F0S:SS:=[o 9 (.build zR []),sT 4 4 9,mI 5 11]
def r0S:SS:=[lA 10 2 2,lA 11 2 3,cA 12 H0a [t 10,t 11],o 6 (.alloc a0a zI),sT 2 6 12]
def r0T:SS:=[lA 13 2 3,o 14 (.build zI []),cA 15 x0V [t 13,t 14],o 16 (bI .lss 15 0)]
def r0U:SS:=[lA 17 2 6,cA 18 q0H [t 17],sT 2 6 18]
def m0Z:SS:=[lA 20 2 2,lA 21 2 6,cA 22 F0H [t 20,t 21],mV 19 22,eX 23 19 0,eX 24 19 1,eX 25 19 2,sT 2 2 23]
def n0a:SS:=[lA 27 2 3,lA 28 2 6,cA 29 F0H [t 27,t 28],mV 26 29,eX 30 26 0,eX 31 26 1,eX 32 26 2,sT 2 3 30]
def n0b:SS:=[lA 33 2 2,lA 34 2 3,o 35 (.build zR [(0,2,t 33),(2,2,t 34)]),sT 4 4 35,mI 5 0]
def x0f:SF:=⟨2,36,[.cell 4 true 4,.tmp 5],
 (qS (gR r0Q) (qS (qS (gR r0R) (.cond (t 8) (qS (gR F0S) .ret) .skip)) (qS (gR r0S) (qS (qS (gR r0T) (.cond (t 16) (gR r0U) .skip)) (qS (gR m0Z) (qS (gR n0a) (qS (gR n0b) .ret)))))))⟩
def r0V:SS:=[mN 4]
def r0W:SS:=[mV 9 0,lN 10 9,mV 11 1,lN 12 11,o 13 (bT .lss 10 12)]
def r0X:SS:=[mV 14 1,mV 15 0,mV 0 14,mV 1 15]
def r0Y:SS:=[mV 16 0,lN 17 16,o 18 (bI .add 17 1),o 19 (.mk a0b 4 [.int .u32 0] (i 0) (t 18)),mV 5 19]
def r0Z:SS:=[o 6 (.mv (.const (.int .u64 0)))]
def s0a:SS:=[mV 20 0,lN 21 20,mI 22 0]
def k0R:SS:=[o 23 (bT .lss 22 21)]
def n0c:SS:=[mV 24 22,iA 25 1 20 22,lD 26 25,mV 7 24,mV 8 26]
def n0d:SS:=[mV 27 6,mV 28 8,cV 29 .u64 28,o 30 (bT .add 27 29),mV 6 30]
def n0e:SS:=[mV 31 7,mV 32 1,lN 33 32,o 34 (bT .lss 31 33)]
def k0N:SS:=[mV 35 6,mV 36 1,mV 37 7,iA 38 1 36 37,lD 39 38,cV 40 .u64 39,o 41 (bT .add 35 40),mV 6 41]
def k0O:SS:=[mV 42 5,mV 43 6,cA 44 k0p [t 43],o 45 (.lit a0b [.int .u32 0] 1 [(0,1,t 44)]),o 46 (.app a0b 1 4 (t 42) (t 45)),mV 5 46]
def k0P:SS:=[mV 47 6,o 48 (.bin 0 .shr (t 47) (.const (.int .u64 32))),mV 6 48]
def k0Q:SS:=[o 49 (bI .add 22 1),mV 22 49]
def o0z:SS:=[mV 50 5,mV 51 6,cA 52 k0p [t 51],o 53 (.lit a0b [.int .u32 0] 1 [(0,1,t 52)]),o 54 (.app a0b 1 4 (t 50) (t 53)),mV 4 54]
def x0g:SF:=⟨2,55,[.tmp 4],
 (qS (gR r0V) (qS (qS (gR r0W) (.cond (t 13) (gR r0X) .skip)) (qS (gR r0Y) (qS (gR r0Z) (qS (qS (gR s0a) (.block 0 (.loop (qS (gR k0R) (qS (.cond (t 23) .skip (.exit 0)) (qS (.block 1 (qS (gR n0c) (qS (gR n0d) (qS (qS (gR n0e) (.cond (t 34) (gR k0N) .skip)) (qS (gR k0O) (gR k0P)))))) (gR k0Q))))))) (qS (gR o0z) .ret))))))⟩
def s0b:SS:=[mN 4]
def s0c:SS:=[mV 11 0,lN 12 11,o 13 (.mk a0b 4 [.int .u32 0] (i 0) (t 12)),mV 5 13]
def s0d:SS:=[o 6 (.mv (.const (.int .u64 0)))]
def s0e:SS:=[mV 14 0,lN 15 14,mI 16 0]
def k0V:SS:=[o 17 (bT .lss 16 15)]
def n0f:SS:=[mV 18 16,iA 19 1 14 16,lD 20 19,mV 7 18,mV 8 20]
def n0g:SS:=[mV 21 6,mV 9 21]
def n0h:SS:=[mV 22 7,mV 23 1,lN 24 23,o 25 (bT .lss 22 24)]
def n0i:SS:=[mV 26 9,mV 27 1,mV 28 7,iA 29 1 27 28,lD 30 29,cV 31 .u64 30,o 32 (bT .add 26 31),mV 9 32]
def n0j:SS:=[mV 33 8,cV 34 .u64 33,mV 35 9,o 36 (bT .sub 34 35),mV 10 36]
def k0S:SS:=[mV 37 5,mV 38 10,cA 39 k0p [t 38],o 40 (.lit a0b [.int .u32 0] 1 [(0,1,t 39)]),o 41 (.app a0b 1 4 (t 37) (t 40)),mV 5 41]
def k0T:SS:=[mV 42 10,o 43 (.bin 0 .shr (t 42) (.const (.int .u64 63))),mV 6 43]
def k0U:SS:=[o 44 (bI .add 16 1),mV 16 44]
def o0A:SS:=[mV 45 5,mV 4 45]
def x0h:SF:=⟨2,46,[.tmp 4],
 (qS (gR s0b) (qS (gR s0c) (qS (gR s0d) (qS (qS (gR s0e) (.block 0 (.loop (qS (gR k0V) (qS (.cond (t 17) .skip (.exit 0)) (qS (.block 1 (qS (gR n0f) (qS (gR n0g) (qS (qS (gR n0h) (.cond (t 25) (gR n0i) .skip)) (qS (gR n0j) (qS (gR k0S) (gR k0T))))))) (gR k0U))))))) (qS (gR o0A) .ret)))))⟩
def s0f:SS:=[mI 4 0]
def s0g:SS:=[mV 6 0,mV 7 1,o 8 (bT .lss 6 7),mV 5 8]
def s0h:SS:=[o 4 (.mv (.const (.int .i64 (-1))))]
def s0i:SS:=[mV 10 0,mV 11 1,o 12 (bT .gtr 10 11),mV 9 12]
def s0j:SS:=[mI 4 1]
def s0k:SS:=[mI 4 0]
def x0i:SF:=⟨2,13,[.tmp 4],
 (qS (gR s0f) (qS (.block 0 (qS (gR s0g) (.cond (t 5) (qS (gR s0h) .ret) (qS (gR s0i) (.cond (t 9) (qS (gR s0j) .ret) .skip))))) (qS (gR s0k) .ret)))⟩
def s0l:SS:=[mI 4 0]
def s0m:SS:=[mV 6 0,mV 7 1,o 8 (bT .lss 6 7),mV 5 8]
def s0n:SS:=[o 4 (.mv (.const (.int .i64 (-1))))]
def s0o:SS:=[mV 10 0,mV 11 1,o 12 (bT .gtr 10 11),mV 9 12]
def s0p:SS:=[mI 4 1]
def s0q:SS:=[mI 4 0]
def x0j:SF:=⟨2,13,[.tmp 4],
 (qS (gR s0l) (qS (.block 0 (qS (gR s0m) (.cond (t 5) (qS (gR s0n) .ret) (qS (gR s0o) (.cond (t 9) (qS (gR s0p) .ret) .skip))))) (qS (gR s0q) .ret)))⟩
def s0r:SS:=[mN 2]
def s0s:SS:=[mV 3 0,o 4 (.bin 2 .eql (t 3) (.const (.slice none 0 0)))]
def s0t:SS:=[mN 2]
def s0u:SS:=[o 5 (.lit a0b [.int .u32 0] 0 []),mV 6 0,o 7 (.app a0b 1 4 (t 5) (t 6)),mV 2 7]
def x0k:SF:=⟨1,8,[.tmp 2],
 (qS (gR s0r) (qS (qS (gR s0s) (.cond (t 4) (qS (gR s0t) .ret) .skip)) (qS (gR s0u) .ret)))⟩
def s0v:SS:=[mN 2]
def s0w:SS:=[mV 4 0,lN 5 4,mV 3 5]
def n0k:SS:=[mV 6 3,o 7 (bI .gtr 6 0),mV 8 7,gT 9 8 (mS 0),gT 10 8 (mS 3),gT 11 8 (bI .sub 10 1),gT 12 8 (iS 1 9 11),gT 13 8 (lS 12),gT 14 8 (.bin 0 .eql (t 13) (.const (.int .u32 0))),pF 15 8 14]
def s0x:SS:=[mV 16 3,o 17 (bI .sub 16 1),mV 3 17]
def s0y:SS:=[mV 18 0,mV 19 3,o 20 (.sl a0b 1 (t 18) none (some (t 19)) none),mV 2 20]
def x0l:SF:=⟨1,21,[.tmp 2],
 (qS (gR s0v) (qS (gR s0w) (qS (.block 0 (.loop (qS (qS (gR n0k) (.cond (t 15) .skip (.exit 0))) (.block 1 (gR s0x))))) (qS (gR s0y) .ret))))⟩
def s0z:SS:=[o 0 (.alloc a0h zR)]
def s0A:SS:=[cA 1 F0G [i 1],o 2 (.build zR [(2,2,t 1)]),sT 4 0 2]
def x0m:SF:=⟨0,3,[.cell 0 true 4],
 (qS (gR s0z) (qS (gR s0A) .ret))⟩
def s0D:SS:=[bX 2 a0a 0,bX 3 a0a 1,o 4 (.alloc a0a zI)]
def s0E:SS:=[lA 5 2 2,lA 6 2 3,cB 7 q0J [t 6],cA 8 q0I [t 5,t 7],sT 2 4 8]
def x0n:SF:=⟨2,9,[.cell 4 true 2],
 (qS (gR s0D) (qS (.draw s0E [0,0,2,7,15] []) .ret))⟩
def s0F:SS:=[mN 4]
def s0G:SS:=[mV 10 0,lN 11 10,mV 12 1,lN 13 12,o 14 (bT .add 11 13),o 15 (.mk a0b 4 [.int .u32 0] (t 14) (t 14)),mV 5 15]
def s0H:SS:=[mI 6 0]
def s0I:SS:=[mV 16 6,mV 17 0,lN 18 17,o 19 (bT .lss 16 18)]
def s0J:SS:=[o 7 (.mv (.const (.int .u64 0)))]
def s0K:SS:=[mI 8 0]
def s0L:SS:=[mV 22 8,mV 23 1,lN 24 23,o 25 (bT .lss 22 24)]
def s0M:SS:=[mV 28 0,mV 29 6,iA 30 1 28 29,lD 31 30,cV 32 .u64 31,mV 33 1,mV 34 8,iA 35 1 33 34,lD 36 35,cV 37 .u64 36,o 38 (bT .mul 32 37),mV 39 5,mV 40 6,mV 41 8,o 42 (bT .add 40 41),iA 43 1 39 42,lD 44 43,cV 45 .u64 44,o 46 (bT .add 38 45),mV 47 7,o 48 (bT .add 46 47),mV 9 48]
def s0N:SS:=[mV 49 5,mV 50 6,mV 51 8,o 52 (bT .add 50 51),mV 53 9,cV 54 .u32 53,iA 55 1 49 52,sT 1 55 54]
def s0O:SS:=[mV 56 9,o 57 (.bin 0 .shr (t 56) (.const (.int .u64 32))),mV 7 57]
def o0B:SS:=[mV 26 8,o 27 (bI .add 26 1),mV 8 27]
def o0C:SS:=[mV 58 5,mV 59 6,mV 60 1,lN 61 60,o 62 (bT .add 59 61),mV 63 7,cV 64 .u32 63,iA 65 1 58 62,sT 1 65 64]
def o0D:SS:=[mV 20 6,o 21 (bI .add 20 1),mV 6 21]
def o0E:SS:=[mV 66 5,cA 67 i0D [t 66],mV 4 67]
def x0o:SF:=⟨2,68,[.tmp 4],
 (qS (gR s0F) (qS (gR s0G) (qS (qS (gR s0H) (.block 0 (.loop (qS (qS (gR s0I) (.cond (t 19) .skip (.exit 0))) (qS (.block 1 (qS (gR s0J) (qS (qS (gR s0K) (.block 2 (.loop (qS (qS (gR s0L) (.cond (t 25) .skip (.exit 2))) (qS (.block 3 (qS (.draw s0M [0,0,3,7,15,0,0,96,224,480,1023,0,0,0,12288,30720,63488,129024,262143,0,1048575,2097151] []) (qS (gR s0N) (gR s0O)))) (gR o0B)))))) (gR o0C)))) (gR o0D)))))) (qS (gR o0E) .ret))))⟩
def s0R:SS:=[mN 4,o 5 (.mv (.const (.int .u32 0)))]
def s0S:SS:=[mV 9 0,lN 10 9,o 11 (.mk a0b 4 [.int .u32 0] (t 10) (t 10)),mV 6 11]
def s0T:SS:=[o 7 (.mv (.const (.int .u64 0)))]
def s0U:SS:=[mV 12 0,lN 13 12,o 14 (bI .sub 13 1),mV 8 14]
def n0l:SS:=[mV 15 8,o 16 (bI .geq 15 0)]
def s0V:SS:=[mV 19 7,o 20 (.bin 0 .shl (t 19) (.const (.int .u64 32))),mV 21 0,mV 22 8,iA 23 1 21 22,lD 24 23,cV 25 .u64 24,o 26 (bT .or 20 25),mV 7 26]
def s0W:SS:=[mV 27 6,mV 28 8,mV 29 7,mV 30 1,cV 31 .u64 30,o 32 (bT .quo 29 31),cA 33 k0p [t 32],iA 34 1 27 28,sT 1 34 33]
def s0X:SS:=[mV 35 7,mV 36 1,cV 37 .u64 36,o 38 (bT .rem 35 37),mV 7 38]
def s0Y:SS:=[mV 17 8,o 18 (bI .sub 17 1),mV 8 18]
def s0Z:SS:=[mV 39 6,mV 40 7,cA 41 k0p [t 40],mV 4 39,mV 5 41]
def x0p:SF:=⟨2,42,[.tmp 4,.tmp 5],
 (qS (gR s0R) (qS (gR s0S) (qS (gR s0T) (qS (qS (gR s0U) (.block 0 (.loop (qS (qS (gR n0l) (.cond (t 16) .skip (.exit 0))) (qS (.block 1 (qS (gR s0V) (qS (gR s0W) (gR s0X)))) (gR s0Y)))))) (qS (gR s0Z) .ret)))))⟩
def t0a:SS:=[mN 4,mN 5]
def t0b:SS:=[mI 6 0]
def n0m:SS:=[mV 16 1,mV 17 1,lN 18 17,o 19 (bI .sub 18 1),iA 20 1 16 19,lD 21 20,mV 22 6,o 23 (bT .shl 21 22),o 24 (.bin 0 .shr (t 23) (.const (.int .u64 31))),o 25 (.bin 0 .eql (t 24) (.const (.int .u32 0)))]
def n0n:SS:=[mV 26 6,o 27 (bI .add 26 1),mV 6 27]
def t0c:SS:=[mV 28 0,mV 29 6,cA 30 p0v [t 28,t 29],mV 31 1,mV 32 6,cA 33 p0v [t 31,t 32],mV 34 1,lN 35 34,o 36 (.sl a0b 1 (t 33) none (some (t 35)) none),mV 7 30,mV 8 36]
def t0d:SS:=[mV 37 8,lN 38 37,mV 9 38]
def t0e:SS:=[mV 39 7,lN 40 39,mV 41 9,o 42 (bT .sub 40 41),o 43 (.mnx true (t 42) [i 0]),o 44 (.mk a0b 4 [.int .u32 0] (t 43) (t 43)),mV 4 44]
def t0f:SS:=[mV 45 8,mV 46 9,o 47 (bI .sub 46 1),iA 48 1 45 47,lD 49 48,cV 50 .u64 49,mV 51 8,mV 52 9,o 53 (bI .sub 52 2),iA 54 1 51 53,lD 55 54,cV 56 .u64 55,mV 10 50,mV 11 56]
def t0g:SS:=[mV 57 7,lN 58 57,mV 59 9,o 60 (bT .sub 58 59),o 61 (bI .sub 60 1),mV 12 61]
def n0o:SS:=[mV 62 12,o 63 (bI .geq 62 0)]
def o0F:SS:=[mV 66 7,mV 67 12,mV 68 9,o 69 (bT .add 67 68),iA 70 1 66 69,lD 71 70,cV 72 .u64 71,o 73 (.bin 0 .shl (t 72) (.const (.int .u64 32))),mV 74 7,mV 75 12,mV 76 9,o 77 (bT .add 75 76),o 78 (bI .sub 77 1),iA 79 1 74 78,lD 80 79,cV 81 .u64 80,o 82 (bT .or 73 81),mV 13 82]
def o0G:SS:=[mV 83 13,mV 84 10,o 85 (bT .quo 83 84),mV 86 13,mV 87 10,o 88 (bT .rem 86 87),mV 14 85,mV 15 88]
def i0h:SS:=[mV 89 14,o 90 (.bin 0 .geq (t 89) (.const (.int .u64 4294967296))),mV 91 90,gF 92 91 (mS 14),gF 93 91 (mS 11),gF 94 91 (bT .mul 92 93),gF 95 91 (mS 15),gF 96 91 (.bin 0 .shl (t 95) (.const (.int .u64 32))),gF 97 91 (mS 7),gF 98 91 (mS 12),gF 99 91 (mS 9),gF 100 91 (bT .add 98 99),gF 101 91 (bI .sub 100 2),gF 102 91 (iS 1 97 101),gF 103 91 (lS 102),gF 104 91 (.conv .u64 (t 103)),gF 105 91 (bT .or 96 104),gF 106 91 (bT .gtr 94 105),pT 107 91 106]
def g0J:SS:=[mV 108 14,o 109 (.bin 0 .sub (t 108) (.const (.int .u64 1))),mV 14 109]
def g0K:SS:=[mV 110 15,mV 111 10,o 112 (bT .add 110 111),mV 15 112]
def g0L:SS:=[mV 113 15,o 114 (.bin 0 .geq (t 113) (.const (.int .u64 4294967296)))]
def o0H:SS:=[mV 115 7,mV 116 12,mV 117 12,mV 118 9,o 119 (bT .add 117 118),o 120 (bI .add 119 1),o 121 (.sl a0b 1 (t 115) (some (t 116)) (some (t 120)) none),mV 122 8,mV 123 14,cA 124 q0K [t 121,t 122,t 123]]
def o0I:SS:=[mV 125 14,o 126 (.bin 0 .sub (t 125) (.const (.int .u64 1))),mV 14 126]
def o0J:SS:=[mV 127 7,mV 128 12,mV 129 12,mV 130 9,o 131 (bT .add 129 130),o 132 (bI .add 131 1),o 133 (.sl a0b 1 (t 127) (some (t 128)) (some (t 132)) none),mV 134 8,cA 135 q0L [t 133,t 134]]
def k0W:SS:=[mV 136 4,mV 137 12,mV 138 14,cA 139 k0p [t 138],iA 140 1 136 137,sT 1 140 139]
def k0X:SS:=[mV 64 12,o 65 (bI .sub 64 1),mV 12 65]
def o0K:SS:=[mV 141 4,mV 142 7,mV 143 9,o 144 (.sl a0b 1 (t 142) none (some (t 143)) none),mV 145 6,cA 146 q0M [t 144,t 145],mV 4 141,mV 5 146]
def x0q:SF:=⟨2,147,[.tmp 4,.tmp 5],
 (qS (gR t0a) (qS (gR t0b) (qS (.block 0 (.loop (qS (qS (gR n0m) (.cond (t 25) .skip (.exit 0))) (.block 1 (gR n0n))))) (qS (.draw t0c [0,0,3,0,0,31,0,64,255,63,1023] []) (qS (gR t0d) (qS (gR t0e) (qS (.draw t0f [0,0,2,7,15,31,0,0,128,448,960,1984,63,8191] []) (qS (qS (gR t0g) (.block 2 (.loop (qS (qS (gR n0o) (.cond (t 63) .skip (.exit 2))) (qS (.block 3 (qS (.draw o0F [0,0,0,6,15,31,63,127,0,0,0,1536,3584,7936,16128,32512,65535,131071] []) (qS (.draw o0G [0,0,3,0,0,24,7,127] []) (qS (.block 4 (.loop (qS (qS (gR i0h) (.cond (t 107) .skip (.exit 4))) (.block 5 (qS (gR g0J) (qS (gR g0K) (qS (gR g0L) (.cond (t 114) (.exit 4) .skip)))))))) (qS (qS (gR o0H) (.cond (t 124) (qS (gR o0I) (gR o0J)) .skip)) (gR k0W)))))) (gR k0X)))))) (qS (gR o0K) .ret)))))))))⟩
def k0Y:SS:=[mI 4 0]
def k0Z:SS:=[mV 6 0,lN 7 6,mV 8 1,lN 9 8,o 10 (bT .neq 7 9)]
def n0p:SS:=[mV 11 0,lN 12 11,mV 13 1,lN 14 13,o 15 (bT .lss 12 14)]
def t0h:SS:=[o 4 (.mv (.const (.int .i64 (-1))))]
def t0i:SS:=[mI 4 1]
def t0j:SS:=[mV 16 0,lN 17 16,o 18 (bI .sub 17 1),mV 5 18]
def n0q:SS:=[mV 19 5,o 20 (bI .geq 19 0)]
def t0k:SS:=[mV 23 0,mV 24 5,iA 25 1 23 24,lD 26 25,mV 27 1,mV 28 5,iA 29 1 27 28,lD 30 29,o 31 (bT .lss 26 30)]
def t0l:SS:=[o 4 (.mv (.const (.int .i64 (-1))))]
def t0m:SS:=[mV 32 0,mV 33 5,iA 34 1 32 33,lD 35 34,mV 36 1,mV 37 5,iA 38 1 36 37,lD 39 38,o 40 (bT .gtr 35 39)]
def o0L:SS:=[mI 4 1]
def o0M:SS:=[mV 21 5,o 22 (bI .sub 21 1),mV 5 22]
def o0N:SS:=[mI 4 0]
def p0Q:SF:=⟨2,41,[.tmp 4],
 (qS (gR k0Y) (qS (qS (gR k0Z) (.cond (t 10) (qS (qS (gR n0p) (.cond (t 15) (qS (gR t0h) .ret) .skip)) (qS (gR t0i) .ret)) .skip)) (qS (qS (gR t0j) (.block 0 (.loop (qS (qS (gR n0q) (.cond (t 20) .skip (.exit 0))) (qS (.block 1 (qS (qS (.draw t0k [0,0,3,7,0,0,48,112,255] []) (.cond (t 31) (qS (gR t0l) .ret) .skip)) (qS (.draw t0m [0,0,3,7,0,0,48,112,255] []) (.cond (t 40) (qS (gR o0L) .ret) .skip)))) (gR o0M)))))) (qS (gR o0N) .ret))))⟩
def t0n:SS:=[mN 4]
def t0o:SS:=[mN 5]
def t0p:SS:=[o 6 (.mv (.const (.int .u32 0)))]
def t0q:SS:=[mV 8 1]
def t0r:SS:=[o 6 (.mv (.const (.int .u32 1)))]
def n0r:SS:=[mI 7 0]
def n0s:SS:=[mV 9 7,mV 10 0,lN 11 10,o 12 (bT .lss 9 11)]
def n0t:SS:=[mV 15 5,mV 16 0,mV 17 7,iA 18 1 16 17,lD 19 18,o 20 (.bin 0 .shl (t 19) (.const (.int .u64 1))),mV 21 6,o 22 (bT .or 20 21),o 23 (.lit a0b [.int .u32 0] 1 [(0,1,t 22)]),o 24 (.app a0b 1 4 (t 15) (t 23)),mV 5 24]
def n0u:SS:=[mV 25 0,mV 26 7,iA 27 1 25 26,lD 28 27,o 29 (.bin 0 .shr (t 28) (.const (.int .u64 31))),mV 6 29]
def n0v:SS:=[mV 13 7,o 14 (bI .add 13 1),mV 7 14]
def l0a:SS:=[mV 30 5,mV 31 6,o 32 (.lit a0b [.int .u32 0] 1 [(0,1,t 31)]),o 33 (.app a0b 1 4 (t 30) (t 32)),mV 5 33]
def l0b:SS:=[mV 34 5,cA 35 i0D [t 34],mV 4 35]
def x0r:SF:=⟨2,36,[.tmp 4],
 (qS (gR t0n) (qS (gR t0o) (qS (gR t0p) (qS (qS (gR t0q) (.cond (t 8) (gR t0r) .skip)) (qS (qS (gR n0r) (.block 0 (.loop (qS (qS (gR n0s) (.cond (t 12) .skip (.exit 0))) (qS (.block 1 (qS (gR n0t) (gR n0u))) (gR n0v)))))) (qS (gR l0a) (qS (gR l0b) .ret)))))))⟩
def t0s:SS:=[mN 4]
def t0t:SS:=[o 9 (.lit a0b [.int .u32 0] 0 []),mV 10 0,o 11 (.app a0b 1 4 (t 9) (t 10)),mV 5 11]
def t0u:SS:=[o 6 (.mv (.const (.int .u64 0)))]
def t0v:SS:=[mI 7 0]
def t0w:SS:=[mV 12 7,mV 13 5,lN 14 13,o 15 (bT .lss 12 14)]
def n0w:SS:=[mV 18 6,mV 8 18]
def n0x:SS:=[mV 19 7,mV 20 1,lN 21 20,o 22 (bT .lss 19 21)]
def t0x:SS:=[mV 23 8,mV 24 1,mV 25 7,iA 26 1 24 25,lD 27 26,cV 28 .u64 27,o 29 (bT .add 23 28),mV 8 29]
def i0Y:SS:=[mV 30 5,mV 31 7,iA 32 1 30 31,lD 33 32,cV 34 .u64 33,mV 35 8,o 36 (bT .geq 34 35)]
def n0y:SS:=[mV 37 5,mV 38 7,mV 39 5,mV 40 7,iA 41 1 39 40,lD 42 41,cV 43 .u64 42,mV 44 8,o 45 (bT .sub 43 44),cV 46 .u32 45,iA 47 1 37 38,sT 1 47 46]
def l0c:SS:=[o 6 (.mv (.const (.int .u64 0)))]
def l0d:SS:=[mV 48 5,mV 49 7,mV 50 5,mV 51 7,iA 52 1 50 51,lD 53 52,cV 54 .u64 53,o 55 (.bin 0 .add (t 54) (.const (.int .u64 4294967296))),mV 56 8,o 57 (bT .sub 55 56),cV 58 .u32 57,iA 59 1 48 49,sT 1 59 58]
def l0e:SS:=[o 6 (.mv (.const (.int .u64 1)))]
def g0M:SS:=[mV 16 7,o 17 (bI .add 16 1),mV 7 17]
def o0O:SS:=[mV 60 5,cA 61 i0D [t 60],mV 4 61]
def x0s:SF:=⟨2,62,[.tmp 4],
 (qS (gR t0s) (qS (gR t0t) (qS (gR t0u) (qS (qS (gR t0v) (.block 0 (.loop (qS (qS (gR t0w) (.cond (t 15) .skip (.exit 0))) (qS (.block 1 (qS (gR n0w) (qS (qS (gR n0x) (.cond (t 22) (gR t0x) .skip)) (qS (gR i0Y) (.cond (t 36) (qS (gR n0y) (gR l0c)) (qS (gR l0d) (gR l0e))))))) (gR g0M)))))) (qS (gR o0O) .ret)))))⟩
def t0y:SS:=[bX 1 a0a 0,o 2 (.alloc a0a zI)]
def t0z:SS:=[lA 3 2 1,cB 4 h0X [t 3],nT 5 4,lA 6 2 1,cA 7 l0s [t 6],cA 8 l0t [t 5,t 7],sT 2 2 8]
def x0t:SF:=⟨1,9,[.cell 2 true 2],
 (qS (gR t0y) (qS (.draw t0z [0,1,3,0,11,31,63] []) .ret))⟩
def t0A:SS:=[bX 2 a0a 0,bX 3 a0a 1,o 4 (.alloc a0a zI)]
def t0B:SS:=[lA 5 2 2,cA 6 i0C [t 5],sT 2 2 6]
def t0C:SS:=[lA 7 2 3,cA 8 i0C [t 7],sT 2 3 8]
def n0z:SS:=[fA 9 0 2,lD 10 9,fA 11 0 3,lD 12 11,o 13 (.bin 1 .eql (t 10) (t 12))]
def t0D:SS:=[fA 14 0 2,lD 15 14,fA 16 1 2,lD 17 16,fA 18 1 3,lD 19 18,cB 20 q0N [t 17,t 19],cA 21 p0w [t 15,t 20],sT 2 4 21]
def t0E:SS:=[fA 22 1 2,lD 23 22,fA 24 1 3,lD 25 24,cA 26 m0C [t 23,t 25],o 27 (bI .geq 26 0)]
def t0F:SS:=[fA 28 0 2,lD 29 28,fA 30 1 2,lD 31 30,fA 32 1 3,lD 33 32,cB 34 l0J [t 31,t 33],cA 35 p0w [t 29,t 34],sT 2 4 35]
def t0G:SS:=[fA 36 0 3,lD 37 36,fA 38 1 3,lD 39 38,fA 40 1 2,lD 41 40,cB 42 l0J [t 39,t 41],cA 43 p0w [t 37,t 42],sT 2 4 43]
def x0u:SF:=⟨2,44,[.cell 4 true 2],
 (qS (gR t0A) (qS (gR t0B) (qS (gR t0C) (qS (qS (gR n0z) (.cond (t 13) (qS (.draw t0D [0,1,0,4,0,16,60,127,255] []) .ret) .skip)) (qS (qS (gR t0E) (.cond (t 27) (qS (.draw t0F [0,1,0,4,0,16,60,127,255] []) .ret) .skip)) (qS (.draw t0G [0,1,0,4,0,16,60,127,255] []) .ret))))))⟩
def t0H:SS:=[bX 1 a0a 0,o 2 (.alloc a0a zI)]
def t0I:SS:=[lA 3 2 1,cA 4 i0C [t 3],sT 2 1 4]
def t0J:SS:=[fA 5 0 1,lD 6 5,nT 7 6,fA 8 1 1,lD 9 8,cA 10 p0w [t 7,t 9],sT 2 2 10]
def x0v:SF:=⟨1,11,[.cell 2 true 2],
 (qS (gR t0H) (qS (gR t0I) (qS (gR t0J) .ret)))⟩
def t0O:SS:=[mN 4]
def t0P:SS:=[mV 9 0,lN 10 9,o 11 (bI .add 10 1),o 12 (.mk a0b 4 [.int .u32 0] (i 0) (t 11)),mV 5 12]
def t0Q:SS:=[o 6 (.mv (.const (.int .u64 0)))]
def t0R:SS:=[mV 13 0,lN 14 13,mI 15 0]
def n0A:SS:=[o 16 (bT .lss 15 14)]
def t0S:SS:=[iA 17 1 13 15,lD 18 17,mV 8 18]
def t0T:SS:=[mV 19 6,mV 20 8,cV 21 .u64 20,mV 22 1,o 23 (bT .shl 21 22),o 24 (bT .or 19 23),mV 6 24]
def t0U:SS:=[mV 25 5,mV 26 6,cA 27 k0p [t 26],o 28 (.lit a0b [.int .u32 0] 1 [(0,1,t 27)]),o 29 (.app a0b 1 4 (t 25) (t 28)),mV 5 29]
def t0V:SS:=[mV 30 6,o 31 (.bin 0 .shr (t 30) (.const (.int .u64 32))),mV 6 31]
def t0W:SS:=[o 32 (bI .add 15 1),mV 15 32]
def o0P:SS:=[mV 33 5,mV 34 6,cA 35 k0p [t 34],o 36 (.lit a0b [.int .u32 0] 1 [(0,1,t 35)]),o 37 (.app a0b 1 4 (t 33) (t 36)),mV 4 37]
def x0w:SF:=⟨2,38,[.tmp 4],
 (qS (gR t0O) (qS (gR t0P) (qS (gR t0Q) (qS (qS (gR t0R) (.block 0 (.loop (qS (gR n0A) (qS (.cond (t 16) .skip (.exit 0)) (qS (.block 1 (qS (gR t0S) (qS (gR t0T) (qS (gR t0U) (gR t0V))))) (gR t0W))))))) (qS (gR o0P) .ret)))))⟩
def t0X:SS:=[mB 6 false]
def t0Y:SS:=[o 7 (.mv (.const (.int .u64 0)))]
def t0Z:SS:=[mV 10 0,lN 11 10,mI 12 0]
def l0g:SS:=[o 13 (bT .lss 12 11)]
def n0B:SS:=[mV 14 12,mV 8 14]
def n0C:SS:=[mV 15 8,mV 16 1,lN 17 16,o 18 (bT .lss 15 17)]
def n0D:SS:=[mV 19 7,mV 20 1,mV 21 8,iA 22 1 20 21,lD 23 22,cV 24 .u64 23,mV 25 2,o 26 (bT .mul 24 25),o 27 (bT .add 19 26),mV 7 27]
def n0E:SS:=[mV 28 0,mV 29 8,iA 30 1 28 29,lD 31 30,cV 32 .u64 31,mV 33 7,o 34 (.bin 0 .and (t 33) (.const (.int .u64 4294967295))),o 35 (bT .sub 32 34),mV 9 35]
def n0F:SS:=[mV 36 0,mV 37 8,mV 38 9,cA 39 k0p [t 38],iA 40 1 36 37,sT 1 40 39]
def n0G:SS:=[mV 41 7,o 42 (.bin 0 .shr (t 41) (.const (.int .u64 32))),mV 43 9,o 44 (.bin 0 .shr (t 43) (.const (.int .u64 63))),o 45 (bT .add 42 44),mV 7 45]
def l0f:SS:=[o 46 (bI .add 12 1),mV 12 46]
def o0Q:SS:=[mV 47 7,o 48 (.bin 0 .neq (t 47) (.const (.int .u64 0))),mV 6 48]
def x0x:SF:=⟨3,49,[.tmp 6],
 (qS (gR t0X) (qS (gR t0Y) (qS (qS (gR t0Z) (.block 0 (.loop (qS (gR l0g) (qS (.cond (t 13) .skip (.exit 0)) (qS (.block 1 (qS (gR n0B) (qS (qS (gR n0C) (.cond (t 18) (gR n0D) .skip)) (qS (gR n0E) (qS (gR n0F) (gR n0G)))))) (gR l0f))))))) (qS (gR o0Q) .ret))))⟩
def u0a:SS:=[o 4 (.mv (.const (.int .u64 0)))]
def u0b:SS:=[mV 6 0,lN 7 6,mI 8 0]
def l0h:SS:=[o 9 (bT .lss 8 7)]
def n0H:SS:=[mV 10 8,mV 5 10]
def n0I:SS:=[mV 11 4,mV 12 0,mV 13 5,iA 14 1 12 13,lD 15 14,cV 16 .u64 15,o 17 (bT .add 11 16),mV 4 17]
def n0J:SS:=[mV 18 5,mV 19 1,lN 20 19,o 21 (bT .lss 18 20)]
def n0K:SS:=[mV 22 4,mV 23 1,mV 24 5,iA 25 1 23 24,lD 26 25,cV 27 .u64 26,o 28 (bT .add 22 27),mV 4 28]
def n0L:SS:=[mV 29 0,mV 30 5,mV 31 4,cA 32 k0p [t 31],iA 33 1 29 30,sT 1 33 32]
def n0M:SS:=[mV 34 4,o 35 (.bin 0 .shr (t 34) (.const (.int .u64 32))),mV 4 35]
def n0N:SS:=[o 36 (bI .add 8 1),mV 8 36]
def x0y:SF:=⟨2,37,[],
 (qS (gR u0a) (qS (gR u0b) (.block 0 (.loop (qS (gR l0h) (qS (.cond (t 9) .skip (.exit 0)) (qS (.block 1 (qS (gR n0H) (qS (gR n0I) (qS (qS (gR n0J) (.cond (t 21) (gR n0K) .skip)) (qS (gR n0L) (gR n0M)))))) (gR n0N))))))))⟩
def u0d:SS:=[mN 4]
def u0e:SS:=[mV 8 0,lN 9 8,o 10 (.mk a0b 4 [.int .u32 0] (t 9) (t 9)),mV 5 10]
def u0f:SS:=[mV 11 0,lN 12 11,mI 13 0]
def l0i:SS:=[o 14 (bT .lss 13 12)]
def n0O:SS:=[mV 15 13,mV 6 15]
def n0P:SS:=[mV 16 0,mV 17 6,iA 18 1 16 17,lD 19 18,cV 20 .u64 19,mV 7 20]
def n0Q:SS:=[mV 21 6,o 22 (bI .add 21 1),mV 23 0,lN 24 23,o 25 (bT .lss 22 24)]
def n0R:SS:=[mV 26 7,mV 27 0,mV 28 6,o 29 (bI .add 28 1),iA 30 1 27 29,lD 31 30,cV 32 .u64 31,o 33 (.bin 0 .shl (t 32) (.const (.int .u64 32))),o 34 (bT .or 26 33),mV 7 34]
def n0S:SS:=[mV 35 5,mV 36 6,mV 37 7,mV 38 1,o 39 (bT .shr 37 38),cA 40 k0p [t 39],iA 41 1 35 36,sT 1 41 40]
def n0T:SS:=[o 42 (bI .add 13 1),mV 13 42]
def o0R:SS:=[mV 43 5,mV 4 43]
def x0z:SF:=⟨2,44,[.tmp 4],
 (qS (gR u0d) (qS (gR u0e) (qS (qS (gR u0f) (.block 0 (.loop (qS (gR l0i) (qS (.cond (t 14) .skip (.exit 0)) (qS (.block 1 (qS (gR n0O) (qS (gR n0P) (qS (qS (gR n0Q) (.cond (t 25) (gR n0R) .skip)) (gR n0S))))) (gR n0T))))))) (qS (gR o0R) .ret))))⟩
def u0g:SS:=[mN 4]
def u0h:SS:=[mN 5]
def u0i:SS:=[o 6 (.mv (.const (.int .u64 0)))]
def u0j:SS:=[mI 7 0]
def h0o:SS:=[mV 9 7,mV 10 0,lN 11 10,o 12 (bT .lss 9 11),mV 13 12,gF 14 13 (mS 7),gF 15 13 (mS 1),gF 16 13 (nS 15),gF 17 13 (bT .lss 14 16),pT 18 13 17,mV 19 18,gF 20 19 (mS 6),gF 21 19 (.bin 0 .gtr (t 20) (.const (.int .u64 0))),pT 22 19 21]
def i0Z:SS:=[mV 25 6,mV 8 25]
def j0a:SS:=[mV 26 7,mV 27 0,lN 28 27,o 29 (bT .lss 26 28)]
def j0b:SS:=[mV 30 8,mV 31 0,mV 32 7,iA 33 1 31 32,lD 34 33,cV 35 .u64 34,o 36 (bT .add 30 35),mV 8 36]
def j0c:SS:=[mV 37 7,mV 38 1,lN 39 38,o 40 (bT .lss 37 39)]
def j0d:SS:=[mV 41 8,mV 42 1,mV 43 7,iA 44 1 42 43,lD 45 44,cV 46 .u64 45,o 47 (bT .add 41 46),mV 8 47]
def g0N:SS:=[mV 48 5,mV 49 8,cV 50 .u32 49,o 51 (.lit a0b [.int .u32 0] 1 [(0,1,t 50)]),o 52 (.app a0b 1 4 (t 48) (t 51)),mV 5 52]
def g0O:SS:=[mV 53 8,o 54 (.bin 0 .shr (t 53) (.const (.int .u64 32))),mV 6 54]
def g0P:SS:=[mV 23 7,o 24 (bI .add 23 1),mV 7 24]
def o0S:SS:=[mV 55 5,cA 56 i0D [t 55],mV 4 56]
def x0A:SF:=⟨2,57,[.tmp 4],
 (qS (gR u0g) (qS (gR u0h) (qS (gR u0i) (qS (qS (gR u0j) (.block 0 (.loop (qS (qS (gR h0o) (.cond (t 22) .skip (.exit 0))) (qS (.block 1 (qS (gR i0Z) (qS (qS (gR j0a) (.cond (t 29) (gR j0b) .skip)) (qS (qS (gR j0c) (.cond (t 40) (gR j0d) .skip)) (qS (gR g0N) (gR g0O)))))) (gR g0P)))))) (qS (gR o0S) .ret)))))⟩
def q0t:List (Nat × q0b):=[
 (f_3,s_3),
 (f_4,s_4),
 (f_5,s_5),
 (f_6,s_6),
 (f_7,s_7),
 (f_8,s_8),
 (f_9,s_9),
 (G0P,L0H),
 (H0U,L0I),
 (H0T,K0S),
 (F0x,L0J),
 (G0Q,L0K),
 (F0y,L0L),
 (G0R,L0M),
 (G0S,L0N),
 (H0V,L0O),
 (H0W,L0P),
 (H0X,L0Q),
 (G0T,L0R),
 (H0Z,L0T),
 (H0Y,L0S),
 (I0b,L0V),
 (G0U,L0W),
 (I0c,L0X),
 (I0d,L0Y),
 (I0e,L0Z),
 (I0f,M0a),
 (G0V,M0c),
 (I0h,M0d),
 (I0i,M0e),
 (F0z,M0f),
 (I0j,M0g),
 (G0W,M0h),
 (I0k,M0i),
 (I0l,M0j),
 (I0m,M0k),
 (F0A,K0T),
 (F0B,K0U),
 (F0C,M0l),
 (F0D,M0m),
 (I0a,L0U),
 (I0n,M0n),
 (F0E,M0r),
 (F0F,M0s),
 (I0r,M0t),
 (I0s,M0u),
 (I0t,M0v),
 (I0g,M0b),
 (F0G,M0z),
 (I0u,M0A),
 (G0X,M0B),
 (I0v,M0C),
 (O0B,O0T),
 (O0C,O0U),
 (v0X,K0V),
 (I0z,M0H),
 (I0y,M0G),
 (G0Y,M0I),
 (v0Y,M0F),
 (G0Z,M0J),
 (H0a,M0K),
 (H0b,M0L),
 (x0V,M0x),
 (I0o,M0o),
 (I0p,M0p),
 (w0A,M0O),
 (H0c,M0P),
 (I0C,M0Q),
 (I0D,M0R),
 (x0U,M0w),
 (w0z,M0y),
 (I0F,M0T),
 (w0B,M0U),
 (I0E,M0S),
 (p0w,N0a),
 (H0d,N0b),
 (H0e,N0d),
 (I0G,N0c),
 (I0w,M0D),
 (I0x,M0E),
 (I0I,N0f),
 (l0s,M0X),
 (l0t,M0Z),
 (F0H,N0g),
 (I0J,N0h),
 (h0X,M0V),
 (x0W,M0W),
 (I0A,M0M),
 (I0q,M0q),
 (i0C,x0d),
 (q0v,x0e),
 (k0p,M0Y),
 (q0x,x0g),
 (p0u,x0h),
 (q0w,x0f),
 (i0D,x0l),
 (q0B,x0m),
 (q0D,x0o),
 (q0C,x0n),
 (I0H,N0e),
 (q0A,x0k),
 (q0E,x0p),
 (q0F,x0q),
 (q0y,x0i),
 (q0z,x0j),
 (I0B,M0N),
 (m0C,p0Q),
 (q0G,x0r),
 (l0J,x0s),
 (q0H,x0t),
 (q0J,x0v),
 (q0I,x0u),
 (p0v,x0w),
 (q0K,x0x),
 (q0L,x0y),
 (q0M,x0z),
 (q0N,x0A)]
def env:Env:=⟨fun f=>q0t.lookup f,none,[]⟩
theorem e_3:env.code f_3=some s_3:=rfl
theorem e_4:env.code f_4=some s_4:=rfl
theorem e_5:env.code f_5=some s_5:=rfl
theorem e_6:env.code f_6=some s_6:=rfl
theorem e_7:env.code f_7=some s_7:=rfl
theorem e_8:env.code f_8=some s_8:=rfl
theorem e_9:env.code f_9=some s_9:=rfl
theorem P0f:env.code G0P=some L0H:=rfl
theorem P0g:env.code H0U=some L0I:=rfl
theorem P0e:env.code H0T=some K0S:=rfl
theorem P0h:env.code F0x=some L0J:=rfl
theorem P0i:env.code G0Q=some L0K:=rfl
theorem P0j:env.code F0y=some L0L:=rfl
theorem P0k:env.code G0R=some L0M:=rfl
theorem P0l:env.code G0S=some L0N:=rfl
theorem P0m:env.code H0V=some L0O:=rfl
theorem P0n:env.code H0W=some L0P:=rfl
theorem P0o:env.code H0X=some L0Q:=rfl
theorem P0p:env.code G0T=some L0R:=rfl
theorem P0r:env.code H0Z=some L0T:=rfl
theorem P0q:env.code H0Y=some L0S:=rfl
theorem P0t:env.code I0b=some L0V:=rfl
theorem P0u:env.code G0U=some L0W:=rfl
theorem P0v:env.code I0c=some L0X:=rfl
theorem P0w:env.code I0d=some L0Y:=rfl
theorem P0x:env.code I0e=some L0Z:=rfl
theorem P0y:env.code I0f=some M0a:=rfl
theorem P0A:env.code G0V=some M0c:=rfl
theorem P0B:env.code I0h=some M0d:=rfl
theorem P0C:env.code I0i=some M0e:=rfl
theorem P0D:env.code F0z=some M0f:=rfl
theorem P0E:env.code I0j=some M0g:=rfl
theorem P0F:env.code G0W=some M0h:=rfl
theorem P0G:env.code I0k=some M0i:=rfl
theorem P0H:env.code I0l=some M0j:=rfl
theorem P0I:env.code I0m=some M0k:=rfl
theorem P0J:env.code F0A=some K0T:=rfl
theorem P0K:env.code F0B=some K0U:=rfl
theorem P0L:env.code F0C=some M0l:=rfl
theorem P0M:env.code F0D=some M0m:=rfl
theorem P0s:env.code I0a=some L0U:=rfl
theorem P0N:env.code I0n=some M0n:=rfl
theorem P0R:env.code F0E=some M0r:=rfl
theorem P0S:env.code F0F=some M0s:=rfl
theorem P0T:env.code I0r=some M0t:=rfl
theorem P0U:env.code I0s=some M0u:=rfl
theorem P0V:env.code I0t=some M0v:=rfl
theorem P0z:env.code I0g=some M0b:=rfl
theorem P0Z:env.code F0G=some M0z:=rfl
theorem Q0a:env.code I0u=some M0A:=rfl
theorem Q0b:env.code G0X=some M0B:=rfl
theorem Q0c:env.code I0v=some M0C:=rfl
theorem Q0d:env.code v0X=some K0V:=rfl
theorem Q0i:env.code I0z=some M0H:=rfl
theorem Q0h:env.code I0y=some M0G:=rfl
theorem Q0j:env.code G0Y=some M0I:=rfl
theorem Q0g:env.code v0Y=some M0F:=rfl
theorem Q0k:env.code G0Z=some M0J:=rfl
theorem Q0l:env.code H0a=some M0K:=rfl
theorem Q0m:env.code H0b=some M0L:=rfl
theorem P0X:env.code x0V=some M0x:=rfl
theorem P0O:env.code I0o=some M0o:=rfl
theorem P0P:env.code I0p=some M0p:=rfl
theorem Q0p:env.code w0A=some M0O:=rfl
theorem Q0q:env.code H0c=some M0P:=rfl
theorem Q0r:env.code I0C=some M0Q:=rfl
theorem Q0s:env.code I0D=some M0R:=rfl
theorem P0W:env.code x0U=some M0w:=rfl
theorem P0Y:env.code w0z=some M0y:=rfl
theorem Q0u:env.code I0F=some M0T:=rfl
theorem Q0v:env.code w0B=some M0U:=rfl
theorem Q0t:env.code I0E=some M0S:=rfl
theorem Q0B:env.code p0w=some N0a:=rfl
theorem Q0C:env.code H0d=some N0b:=rfl
theorem Q0E:env.code H0e=some N0d:=rfl
theorem Q0D:env.code I0G=some N0c:=rfl
theorem Q0e:env.code I0w=some M0D:=rfl
theorem Q0f:env.code I0x=some M0E:=rfl
theorem Q0G:env.code I0I=some N0f:=rfl
theorem Q0y:env.code l0s=some M0X:=rfl
theorem Q0A:env.code l0t=some M0Z:=rfl
theorem Q0H:env.code F0H=some N0g:=rfl
theorem Q0I:env.code I0J=some N0h:=rfl
theorem Q0w:env.code h0X=some M0V:=rfl
theorem Q0x:env.code x0W=some M0W:=rfl
theorem Q0n:env.code I0A=some M0M:=rfl
theorem P0Q:env.code I0q=some M0q:=rfl
theorem O0b:env.code i0C=some x0d:=rfl
theorem O0c:env.code q0v=some x0e:=rfl
theorem Q0z:env.code k0p=some M0Y:=rfl
theorem O0e:env.code q0x=some x0g:=rfl
theorem O0f:env.code p0u=some x0h:=rfl
theorem O0d:env.code q0w=some x0f:=rfl
theorem O0j:env.code i0D=some x0l:=rfl
theorem O0k:env.code q0B=some x0m:=rfl
theorem O0m:env.code q0D=some x0o:=rfl
theorem O0l:env.code q0C=some x0n:=rfl
theorem Q0F:env.code I0H=some N0e:=rfl
theorem O0i:env.code q0A=some x0k:=rfl
theorem O0n:env.code q0E=some x0p:=rfl
theorem O0o:env.code q0F=some x0q:=rfl
theorem O0g:env.code q0y=some x0i:=rfl
theorem O0h:env.code q0z=some x0j:=rfl
theorem Q0o:env.code I0B=some M0N:=rfl
theorem O0p:env.code m0C=some p0Q:=rfl
theorem O0q:env.code q0G=some x0r:=rfl
theorem O0r:env.code l0J=some x0s:=rfl
theorem O0s:env.code q0H=some x0t:=rfl
theorem O0u:env.code q0J=some x0v:=rfl
theorem O0t:env.code q0I=some x0u:=rfl
theorem O0v:env.code p0v=some x0w:=rfl
theorem O0w:env.code q0K=some x0x:=rfl
theorem O0x:env.code q0L=some x0y:=rfl
theorem O0y:env.code q0M=some x0z:=rfl
theorem O0z:env.code q0N=some x0A:=rfl
end
section
open Go
variable {E:Env} {fl:Nat} {t:a0Q} {H G:a0c} {K:l0v} {R:a0E}
def Sl (H:a0c) (e sz:Nat) (v:Value) (n:Nat) (cs:List Value):Prop :=
 cs.length=n * sz∧((v=.slice none 0 0∧n=0) ∨
  ∃ b off cap ro cells,v=.slice (some ⟨b,off,none⟩) n cap∧H.blk b=.row ro e cells∧off + n * sz≤cells.length∧cs=(cells.drop off).take (n * sz))
variable {e sz n:Nat} {v:Value} {cs:List Value}
theorem Sl.mono (h:Sl H e sz v n cs) (hx:Ext H G):Sl G e sz v n cs:=by
 obtain ⟨hl,h⟩:=h
 refine ⟨hl,?_⟩
 rcases h with h | ⟨b,off,cap,ro,cells,h1,h2,h3,h4⟩
 ·exact .inl h
 ·exact .inr ⟨b,off,cap,ro,cells,h1,hx.blk h2,h3,h4⟩
theorem Sl.nil:Sl H e sz (.slice none 0 0) 0 []:=⟨by simp,.inl ⟨rfl,rfl⟩⟩
theorem Sl.slen (h:Sl H e sz v n cs):d0j v=some (.int .i64 n):=by
 obtain ⟨_,⟨rfl,rfl⟩ | ⟨b,off,cap,ro,cells,rfl,_⟩⟩:=h <;> simp [d0j]
theorem Sl.ia (h:Sl H e sz v n cs) {k:IntKind} {j:Nat} (hj:j < n):iaV sz v (.int k j)=some (adr sz v j):=by
 obtain ⟨_,⟨rfl,rfl⟩ | ⟨b,off,cap,ro,cells,rfl,_⟩⟩:=h
 ·omega
 ·simp only [iaV,adr];rw [R0k (by omega)];simp
theorem Sl.iaZ (h:Sl H e sz v n cs) {k:IntKind} {z:Int} (h0:0≤z) (hj:z < n):iaV sz v (.int k z)=some (adr sz v z.toNat):=by
 have:=h.ia (k:=k) (j:=z.toNat) (by omega)
 rwa [S0J h0] at this
theorem Sl.load (h:Sl H e sz v n cs) (hx:Ext H G) {j:Nat} (hj:j < n) (hs:0 < sz):b0y G true sz (adr sz v j)=some (.agg ((cs.drop (j * sz)).take sz).toArray):=by
 obtain ⟨hl,⟨rfl,rfl⟩ | ⟨b,off,cap,ro,cells,rfl,hb,ho,rfl⟩⟩:=h
 ·omega
 ·have hj2:(j + 1) * sz≤n * sz:=R0h sz hj
  rw [R0o,R0S] at hj2
  have hc:=f0m (off:=off + j * sz) (n:=sz) (hx.blk hb) (by omega)
  simp only [adr,b0y]
  rw [R0c (by omega),R0c (by simp)]
  simp only [R0T,hc]
  rw [S0M,S0A,S0i,R0I (by omega)]
theorem Sl.load1 (h:Sl H e 1 v n cs) (hx:Ext H G) {j:Nat} (hj:j < n):b0y G false 1 (adr 1 v j)=some (cs.getD j undef):=by
 obtain ⟨hl,⟨rfl,rfl⟩ | ⟨b,off,cap,ro,cells,rfl,hb,ho,rfl⟩⟩:=h
 ·omega
 ·have hc:=f0m (off:=off + j * 1) (n:=1) (hx.blk hb) (by omega)
  simp only [adr,b0y]
  rw [R0c (by simp),R0c (by simp)]
  simp only [hc,R0p,R0K]
  rw [List.head?_take,R0c (by simp),List.head?_drop,Q0T,S0y,R0k (by omega),S0m]
  simp only [R0O] at ho ⊢
  rw [R0a (by omega)]
  rfl
theorem Sl.elemOk (h:Sl H e sz v n cs) {G:a0c} (hx:Ext H G):AI.elemOk G e v=true:=by
 obtain ⟨hl,⟨rfl,rfl⟩ | ⟨b,off,cap,ro,cells,rfl,hb,ho,rfl⟩⟩:=h
 ·rfl
 ·unfold AI.elemOk
  simp only [hx.blk hb]
  cases ro <;> simp
theorem Sl.cells (h:Sl H e sz v n cs):a0M v=[v]:=by
 obtain ⟨hl,⟨rfl,rfl⟩ | ⟨b,off,cap,ro,cells,rfl,hb,ho,rfl⟩⟩:=h <;> rfl
theorem Sl.plain (h:Sl H e sz v n cs):a0B v=true:=by
 obtain ⟨hl,⟨rfl,rfl⟩ | ⟨b,off,cap,ro,cells,rfl,hb,ho,rfl⟩⟩:=h <;> rfl
theorem Sl.slice (h:Sl H e sz v n cs) {lo hi:Nat} (h1:lo≤hi) (h2:hi≤n) {x y:Option Value} (hx:bnd 0 x=some lo) (hy:bnd n y=some hi) :
  ∃ v',c0D sz v x y none=some v'∧Sl H e sz v' (hi - lo) ((cs.drop (lo * sz)).take ((hi - lo) * sz)):=by
 obtain ⟨hl,⟨rfl,rfl⟩ | ⟨b,off,cap,ro,cells,rfl,hb,ho,rfl⟩⟩:=h
 ·have:lo=0:=by omega
  have:hi=0:=by omega
  subst lo hi
  refine ⟨.slice none 0 0,?_,by simp,.inl ⟨rfl,rfl⟩⟩
  unfold c0D;simp [hx,hy];intro h;exact R0q h (by decide)
 ·refine ⟨_,by unfold c0D;simp only [hx,hy];rw [R0k ⟨h1,h2⟩];rfl,?_,.inr ⟨b,off + lo * sz,_,ro,cells,rfl,hb,?_,?_⟩⟩
  ·simp only [S0c,List.length_drop]
   have e1:(hi - lo) * sz + lo * sz=hi * sz:=by rw [← R0o];congr 1;omega
   have e2:hi * sz≤n * sz:=R0h sz h2
   omega
  ·have e1:(hi - lo) * sz + lo * sz=hi * sz:=by rw [← R0o];congr 1;omega
   have e2:hi * sz≤n * sz:=R0h sz h2
   omega
  ·have e1:(hi - lo) * sz + lo * sz=hi * sz:=by rw [← R0o];congr 1;omega
   have e2:hi * sz≤n * sz:=R0h sz h2
   rw [S0M,S0A,S0i,R0I (by omega)]
theorem Sl.setT (h:Sl H e sz v n cs) {p:Nat} {ro:Bool} {e':TypeId} {cs':List Value} {r:Blk} (hb:H.blk p=.row ro e' cs') (hne:e' ≠ e):Sl (H.setIfInBounds p r) e sz v n cs:=by
 obtain ⟨hl,h | ⟨b,off,cap,ro,cells,rfl,hb',ho,rfl⟩⟩:=h
 ·exact ⟨hl,.inl h⟩
 ·refine ⟨hl,.inr ⟨b,off,cap,ro,cells,rfl,?_,ho,rfl⟩⟩
  rw [a0L];exact hb'
  rintro rfl
  rw [hb'] at hb;cases hb;exact hne rfl
def b0r (l:List Nat):List Value:=l.map fun x=>.int .u32 (x:Nat)
@[simp] theorem g0e {l:List Nat}:(b0r l).length=l.length:=by simp [b0r]
def Lim (H:a0c) (v:Value) (l:List Nat):Prop:=Sl H a0b 1 v l.length (b0r l)∧∀ x ∈ l,x < 4294967296
variable {l:List Nat}
theorem Lim.mono (h:Lim H v l) (hx:Ext H G):Lim G v l:=⟨h.1.mono hx,h.2⟩
theorem Lim.nil:Lim H (.slice none 0 0) []:=⟨Sl.nil,by simp⟩
theorem Lim.slen (h:Lim H v l):d0j v=some (.int .i64 l.length):=h.1.slen
theorem Lim.ia (h:Lim H v l) {k:IntKind} {j:Nat} (hj:j < l.length):iaV 1 v (.int k j)=some (adr 1 v j):=h.1.ia hj
theorem Lim.iaZ (h:Lim H v l) {k:IntKind} {z:Int} (h0:0≤z) (hj:z < l.length):iaV 1 v (.int k z)=some (adr 1 v z.toNat):=h.1.iaZ h0 hj
theorem Lim.load (h:Lim H v l) {j:Nat} (hj:j < l.length) {G:a0c} (hx:Ext H G):b0y G false 1 (adr 1 v j)=some (.int .u32 (l.getD j 0)):=by
 rw [h.1.load1 hx hj]
 simp [b0r,Q0T,R0M,hj]
theorem Lim.setT (h:Lim H v l) {p:Nat} {ro:Bool} {e':TypeId} {cs':List Value} {r:Blk} (hb:H.blk p=.row ro e' cs') (hne:e' ≠ a0b):Lim (H.setIfInBounds p r) v l:=⟨h.1.setT hb hne,h.2⟩
theorem Lim.elemOk (h:Lim H v l) {G:a0c} (hx:Ext H G):AI.elemOk G a0b v=true:=h.1.elemOk hx
theorem Lim.cells (h:Lim H v l):a0M v=[v]:=h.1.cells
theorem Lim.plain (h:Lim H v l):a0B v=true:=h.1.plain
theorem Lim.take (h:Lim H v l) {k:Nat} (hk:k≤l.length) {x:Option Value} (hx:bnd 0 x=some 0) {y:Option Value} (hy:bnd l.length y=some k):∃ v',c0D 1 v x y none=some v'∧Lim H v' (l.take k):=by
 obtain ⟨v',h1,h2⟩:=h.1.slice (R0H k) hk hx hy
 refine ⟨v',h1,?_,fun x hx=>h.2 x (S0T hx)⟩
 have:(l.take k).length=k:=by simp;omega
 rw [this]
 simpa [b0r,List.map_take] using h2
def b0j (H:a0c) (v:Value) (i:Bool × List Nat):Prop:=∃ s,v=.agg #[.bool i.1,s]∧Lim H s i.2
theorem b0j.mono {i:Bool × List Nat} (h:b0j H v i) (hx:Ext H G):b0j G v i:=by obtain ⟨s,h1,h2⟩:=h;exact ⟨s,h1,h2.mono hx⟩
def rd:Blk→Nat→Option Value
 | .row _ _ cs,o=>cs[o]?
 | .dead,_=>none
 | .emap,_=>none
def rdn:Blk→Nat→Nat→Option Value
 | .row _ _ cs,o,n=>if o + n≤cs.length then some (.agg ((cs.drop o).take n).toArray) else none
 | .dead,_,_=>none
 | .emap,_,_=>none
@[simp] theorem K0P {ro:Bool} {e:TypeId} {cs:List Value} {o:Nat}:rd (.row ro e cs) o=cs[o]?:=nr rfl
@[simp] theorem G0o {ro:Bool} {e:TypeId} {cs:List Value} {o n:Nat}:rdn (.row ro e cs) o n=if o + n≤cs.length then some (.agg ((cs.drop o).take n).toArray) else none:=nr rfl
theorem q0W {b o:Nat}:b0y G false 1 (.pointer (some ⟨b,o,none⟩))=rd (G.blk b) o:=by
 simp only [b0y]
 rw [R0c (by simp),R0c (by simp)]
 unfold a0c.cells?
 cases G.blk b with
 | dead=>rfl
 | emap=>rfl
 | row ro e cs =>
  simp only [R0p,R0K,rd]
  by_cases h:o + 1≤cs.length
  ·rw [R0k h];simp only [List.head?_take];rw [R0c (by simp),List.head?_drop]
  ·rw [R0c h,R0d (by omega)]
theorem p0y {b o n:Nat} (hn:0 < n):b0y G true n (.pointer (some ⟨b,o,none⟩))=rdn (G.blk b) o n:=by
 simp only [b0y]
 rw [R0c (by omega),R0c (by simp)]
 unfold a0c.cells?
 cases G.blk b with
 | dead=>rfl
 | emap=>rfl
 | row ro e cs =>
  simp only [R0T,rdn]
  split <;> simp_all
def wr (G:a0c) (b o:Nat) (vs:List Value):Blk→Option a0c
 | .row false e cs=>if o + vs.length≤cs.length then some (G.setIfInBounds b (.row false e (a0V cs o vs))) else none
 | _=>none
@[simp] theorem O0V {b o:Nat} {vs:List Value} {e:TypeId} {cs:List Value}:wr G b o vs (.row false e cs)=if o + vs.length≤cs.length then some (G.setIfInBounds b (.row false e (a0V cs o vs))) else none:=nr rfl
theorem p0R {b o n:Nat} {x:Value} (hf:fl≤b) (hl:(a0M x).length=n) (hp:(a0M x).all a0B=true) :
  j0l fl G n (.pointer (some ⟨b,o,none⟩)) x=wr G b o (a0M x) (G.blk b):=by
 simp only [j0l]
 rw [R0c (by simp [hl])]
 unfold a0c.write? wr
 split
 ·rename_i h;simp only [h];split <;> simp_all
 ·rename_i h;split <;> simp_all
theorem n0V {b o n:Nat} {e:TypeId} {cs:List Value} {x:Value} (h:G.blk b=.row false e cs) (hf:fl≤b) (hl:(a0M x).length=n) (ho:o + n≤cs.length) (hp:(a0M x).all a0B=true) :
  j0l fl G n (.pointer (some ⟨b,o,none⟩)) x=some (G.setIfInBounds b (.row false e (a0V cs o (a0M x)))):=by
 simp only [j0l]
 rw [R0c (by simp [hl])]
 unfold a0c.write?
 simp only [h]
 rw [R0k ⟨hf,by omega,hp⟩]
theorem a0S {x:Int} (h1:-9223372036854775808≤x) (h2:x < 9223372036854775808):IntKind.i64.wrap x=x:=by
 show (if (true && decide (x % (2 ^ 64:Int) ≥ (2 ^ 63:Int)))=true then x % (2 ^ 64:Int) - (2 ^ 64:Int) else x % (2 ^ 64:Int))=x
 rw [show (2 ^ 64:Int)=18446744073709551616 from rfl,show (2 ^ 63:Int)=9223372036854775808 from rfl]
 simp only [Bool.true_and,R0E]
 split <;> omega
theorem a0m {x:Int}:IntKind.u64.wrap x=x % 18446744073709551616:=by
 simp [IntKind.wrap,IntKind.bits,IntKind.signed]
theorem d0t {x:Int}:IntKind.u32.wrap x=x % 4294967296:=by
 simp [IntKind.wrap,IntKind.bits,IntKind.signed]
def q0e (H:a0c) (t:a0Q) (rs:List SRes) (P:Value→Prop):Prop:=∃ vs,d0V H t rs=some vs∧P (d0c vs)
theorem x0a {a:Nat} {P:Value→Prop}:q0e H t [.tmp a] P=P (get t a):=by simp [q0e,d0V,m0n,d0c]
theorem v0F {a n:Nat} {g:Bool} {P:Value→Prop}:q0e H t [.cell a g n] P=oo (b0y H g n (get t a)) P:=by
 unfold q0e;simp only [d0V,m0n];cases b0y H g n (get t a) <;> simp [d0c]
theorem x0b {r1 r2:SRes} {P:Value→Prop}:q0e H t [r1,r2] P=oo (m0n H t r1) fun a=>oo (m0n H t r2) fun b=>P (.tuple #[a,b]):=by
 unfold q0e;simp only [d0V];cases m0n H t r1 <;> cases m0n H t r2 <;> simp [d0c]
theorem p0N {r1 r2 r3:SRes} {P:Value→Prop}:q0e H t [r1,r2,r3] P=oo (m0n H t r1) fun a=>oo (m0n H t r2) fun b=>oo (m0n H t r3) fun c=>P (.tuple #[a,b,c]):=by
 unfold q0e;simp only [d0V];cases m0n H t r1 <;> cases m0n H t r2 <;> cases m0n H t r3 <;> simp [d0c]
theorem w0Z {a:Nat}:m0n H t (.tmp a)=some (get t a):=nr rfl
theorem v0E {a n:Nat} {g:Bool}:m0n H t (.cell a g n)=b0y H g n (get t a):=nr rfl
def L0A (P:a0Q→a0c→Prop):c0S
 | .exit _,_,_=>False
 | .normal,t,H=>P t H
 | .ret,t,H=>P t H
@[simp] theorem F0w {P:a0Q→a0c→Prop}:L0A P .normal t H=P t H:=nr rfl
@[simp] theorem L0B {P:a0Q→a0c→Prop}:L0A P .ret t H=P t H:=nr rfl
theorem a0d {f:FuncId} {args:List Value} {sf:q0b} (hc:E.code f=some sf) (hf:fl≤H.size) (hl:args.length=sf.np:=by rfl) (hnt:args.length≤sf.nt:=by exact of_decide_eq_true rfl)
  (h:∀ ρ:Nat→Value,(∀ i,ρ i=args.getD i undef)→W E H.size sf.body (T sf.nt ρ) H (L0A (fun t' H'=>q0e H' t' sf.res fun v=>Ext H H'→K v H')) R) :
  a0N E fl f args H (fun v H'=>K v H'∧Ext H H') R:=by
 have h1:=(o0k (K:=fun v H'=>Ext H H'→K v H') hc hl hnt (fun t h1 h2=>by
  have h3:=h (get t) h2
  rw [← E0Z h1] at h3
  refine h3.mono fun e t' H' hq=>?_
  cases e with
  | exit i=>exact R0q hq id
  | normal=>exact ⟨trivial,hq⟩
  | ret=>exact ⟨trivial,hq⟩)).keep (Q0W _)
 exact (h1.mono fun v H' hh=>⟨hh.1 hh.2.ext,hh.2.ext⟩).floor hf
end
end Go.Proofs.YtacninhfdfhgjaaGreat.AI
