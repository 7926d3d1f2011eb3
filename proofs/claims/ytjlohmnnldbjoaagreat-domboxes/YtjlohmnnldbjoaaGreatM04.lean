/- Part 5 of the proof: AiHeap, AiSet, AiOwn, AiNum1, AiNum2, AiMath1, AiNum3, AiNum4, AiNum5, AiMath2, AiNum6, AiNum7, AiNum8, AiNum9, AiBits, AiNum10, AiNum11, AiNum12. -/
import Derived.Test.YtjlohmnnldbjoaaGreatM02
import Derived.Test.YtjlohmnnldbjoaaGreatM03
set_option linter.unusedVariables false
set_option linter.unusedSimpArgs false
set_option linter.unusedSectionVars false
/- Slices of whole numbers, numbers, quotients in the abstract heap; functions that leave alone what was there. -/
namespace Go.Proofs.YtjlohmnnldbjoaaGreat.AI
section
open Go
variable {E:Env} {fl:Nat} {t:a0W} {H G:a0f} {K:k0E} {R:a0A}
def Sl (H:a0f) (e sz:Nat) (v:Value) (n:Nat) (cs:List Value):Prop :=
 cs.length=n * sz∧((v=.slice none 0 0∧n=0) ∨
  ∃ b off cap ro cells,v=.slice (some ⟨b,off,none⟩) n cap∧H.blk b=.row ro e cells∧off + n * sz≤cells.length∧cs=(cells.drop off).take (n * sz))
variable {e sz n:Nat} {v:Value} {cs:List Value}
theorem Sl.mono (h:Sl H e sz v n cs) (hx:Ext H G):Sl G e sz v n cs:=by
 obtain ⟨hl,h⟩:=h
 refine ⟨hl,?_⟩
 rcases h with h | ⟨b,off,cap,ro,cells,h1,h2,h3,h4⟩
 ·exact .inl h
 ·exact .inr ⟨b,off,cap,ro,cells,h1,hx.blk h2,h3,h4⟩
theorem Sl.nil:Sl H e sz (.slice none 0 0) 0 []:=⟨by simp,.inl ⟨rfl,rfl⟩⟩
theorem Sl.slen (h:Sl H e sz v n cs):j0b v=some (.int .i64 n):=by
 obtain ⟨_,⟨rfl,rfl⟩ | ⟨b,off,cap,ro,cells,rfl,_⟩⟩:=h <;> simp [j0b]
theorem Sl.ia (h:Sl H e sz v n cs) {k:IntKind} {j:Nat} (hj:j < n):iaV sz v (.int k j)=some (adr sz v j):=by
 obtain ⟨_,⟨rfl,rfl⟩ | ⟨b,off,cap,ro,cells,rfl,_⟩⟩:=h
 ·omega
 ·simp only [iaV,adr];rw [if_pos (by omega)];simp
theorem Sl.iaZ (h:Sl H e sz v n cs) {k:IntKind} {z:Int} (h0:0≤z) (hj:z < n):iaV sz v (.int k z)=some (adr sz v z.toNat):=by
 have:=h.ia (k:=k) (j:=z.toNat) (by omega)
 rwa [Int.toNat_of_nonneg h0] at this
theorem Sl.load (h:Sl H e sz v n cs) (hx:Ext H G) {j:Nat} (hj:j < n) (hs:0 < sz):b0F G true sz (adr sz v j)=some (.agg ((cs.drop (j * sz)).take sz).toArray):=by
 obtain ⟨hl,⟨rfl,rfl⟩ | ⟨b,off,cap,ro,cells,rfl,hb,ho,rfl⟩⟩:=h
 ·omega
 ·have hj2:(j + 1) * sz≤n * sz:=Nat.mul_le_mul_right sz hj
  rw [Nat.add_mul,Nat.one_mul] at hj2
  have hc:=g0n (off:=off + j * sz) (n:=sz) (hx.blk hb) (by omega)
  simp only [adr,b0F]
  rw [if_neg (by omega),if_neg (by simp)]
  simp only [if_true,hc]
  rw [List.drop_take,List.take_take,List.drop_drop,Nat.min_eq_left (by omega)]
theorem Sl.load1 (h:Sl H e 1 v n cs) (hx:Ext H G) {j:Nat} (hj:j < n):b0F G false 1 (adr 1 v j)=some (cs.getD j undef):=by
 obtain ⟨hl,⟨rfl,rfl⟩ | ⟨b,off,cap,ro,cells,rfl,hb,ho,rfl⟩⟩:=h
 ·omega
 ·have hc:=g0n (off:=off + j * 1) (n:=1) (hx.blk hb) (by omega)
  simp only [adr,b0F]
  rw [if_neg (by simp),if_neg (by simp)]
  simp only [hc,Bool.false_eq_true,if_false]
  rw [List.head?_take,if_neg (by simp),List.head?_drop,List.getD_eq_getElem?_getD,List.getElem?_take,if_pos (by omega),List.getElem?_drop]
  simp only [Nat.mul_one] at ho ⊢
  rw [List.getElem?_eq_getElem (by omega)]
  rfl
theorem Sl.elemOk (h:Sl H e sz v n cs) {G:a0f} (hx:Ext H G):AI.elemOk G e v=true:=by
 obtain ⟨hl,⟨rfl,rfl⟩ | ⟨b,off,cap,ro,cells,rfl,hb,ho,rfl⟩⟩:=h
 ·rfl
 ·unfold AI.elemOk
  simp only [hx.blk hb]
  cases ro <;> simp
theorem Sl.cells (h:Sl H e sz v n cs):a0K v=[v]:=by
 obtain ⟨hl,⟨rfl,rfl⟩ | ⟨b,off,cap,ro,cells,rfl,hb,ho,rfl⟩⟩:=h <;> rfl
theorem Sl.plain (h:Sl H e sz v n cs):a0u v=true:=by
 obtain ⟨hl,⟨rfl,rfl⟩ | ⟨b,off,cap,ro,cells,rfl,hb,ho,rfl⟩⟩:=h <;> rfl
theorem Sl.slice (h:Sl H e sz v n cs) {lo hi:Nat} (h1:lo≤hi) (h2:hi≤n) {x y:Option Value} (hx:bnd 0 x=some lo) (hy:bnd n y=some hi) :
  ∃ v',e0i sz v x y none=some v'∧Sl H e sz v' (hi - lo) ((cs.drop (lo * sz)).take ((hi - lo) * sz)):=by
 obtain ⟨hl,⟨rfl,rfl⟩ | ⟨b,off,cap,ro,cells,rfl,hb,ho,rfl⟩⟩:=h
 ·have:lo=0:=by omega
  have:hi=0:=by omega
  subst lo hi
  refine ⟨.slice none 0 0,?_,by simp,.inl ⟨rfl,rfl⟩⟩
  unfold e0i;simp [hx,hy];intro h;exact absurd h (by decide)
 ·refine ⟨_,by unfold e0i;simp only [hx,hy];rw [if_pos ⟨h1,h2⟩];rfl,?_,.inr ⟨b,off + lo * sz,_,ro,cells,rfl,hb,?_,?_⟩⟩
  ·simp only [List.length_take,List.length_drop]
   have e1:(hi - lo) * sz + lo * sz=hi * sz:=by rw [← Nat.add_mul];congr 1;omega
   have e2:hi * sz≤n * sz:=Nat.mul_le_mul_right sz h2
   omega
  ·have e1:(hi - lo) * sz + lo * sz=hi * sz:=by rw [← Nat.add_mul];congr 1;omega
   have e2:hi * sz≤n * sz:=Nat.mul_le_mul_right sz h2
   omega
  ·have e1:(hi - lo) * sz + lo * sz=hi * sz:=by rw [← Nat.add_mul];congr 1;omega
   have e2:hi * sz≤n * sz:=Nat.mul_le_mul_right sz h2
   rw [List.drop_take,List.take_take,List.drop_drop,Nat.min_eq_left (by omega)]
theorem Sl.setT (h:Sl H e sz v n cs) {p:Nat} {ro:Bool} {e':TypeId} {cs':List Value} {r:Blk} (hb:H.blk p=.row ro e' cs') (hne:e' ≠ e):Sl (H.setIfInBounds p r) e sz v n cs:=by
 obtain ⟨hl,h | ⟨b,off,cap,ro,cells,rfl,hb',ho,rfl⟩⟩:=h
 ·exact ⟨hl,.inl h⟩
 ·refine ⟨hl,.inr ⟨b,off,cap,ro,cells,rfl,?_,ho,rfl⟩⟩
  rw [b0g];exact hb'
  rintro rfl
  rw [hb'] at hb;cases hb;exact hne rfl
/-! ### limbs -/
def d0b (l:List Nat):List Value:=l.map fun x=>.int .u32 (x:Nat)
@[simp] theorem N0v {l:List Nat}:(d0b l).length=l.length:=by simp [d0b]
def Lim (H:a0f) (v:Value) (l:List Nat):Prop:=Sl H a0m 1 v l.length (d0b l)∧∀ x ∈ l,x < 4294967296
variable {l:List Nat}
theorem Lim.mono (h:Lim H v l) (hx:Ext H G):Lim G v l:=⟨h.1.mono hx,h.2⟩
theorem Lim.nil:Lim H (.slice none 0 0) []:=⟨Sl.nil,by simp⟩
theorem Lim.slen (h:Lim H v l):j0b v=some (.int .i64 l.length):=h.1.slen
theorem Lim.ia (h:Lim H v l) {k:IntKind} {j:Nat} (hj:j < l.length):iaV 1 v (.int k j)=some (adr 1 v j):=h.1.ia hj
theorem Lim.iaZ (h:Lim H v l) {k:IntKind} {z:Int} (h0:0≤z) (hj:z < l.length):iaV 1 v (.int k z)=some (adr 1 v z.toNat):=h.1.iaZ h0 hj
theorem Lim.load (h:Lim H v l) {j:Nat} (hj:j < l.length) {G:a0f} (hx:Ext H G):b0F G false 1 (adr 1 v j)=some (.int .u32 (l.getD j 0)):=by
 rw [h.1.load1 hx hj]
 simp [d0b,List.getD_eq_getElem?_getD,List.getElem?_map,hj]
theorem Lim.setT (h:Lim H v l) {p:Nat} {ro:Bool} {e':TypeId} {cs':List Value} {r:Blk} (hb:H.blk p=.row ro e' cs') (hne:e' ≠ a0m):Lim (H.setIfInBounds p r) v l:=⟨h.1.setT hb hne,h.2⟩
theorem Lim.elemOk (h:Lim H v l) {G:a0f} (hx:Ext H G):AI.elemOk G a0m v=true:=h.1.elemOk hx
theorem Lim.cells (h:Lim H v l):a0K v=[v]:=h.1.cells
theorem Lim.plain (h:Lim H v l):a0u v=true:=h.1.plain
theorem Lim.take (h:Lim H v l) {k:Nat} (hk:k≤l.length) {x:Option Value} (hx:bnd 0 x=some 0) {y:Option Value} (hy:bnd l.length y=some k):∃ v',e0i 1 v x y none=some v'∧Lim H v' (l.take k):=by
 obtain ⟨v',h1,h2⟩:=h.1.slice (Nat.zero_le k) hk hx hy
 refine ⟨v',h1,?_,fun x hx=>h.2 x (List.mem_of_mem_take hx)⟩
 have:(l.take k).length=k:=by simp;omega
 rw [this]
 simpa [d0b,List.map_take] using h2
def b0q (H:a0f) (v:Value) (i:Bool × List Nat):Prop:=∃ s,v=.agg #[.bool i.1,s]∧Lim H s i.2
theorem b0q.mono {i:Bool × List Nat} (h:b0q H v i) (hx:Ext H G):b0q G v i:=by obtain ⟨s,h1,h2⟩:=h;exact ⟨s,h1,h2.mono hx⟩
/-! ### cells of one's own -/
def rd:Blk→Nat→Option Value
 | .row _ _ cs,o=>cs[o]?
 | .dead,_=>none
def rdn:Blk→Nat→Nat→Option Value
 | .row _ _ cs,o,n=>if o + n≤cs.length then some (.agg ((cs.drop o).take n).toArray) else none
 | .dead,_,_=>none
@[simp] theorem W0o {ro:Bool} {e:TypeId} {cs:List Value} {o:Nat}:rd (.row ro e cs) o=cs[o]?:=nr rfl
@[simp] theorem W0d {ro:Bool} {e:TypeId} {cs:List Value} {o n:Nat}:rdn (.row ro e cs) o n=if o + n≤cs.length then some (.agg ((cs.drop o).take n).toArray) else none:=nr rfl
theorem w0B {b o:Nat}:b0F G false 1 (.pointer (some ⟨b,o,none⟩))=rd (G.blk b) o:=by
 simp only [b0F]
 rw [if_neg (by simp),if_neg (by simp)]
 unfold a0f.cells?
 cases G.blk b with
 | dead=>rfl
 | row ro e cs =>
  simp only [Bool.false_eq_true,if_false,rd]
  by_cases h:o + 1≤cs.length
  ·rw [if_pos h];simp only [List.head?_take];rw [if_neg (by simp),List.head?_drop]
  ·rw [if_neg h,List.getElem?_eq_none (by omega)]
theorem u0E {b o n:Nat} (hn:0 < n):b0F G true n (.pointer (some ⟨b,o,none⟩))=rdn (G.blk b) o n:=by
 simp only [b0F]
 rw [if_neg (by omega),if_neg (by simp)]
 unfold a0f.cells?
 cases G.blk b with
 | dead=>rfl
 | row ro e cs =>
  simp only [if_true,rdn]
  split <;> simp_all
def wr (G:a0f) (b o:Nat) (vs:List Value):Blk→Option a0f
 | .row false e cs=>if o + vs.length≤cs.length then some (G.setIfInBounds b (.row false e (b0r cs o vs))) else none
 | _=>none
@[simp] theorem W0s {b o:Nat} {vs:List Value} {e:TypeId} {cs:List Value}:wr G b o vs (.row false e cs)=if o + vs.length≤cs.length then some (G.setIfInBounds b (.row false e (b0r cs o vs))) else none:=nr rfl
theorem u0Z {b o n:Nat} {x:Value} (hf:fl≤b) (hl:(a0K x).length=n) (hp:(a0K x).all a0u=true) :
  d0F fl G n (.pointer (some ⟨b,o,none⟩)) x=wr G b o (a0K x) (G.blk b):=by
 simp only [d0F]
 rw [if_neg (by simp [hl])]
 unfold a0f.write? wr
 split
 ·rename_i h;simp only [h];split <;> simp_all
 ·rename_i h;split <;> simp_all
theorem q0O {b o n:Nat} {e:TypeId} {cs:List Value} {x:Value} (h:G.blk b=.row false e cs) (hf:fl≤b) (hl:(a0K x).length=n) (ho:o + n≤cs.length) (hp:(a0K x).all a0u=true) :
  d0F fl G n (.pointer (some ⟨b,o,none⟩)) x=some (G.setIfInBounds b (.row false e (b0r cs o (a0K x)))):=by
 simp only [d0F]
 rw [if_neg (by simp [hl])]
 unfold a0f.write?
 simp only [h]
 rw [if_pos ⟨hf,by omega,hp⟩]
theorem a0L {x:Int} (h1:-9223372036854775808≤x) (h2:x < 9223372036854775808):IntKind.i64.wrap x=x:=by
 show (if (true && decide (x % (2 ^ 64:Int) ≥ (2 ^ 63:Int)))=true then x % (2 ^ 64:Int) - (2 ^ 64:Int) else x % (2 ^ 64:Int))=x
 rw [show (2 ^ 64:Int)=18446744073709551616 from rfl,show (2 ^ 63:Int)=9223372036854775808 from rfl]
 simp only [Bool.true_and,decide_eq_true_eq]
 split <;> omega
theorem a0J {x:Int}:IntKind.u64.wrap x=x % 18446744073709551616:=by
 simp [IntKind.wrap,IntKind.bits,IntKind.signed]
theorem n0m {x:Int}:IntKind.u32.wrap x=x % 4294967296:=by
 simp [IntKind.wrap,IntKind.bits,IntKind.signed]
def u0X (H:a0f) (t:a0W) (rs:List SRes) (P:Value→Prop):Prop:=∃ vs,e0h H t rs=some vs∧P (c0Z vs)
theorem H0n {a:Nat} {P:Value→Prop}:u0X H t [.tmp a] P=P (get t a):=by simp [u0X,e0h,n0n,c0Z]
theorem F0c {a n:Nat} {g:Bool} {P:Value→Prop}:u0X H t [.cell a g n] P=oo (b0F H g n (get t a)) P:=by
 unfold u0X;simp only [e0h,n0n];cases b0F H g n (get t a) <;> simp [c0Z]
theorem H0o {r1 r2:SRes} {P:Value→Prop}:u0X H t [r1,r2] P=oo (n0n H t r1) fun a=>oo (n0n H t r2) fun b=>P (.tuple #[a,b]):=by
 unfold u0X;simp only [e0h];cases n0n H t r1 <;> cases n0n H t r2 <;> simp [c0Z]
theorem u0Y {r1 r2 r3:SRes} {P:Value→Prop}:u0X H t [r1,r2,r3] P=oo (n0n H t r1) fun a=>oo (n0n H t r2) fun b=>oo (n0n H t r3) fun c=>P (.tuple #[a,b,c]):=by
 unfold u0X;simp only [e0h];cases n0n H t r1 <;> cases n0n H t r2 <;> cases n0n H t r3 <;> simp [c0Z]
theorem H0m {a:Nat}:n0n H t (.tmp a)=some (get t a):=nr rfl
theorem F0b {a n:Nat} {g:Bool}:n0n H t (.cell a g n)=b0F H g n (get t a):=nr rfl
def Q0D (P:a0W→a0f→Prop):d0V
 | .exit _,_,_=>False
 | .normal,t,H=>P t H
 | .ret,t,H=>P t H
@[simp] theorem N0i {P:a0W→a0f→Prop}:Q0D P .normal t H=P t H:=nr rfl
@[simp] theorem S0G {P:a0W→a0f→Prop}:Q0D P .ret t H=P t H:=nr rfl
theorem a0l {f:FuncId} {args:List Value} {sf:q0Z} (hc:E.code f=some sf) (hf:fl≤H.size) (hl:args.length=sf.np:=by rfl) (hnt:args.length≤sf.nt:=by exact of_decide_eq_true rfl)
  (h:∀ ρ:Nat→Value,(∀ i,ρ i=args.getD i undef)→W E H.size sf.body (T sf.nt ρ) H (Q0D (fun t' H'=>u0X H' t' sf.res fun v=>Ext H H'→K v H')) R) :
  a0P E fl f args H (fun v H'=>K v H'∧Ext H H') R:=by
 have h1:=(l0N (K:=fun v H'=>Ext H H'→K v H') hc hl hnt (fun t h1 h2=>by
  have h3:=h (get t) h2
  rw [← F0H h1] at h3
  refine h3.mono fun e t' H' hq=>?_
  cases e with
  | exit i=>exact absurd hq id
  | normal=>exact ⟨trivial,hq⟩
  | ret=>exact ⟨trivial,hq⟩)).keep (Nat.le_refl _)
 exact (h1.mono fun v H' hh=>⟨hh.1 hh.2.ext,hh.2.ext⟩).floor hf
end
/- The set of rules that simp v0l code by. -/
section
open Go
section
variable {k:IntKind} {a b:Int} {tag:Nat}
@[simp] theorem F0Q:d0y tag .add (.int k a) (.int k b)=some (.int k (k.wrap (a + b))):=by unfold d0y;simp
@[simp] theorem S0B:d0y tag .sub (.int k a) (.int k b)=some (.int k (k.wrap (a - b))):=by unfold d0y;simp
@[simp] theorem S0z:d0y tag .mul (.int k a) (.int k b)=some (.int k (k.wrap (a * b))):=by unfold d0y;simp
theorem r0i (h:b ≠ 0):d0y tag .quo (.int k a) (.int k b)=some (.int k (k.wrap (a.tdiv b))):=by unfold d0y;simp [h]
theorem F0T (h:b ≠ 0):d0y tag .rem (.int k a) (.int k b)=some (.int k (a.tmod b)):=by unfold d0y;simp [h]
@[simp] theorem F0R:d0y tag .and (.int k a) (.int k b)=some (.int k (k.wrap (BitVec.ofInt k.bits a &&& BitVec.ofInt k.bits b).toNat)):=by unfold d0y;simp
@[simp] theorem M0X:d0y tag .or (.int k a) (.int k b)=some (.int k (k.wrap (BitVec.ofInt k.bits a ||| BitVec.ofInt k.bits b).toNat)):=by unfold d0y;simp
@[simp] theorem S0v:d0y tag .eql (.int k a) (.int k b)=some (.bool (a == b)):=by unfold d0y;simp
@[simp] theorem S0A:d0y tag .neq (.int k a) (.int k b)=some (.bool (a != b)):=by unfold d0y;simp
@[simp] theorem F0S:d0y tag .lss (.int k a) (.int k b)=some (.bool (decide (a < b))):=by unfold d0y;simp
@[simp] theorem S0y:d0y tag .leq (.int k a) (.int k b)=some (.bool (decide (a≤b))):=by unfold d0y;simp
@[simp] theorem S0x:d0y tag .gtr (.int k a) (.int k b)=some (.bool (decide (a > b))):=by unfold d0y;simp
@[simp] theorem S0w:d0y tag .geq (.int k a) (.int k b)=some (.bool (decide (a ≥ b))):=by unfold d0y;simp
@[simp] theorem Q0j {x y:Bool}:d0y 1 .eql (.bool x) (.bool y)=some (.bool (x == y)):=by unfold d0y;simp
@[simp] theorem Q0l {x y:Bool}:d0y 1 .neq (.bool x) (.bool y)=some (.bool (x != y)):=by unfold d0y;simp
@[simp] theorem Q0k {x:Option Addr} {n c n2 c2:Nat}:d0y 2 .eql (.slice x n c) (.slice none n2 c2)=some (.bool x.isNone):=nr rfl
@[simp] theorem Q0m {x:Option Addr} {n c n2 c2:Nat}:d0y 2 .neq (.slice x n c) (.slice none n2 c2)=some (.bool x.isSome):=nr rfl
theorem r0j {k':IntKind} (h:0≤b):d0y tag .shl (.int k a) (.int k' b)=some (.int k (k.wrap (a * 2 ^ (min b.toNat k.bits)))):=by unfold d0y;simp [h]
theorem j0h {k':IntKind} (h:0≤b):d0y tag .shr (.int k a) (.int k' b)=some (.int k (a.fdiv (2 ^ (min b.toNat k.bits)))):=by unfold d0y;simp [h]
theorem G0b {n m:Nat}:((n:Int).fdiv (m:Int))=((n / m:Nat):Int):=by
 rw [Int.fdiv_eq_ediv_of_nonneg _ (by omega)];rfl
@[simp] theorem X0t {n:Nat} {k':IntKind}:d0y tag .shr (.int .u64 (n:Int)) (.int k' 32)=some (.int .u64 ((n / 4294967296:Nat):Int)):=by
 rw [j0h (by omega)];exact congrArg (fun x=>some (Value.int .u64 x)) (G0b (n:=n) (m:=4294967296))
@[simp] theorem X0u {n:Nat} {k':IntKind}:d0y tag .shr (.int .u64 (n:Int)) (.int k' 63)=some (.int .u64 ((n / 9223372036854775808:Nat):Int)):=by
 rw [j0h (by omega)];exact congrArg (fun x=>some (Value.int .u64 x)) (G0b (n:=n) (m:=9223372036854775808))
@[simp] theorem W0f:unA .neg (.int k a)=some (.int k (k.wrap (0 - a))):=nr rfl
@[simp] theorem W0g {x:Bool}:unA .not (.bool x)=some (.bool !x):=nr rfl
end
@[simp] theorem F0V {a b:Nat}:((a:Int) == (b:Int))=(a == b):=by
 rw [Bool.eq_iff_iff,beq_iff_eq,beq_iff_eq];omega
@[simp] theorem S0E {a b:Nat}:((a:Int) != (b:Int))=(a != b):=by simp only [bne,F0V]
@[simp] theorem v0M {a:Nat}:((a:Int) == 0)=(a == 0):=by
 rw [Bool.eq_iff_iff,beq_iff_eq,beq_iff_eq];omega
@[simp] theorem Q0t {a:Nat}:((a:Int) != 0)=(a != 0):=by simp only [bne,v0M]
@[simp] theorem Q0u {a:Array Value}:a0K (.agg a)=a.toList:=nr rfl
@[simp] theorem Q0v {k:IntKind} {n:Int}:a0K (.int k n)=[.int k n]:=nr rfl
@[simp] theorem P0n {b:Bool}:a0K (.bool b)=[.bool b]:=nr rfl
@[simp] theorem N0c {a:Option Addr} {n c:Nat}:a0K (.slice a n c)=[.slice a n c]:=nr rfl
@[simp] theorem Q0w {a:Option Addr}:a0K (.pointer a)=[.pointer a]:=nr rfl
@[simp] theorem R0m {k:IntKind} {n:Int}:a0u (.int k n)=true:=nr rfl
@[simp] theorem P0H {b:Bool}:a0u (.bool b)=true:=nr rfl
@[simp] theorem N0C {a:Option Addr} {n c:Nat}:a0u (.slice a n c)=true:=nr rfl
@[simp] theorem R0n {a:Option Addr}:a0u (.pointer a)=true:=nr rfl
@[simp] theorem S0D {d:Nat}:bnd d none=some d:=nr rfl
@[simp] theorem M0Z {d n:Nat} {k:IntKind}:bnd d (some (.int k (n:Int)))=some n:=by simp [bnd]
@[simp] theorem W0w {n:Nat}:n + 1 + 1=n + 2:=by omega
@[simp] theorem W0x {n:Nat}:n + 2 + 1=n + 3:=by omega
@[simp] theorem W0y {n:Nat}:n + 3 + 1=n + 4:=by omega
@[simp] theorem W0z {n:Nat}:n + 4 + 1=n + 5:=by omega
@[simp] theorem W0A {n:Nat}:n + 5 + 1=n + 6:=by omega
@[simp] theorem T0O {n:Nat}:n + 1 + 2=n + 3:=by omega
@[simp] theorem T0P {n:Nat}:n + 1 + 3=n + 4:=by omega
@[simp] theorem T0Q {n:Nat}:n + 1 + 4=n + 5:=by omega
@[simp] theorem T0R {n:Nat}:n + 1 + 5=n + 6:=by omega
@[simp] theorem T0S {n:Nat}:n + 1 + 6=n + 7:=by omega
@[simp] theorem T0T {n:Nat}:n + 2 + 2=n + 4:=by omega
@[simp] theorem T0U {n:Nat}:n + 2 + 3=n + 5:=by omega
@[simp] theorem T0V {n:Nat}:n + 2 + 4=n + 6:=by omega
@[simp] theorem T0W {n:Nat}:n + 2 + 5=n + 7:=by omega
@[simp] theorem T0X {n:Nat}:n + 2 + 6=n + 8:=by omega
@[simp] theorem T0Y {n:Nat}:n + 3 + 2=n + 5:=by omega
@[simp] theorem T0Z {n:Nat}:n + 3 + 3=n + 6:=by omega
@[simp] theorem U0a {n:Nat}:n + 3 + 4=n + 7:=by omega
@[simp] theorem U0b {n:Nat}:n + 3 + 5=n + 8:=by omega
@[simp] theorem U0c {n:Nat}:n + 3 + 6=n + 9:=by omega
@[simp] theorem U0d {n:Nat}:n + 4 + 2=n + 6:=by omega
@[simp] theorem U0e {n:Nat}:n + 4 + 3=n + 7:=by omega
@[simp] theorem U0f {n:Nat}:n + 4 + 4=n + 8:=by omega
@[simp] theorem U0g {n:Nat}:n + 4 + 5=n + 9:=by omega
@[simp] theorem U0h {n:Nat}:n + 4 + 6=n + 10:=by omega
@[simp] theorem U0i {n:Nat}:n + 5 + 2=n + 7:=by omega
@[simp] theorem U0j {n:Nat}:n + 5 + 3=n + 8:=by omega
@[simp] theorem U0k {n:Nat}:n + 5 + 4=n + 9:=by omega
@[simp] theorem U0l {n:Nat}:n + 5 + 5=n + 10:=by omega
@[simp] theorem U0m {n:Nat}:n + 5 + 6=n + 11:=by omega
@[simp] theorem U0n {n:Nat}:n + 6 + 1=n + 7:=by omega
@[simp] theorem U0o {n:Nat}:n + 6 + 2=n + 8:=by omega
@[simp] theorem U0p {n:Nat}:n + 6 + 3=n + 9:=by omega
@[simp] theorem U0q {n:Nat}:n + 6 + 4=n + 10:=by omega
@[simp] theorem U0r {n:Nat}:n + 6 + 5=n + 11:=by omega
@[simp] theorem U0s {n:Nat}:n + 6 + 6=n + 12:=by omega
def v0f (w:Bool):Value→Bool
 | .bool b=>b == w
 | _=>false
@[simp] theorem P0J {w b:Bool}:v0f w (.bool b)=(b == w):=nr rfl
@[simp ↓] theorem X0v {E:Env} {fl:Nat} {t:a0W} {H:a0f} {R:a0A} {d:Option Nat} {op:SOp} {r:List a0G} {Z:a0W→a0f→Prop} {j:Nat} {w:Bool} :
  WR E fl (⟨d,some (j,w),op⟩ :: r) t H Z R=if v0f w (get t j)=true then WS E fl t H op (fun v H'=>WR E fl r (put t d v) H' Z R) R else WR E fl r (put t d undef) H Z R:=by
 have h:a0X t (some (j,w))=v0f w (get t j):=by
  simp only [a0X]
  generalize get t j=v
  cases v <;> rfl
 show (if a0X t (some (j,w))=true then _ else _)=_
 rw [h]
attribute [simp ↓] Q0c M0O v0y T0M M0L P0Z T0J P0X T0I P0Y F0N M0N F0L M0M Q0b T0L F0K P0U Q0a T0K F0O P0T M0K v0x o0T
attribute [simp ↓] r0c M0S M0R Q0f M0Q F0P Q0e
attribute [simp] H0n F0c H0o u0Y H0m F0b u0Z a0R b0g
attribute [simp] N0F R0a P0e
attribute [simp] a0y d0H w0B u0E Ext.refl Ext.push Ext.set f0H b0v f0e b0r
attribute [simp low] a0B
attribute [congr] F0J t0P M0P F0M G0n
def o0d (i:Nat) (A M:a0W→a0f→Prop) (Q:d0V):d0V
 | .normal,t,H=>A t H
 | .exit j,t,H=>if j=i then M t H else Q (.exit j) t H
 | .ret,t,H=>Q .ret t H
section
variable {E:Env} {fl:Nat} {t:a0W} {H:a0f} {Q:d0V} {R:a0A}
@[simp] theorem J0k {i:Nat} {A M:a0W→a0f→Prop}:o0d i A M Q .normal t H=A t H:=nr rfl
@[simp] theorem P0F {i j:Nat} {A M:a0W→a0f→Prop}:o0d i A M Q (.exit j) t H=if j=i then M t H else Q (.exit j) t H:=nr rfl
@[simp] theorem R0d {i:Nat} {A M:a0W→a0f→Prop}:o0d i A M Q .ret t H=Q .ret t H:=nr rfl
theorem Q0d {a:SCode} {Z:a0W→a0f→Prop} (M:a0W→a0f→Prop) (h:W E fl a t H (h0P M Q) R) (hz:∀ t H,M t H→Z t H):W E fl a t H (h0P Z Q) R:=by
 refine h.mono fun e t' H' hq=>?_
 cases e with
 | normal=>exact hz _ _ hq
 | exit i=>exact hq
 | ret=>exact hq
theorem b0Y {c:SCode} {i:Nat} {Z:a0W→a0f→Prop} (I:Nat→a0W→a0f→Prop) (M:a0W→a0f→Prop) (k:Nat) (hI:I k t H)
  (step:∀ k t H,I k t H→W E fl c t H (o0d i (fun t' H'=>∃ k',k' < k∧I k' t' H') M Q) R)
  (rest:∀ t H,M t H→Z t H):W E fl (.loop c) t H (f0w i (h0P Z Q)) R:=by
 refine I0Z I (fun k t H h=>(step k t H h).mono fun e t' H' hq=>?_) k hI
 cases e with
 | normal=>exact hq
 | ret=>exact hq
 | exit j =>
  simp only [o0d] at hq
  simp only [h0P,f0w]
  split
  ·rename_i hj;rw [if_pos hj] at hq;exact rest _ _ hq
  ·rename_i hj;rw [if_neg hj] at hq;exact hq
end
end
/- Slices that a function may write: append, make. -/
section
open Go
variable {fl:Nat} {H G:a0f} {e e2 sz n m bytes:Nat} {s x:Value} {cs new:List Value}
def slB:Value→Option Nat
 | .slice (some p) _ _=>some p.block
 | _=>none
def Own (fl:Nat) (H:a0f) (e sz:Nat) (v:Value) (n:Nat) (cs:List Value):Prop :=
 cs.length=n * sz∧((v=.slice none 0 0∧n=0) ∨ ∃ b cap,v=.slice (some ⟨b,0,none⟩) n cap∧H.blk b=.row false e cs∧fl≤b)
theorem Own.nil:Own fl H e sz (.slice none 0 0) 0 []:=⟨by simp,.inl ⟨rfl,rfl⟩⟩
theorem Own.mk {b cap:Nat} (hb:H.blk b=.row false e cs) (hl:cs.length=n * sz) (hf:fl≤b):Own fl H e sz (.slice (some ⟨b,0,none⟩) n cap) n cs:=⟨hl,.inr ⟨b,cap,rfl,hb,hf⟩⟩
theorem Own.sl (h:Own fl H e sz s n cs):Sl H e sz s n cs:=by
 obtain ⟨hl,h | ⟨b,cap,rfl,hb,hf⟩⟩:=h
 ·exact ⟨hl,.inl h⟩
 ·exact ⟨hl,.inr ⟨b,0,cap,false,cs,rfl,hb,by omega,by rw [List.drop_zero,← hl,List.take_length]⟩⟩
theorem Own.mono (h:Own fl H e sz s n cs) (hx:Ext H G):Own fl G e sz s n cs:=by
 obtain ⟨hl,h | ⟨b,cap,rfl,hb,hf⟩⟩:=h
 ·exact ⟨hl,.inl h⟩
 ·exact ⟨hl,.inr ⟨b,cap,rfl,hx.blk hb,hf⟩⟩
def d0G (o:Option Nat) (H G:a0f):Prop:=H.size≤G.size∧∀ b,b < H.size→o ≠ some b→G.blk b=H.blk b
theorem Ext.extB {o:Option Nat} (h:Ext H G):d0G o H G:=⟨h.1,fun b hb _=>h.2 b hb⟩
theorem j0x (ho:Own fl G e sz s n cs) (hx:Sl G e2 sz x m new) (hp:new.all a0u=true) (hn:n + m≤1073741824) (hb:bytes≤1024) (hs:0 < sz) (hfl:fl≤G.size) :
  ∃ v' G',h0V fl G e sz bytes s x=some (v',G')∧Own fl G' e sz v' (n + m) (cs ++ new)∧d0G (slB s) G G'∧(∀ H0,H0.size≤fl→Ext H0 G→Ext H0 G'):=by
 obtain ⟨hxl,hx⟩:=hx
 have hol:=ho.1
 by_cases hm:m=0
 ·subst hm
  have hnew:new=[]:=List.length_eq_zero_iff.1 (by omega)
  subst hnew
  refine ⟨s,G,?_,by simpa using ho,(Ext.refl G).extB,fun _ _ h=>h⟩
  rcases hx with ⟨rfl,_⟩ | ⟨b,off,cap,ro,cells,rfl,_⟩ <;> rcases ho.2 with ⟨rfl,rfl⟩ | ⟨b',cap',rfl,_⟩ <;> simp [h0V]
 ·rcases hx with ⟨_,h0⟩ | ⟨b,off,cap,ro,cells,rfl,hbk,ho1,ho2⟩
  ·exact absurd h0 hm
  have hc:=g0n hbk ho1
  rw [← ho2] at hc
  rcases ho.2 with ⟨rfl,rfl⟩ | ⟨b',cap',rfl,hb',hf'⟩
  ·have hcs:cs=[]:=List.length_eq_zero_iff.1 (by omega)
   subst hcs
   refine ⟨.slice (some ⟨G.size,0,none⟩) m unk,G.push (.row false e new),?_,?_,(Ext.push (Ext.refl G)).extB,fun _ _ h=>h.push⟩
   ·unfold h0V
    simp only
    rw [if_neg hm,if_pos ⟨by omega,hb,hs⟩]
    simp only [hc,hp,Bool.true_eq_false,if_false]
    rw [if_pos ⟨by trivial,by trivial⟩]
   ·rw [Nat.zero_add];exact Own.mk a0y (by simpa using hxl) hfl
  ·have hb'l:=a0k hb'
   have hc2:G.cells? b' 0 (n * sz)=some cs:=by
    rw [g0n hb' (by omega),List.drop_zero,← hol,List.take_length]
   by_cases hcap:cap' ≠ unk∧cap' < n + m
   ·refine ⟨.slice (some ⟨G.size,0,none⟩) (n + m) unk,G.push (.row false e (cs ++ new)),?_,?_,(Ext.push (Ext.refl G)).extB,fun _ _ h=>h.push⟩
    ·unfold h0V
     simp only
     rw [if_neg hm,if_pos ⟨by omega,hb,hs⟩]
     simp only [hc,hp,Bool.true_eq_false,if_false,hc2]
     by_cases h00:n=0∧cap' = 0
     ·rw [if_pos h00]
      have hcs:cs=[]:=List.length_eq_zero_iff.1 (by rw [hol,h00.1];simp)
      rw [hcs,h00.1];simp
     ·rw [if_neg h00,if_pos hcap]
    ·exact Own.mk a0y (by rw [List.length_append,hol,hxl,Nat.add_mul]) hfl
   ·refine ⟨.slice (some ⟨G.size,0,none⟩) (n + m) unk,(G.setIfInBounds b' .dead).push (.row false e (cs ++ new)),?_,?_,?_,?_⟩
    ·unfold h0V
     simp only
     rw [if_neg hm,if_pos ⟨by omega,hb,hs⟩]
     simp only [hc,hp,Bool.true_eq_false,if_false,hc2]
     rw [if_neg (fun h00:n=0∧cap' = 0=>hcap ⟨by rw [h00.2];decide,by omega⟩),if_neg hcap]
     simp only [hb']
     rw [if_pos ⟨trivial,hf'⟩]
    ·exact Own.mk (by rw [a0B];simp) (by rw [List.length_append,hol,hxl,Nat.add_mul]) hfl
    ·refine ⟨by simp,fun c hc hne=>?_⟩
     have:b' ≠ c:=fun h=>hne (by simp [slB,h])
     rw [d0H (by simpa using hc),b0g this]
    ·intro H0 h1 h2
     exact (h2.set (by omega)).push
theorem f0O {c:Nat} (ho:Own fl G e sz s n cs) (hl:new.length=sz) (hp:new.all a0u=true) (hn:n < 1073741824) (hb:bytes≤1024) (hs:0 < sz) (hfl:fl≤G.size) :
  ∃ v' G',h0V fl (G.push (.row false e2 new)) e sz bytes s (.slice (some ⟨G.size,0,none⟩) 1 c)=some (v',G')∧Own fl G' e sz v' (n + 1) (cs ++ new)∧d0G (slB s) G G'∧(∀ H0,H0.size≤fl→Ext H0 G→Ext H0 G'):=by
 have hx:Sl (G.push (.row false e2 new)) e2 sz (.slice (some ⟨G.size,0,none⟩) 1 c) 1 new:=(Own.mk (fl:=0) a0y (by omega) (Nat.zero_le _)).sl
 obtain ⟨v',G',h1,h2,h3,h4⟩:=j0x (ho.mono (Ext.push (Ext.refl G))) hx hp (by omega) hb hs (bytes:=bytes) (by simp;omega)
 refine ⟨v',G',h1,h2,⟨?_,fun b hb hne=>?_⟩,fun H0 k1 k2=>h4 H0 k1 k2.push⟩
 ·have:=h3.1;simp at this;omega
 ·rw [h3.2 b (by simp;omega) hne,d0H hb]
@[simp] theorem P0d {a b:List Nat}:d0b (a ++ b)=d0b a ++ d0b b:=by simp [d0b]
theorem l0p {l:List Nat}:(d0b l).all a0u=true:=by simp [d0b,a0u]
end
/- num: what its functions answer. -/
section
open Go
variable {fl:Nat} {H:a0f} {R:a0A} {v:Value} {i:Bool × List Nat}
def j0T (i:Bool × List Nat):Bool:=if i.2.length=0 then !i.1 else i.2.getD (i.2.length - 1) 0 != 0
theorem e0I (h:b0q H v i) (hf:fl≤H.size) (hn:i.2.length < 4611686018427387904) :
  a0P env fl n0J [v] H (fun r H'=>r=.bool (j0T i)∧Ext H H') R:=by
 obtain ⟨s,rfl,hs⟩:=h
 refine a0l U0Q hf (h:=?_)
 intro ρ h0
 simp [H0G]
 simp [y0U,y0V,y0W,y0X,h0]
 simp (disch:=first | omega | assumption | (simp;done) | (repeat (first | assumption | exact Ext.refl _ | apply Ext.push | apply Ext.set))) [hs.slen,hs.iaZ,hs.load,a0L]
 refine ⟨fun h=>by simp [j0T,h],fun h=>?_⟩
 have hl:=List.length_pos_iff.2 h
 simp (disch:=first | omega | assumption | (simp;done) | (repeat (first | assumption | exact Ext.refl _ | apply Ext.push | apply Ext.set))) [hs.iaZ,hs.load,j0T,h]
def f0a (i:Bool × List Nat):List Nat:=if j0T i then i.2 else []
theorem k0P (h:b0q H v i) (hf:fl≤H.size) (hn:i.2.length < 4611686018427387904) :
  a0P env fl f0k [v] H (fun r H'=>Lim H' r (f0a i)∧Ext H H') R:=by
 obtain ⟨s,rfl,hs⟩:=h
 refine a0l U0H hf (h:=?_)
 intro ρ h0
 simp [H0x]
 simp [y0d,y0e,y0f,y0g,h0]
 refine (e0I ⟨s,rfl,hs.mono (by simp)⟩ (by simp) hn).mono ?_
 rintro _ G ⟨rfl,hx⟩
 simp [hx.2,f0a]
 exact ⟨fun h _=>by simp [h,Lim.nil],fun h hx=>by simp [h,hs.mono hx]⟩
def S0N (i:Bool × List Nat):Bool:=j0T i && i.1
theorem o0l (h:b0q H v i) (hf:fl≤H.size) (hn:i.2.length < 4611686018427387904) :
  a0P env fl d0M [v] H (fun r H'=>r=.bool (S0N i)∧Ext H H') R:=by
 obtain ⟨s,rfl,hs⟩:=h
 refine a0l U0I hf (h:=?_)
 intro ρ h0
 simp [H0y]
 simp [y0h,y0i,h0]
 refine (e0I ⟨s,rfl,hs.mono (by simp)⟩ (by simp) hn).mono ?_
 rintro _ G ⟨rfl,hx⟩
 cases hm:j0T i <;> simp [hx.2,S0N,h0,hm]
theorem a0r {x:Nat} (hf:fl≤H.size) :
  a0P env fl f0l [.int .u64 x] H (fun r H'=>r=.int .u32 ((x % 4294967296:Nat):Int)∧Ext H H') R:=by
 refine a0l U0N hf (h:=?_)
 intro ρ h0
 simp [H0D]
 simp [y0H,y0I,h0,n0m]
def b0T (a b:Int):Int:=if a < b then -1 else if a > b then 1 else 0
theorem h0w {a b:Int} (hf:fl≤H.size) :
  a0P env fl w0a [.int .i64 a,.int .i64 b] H (fun r H'=>r=.int .i64 (b0T a b)∧Ext H H') R:=by
 refine a0l V0g hf (h:=?_)
 intro ρ h0
 simp [H0W]
 simp [A0J,A0K,A0L,A0M,A0N,A0O,h0,b0T]
 refine ⟨fun h1 h2=>?_,fun h1=>⟨fun h2=>?_,fun h2=>?_⟩⟩ <;> (repeat' split) <;> omega
theorem f0Y {a b:Int} (hf:fl≤H.size) :
  a0P env fl w0b [.int .u32 a,.int .u32 b] H (fun r H'=>r=.int .i64 (b0T a b)∧Ext H H') R:=by
 refine a0l V0h hf (h:=?_)
 intro ρ h0
 simp [H0X]
 simp [A0P,A0Q,A0R,A0S,A0T,A0U,h0,b0T]
 refine ⟨fun h1 h2=>?_,fun h1=>⟨fun h2=>?_,fun h2=>?_⟩⟩ <;> (repeat' split) <;> omega
/-! ### slices.Clone, made -/
theorem t0O {l:List Nat} (h:Lim H v l) (hf:fl≤H.size) (hn:l.length≤1073741824) :
  a0P env fl v0Z [v] H (fun r H'=>Lim H' r l∧Ext H H') R:=by
 refine a0l V0f hf (h:=?_)
 intro ρ h0
 simp [H0V]
 simp [A0F,A0G,A0H,A0I,h0]
 have hd:=h
 obtain ⟨⟨hl,⟨rfl,h2⟩ | ⟨b,off,cap,ro,cells,rfl,hb,ho,hcs⟩⟩,hx⟩:=h
 ·have:l=[]:=List.length_eq_zero_iff.1 h2
  subst this
  simp [Lim.nil]
 ·simp
  have ho2:Own H.size (H.push (.row false a0m [])) a0m 1 (.slice (some ⟨H.size,0,none⟩) 0 0) 0 []:=Own.mk a0y (by simp) (Nat.le_refl _)
  obtain ⟨v',G',h1,h2,h3,h4⟩:=j0x (bytes:=4) ho2 ((hd.mono (Ext.push (Ext.refl H))).1) l0p (by omega) (by omega) (by omega) (by simp)
  simp only [Nat.zero_add,List.nil_append] at h2
  simp [h1]
  exact fun _=>⟨h2.sl,hx⟩
end
/- num.made. -/
section
open Go
variable {fl:Nat} {H:a0f} {R:a0A} {v:Value} {i:Bool × List Nat} {l:List Nat}
def d0k (l:List Nat):List Nat:=(l.reverse.dropWhile (· == 0)).reverse
theorem o0I:d0k []=[]:=rfl
theorem k0v:d0k (l ++ [0])=d0k l:=by simp [d0k]
theorem i0y {x:Nat} (h:x ≠ 0):d0k (l ++ [x])=l ++ [x]:=by simp [d0k,h]
def mkI (neg:Bool) (l:List Nat):Bool × List Nat:=if d0k l=[] then (false,[]) else (neg,d0k l)
theorem d0T {n:Nat} (h:n < l.length):l.take (n + 1)=l.take n ++ [l.getD n 0]:=by
 rw [List.take_add_one,List.getElem?_eq_getElem h,List.getD_eq_getElem?_getD,List.getElem?_eq_getElem h];rfl
theorem m0m {b:Bool} (h:Lim H v l) (hf:fl≤H.size) (hn:l.length≤1073741824) :
  a0P env fl f0F [.bool b,v] H (fun r H'=>b0q H' r (mkI b l)∧Ext H H') R:=by
 refine a0l U0J hf (h:=?_)
 intro ρ h0
 simp [H0z]
 simp [y0j,y0k,h0,h.slen]
 refine b0Y (fun k t G=>G=H.push (.row false a0c [.bool false,.slice none 0 0])∧t.length=29∧get t 0=.bool b∧get t 1=v∧get t 4=.pointer (some ⟨H.size,0,none⟩) ∧
   get t 5=.int .i64 k∧k≤l.length∧d0k (l.take k)=d0k l)
  (fun t G=>∃ k:Nat,G=H.push (.row false a0c [.bool false,.slice none 0 0])∧t.length=29∧get t 0=.bool b∧get t 1=v∧get t 4=.pointer (some ⟨H.size,0,none⟩) ∧
   get t 5=.int .i64 k∧k≤l.length∧d0k l=l.take k) l.length (by simp [h0]) ?_ ?_
 ·rintro k t G ⟨rfl,ht,g0,g1,g4,g5,hk,htr⟩
  obtain ⟨ρ,rfl⟩:=toT ht
  simp only [b0Z,Nat.reduceLT] at g0 g1 g4 g5
  by_cases hk0:k=0
  ·subst hk0
   simp [p0G,g0,g1,g4,g5]
   exact ⟨0,by simp,by simp,by rw [← htr];rfl⟩
  ·have hp:0 < k:=by omega
   have w1:IntKind.i64.wrap ((k:Int) - 1)=((k - 1:Nat):Int):=by rw [a0L (by omega) (by omega)];omega
   simp [p0G,y0l,g0,g1,g4,g5,hp,w1,h.ia (show k - 1 < l.length by omega),h.load (show k - 1 < l.length by omega)]
   have hk1:l.take k=l.take (k - 1) ++ [l.getD (k - 1) 0]:=by rw [← d0T (by omega)];congr 1;omega
   rw [List.getD_eq_getElem?_getD] at hk1
   refine ⟨fun hz=>⟨k - 1,by omega,rfl,by omega,?_⟩,fun hz=>⟨k,rfl,hk,?_⟩⟩
   ·rw [← htr,hk1,hz,k0v]
   ·rw [← htr,hk1,i0y hz]
 ·rintro t G ⟨k,rfl,ht,g0,g1,g4,g5,hk,htr⟩
  obtain ⟨ρ,rfl⟩:=toT ht
  simp only [b0Z,Nat.reduceLT] at g0 g1 g4 g5
  obtain ⟨v',h1,h2⟩:=h.take hk (x:=none) rfl (y:=some (.int .i64 (k:Int))) (by simp)
  simp [y0m,y0n,y0o,g0,g1,g4,g5,h.elemOk,h1]
  refine ⟨fun hk0=>⟨.slice none 0 0,by simp [mkI,htr,hk0],by simp [mkI,htr,hk0,Lim.nil]⟩,fun hk0=>?_⟩
  refine (t0O (h2.mono (by simp)) (by simp) (by simp;omega)).mono ?_
  rintro r G ⟨hr,hx⟩
  have hlt:H.size < G.size:=by have:=hx.1;simp at this;omega
  simp [hr.cells,hr.plain,hx.2,hlt]
  have hl0:l ≠ []:=by rintro rfl;exact hk0 (by simpa using hk)
  refine fun _=>⟨r,?_,?_⟩
  ·simp [mkI,htr,hk0,hl0]
  ·have:(mkI b l).2=l.take k:=by simp [mkI,htr,hk0,hl0]
   rw [this]
   exact hr.setT (by rw [hx.2 _ (by simp)];exact a0y) (by decide)
end
/- Limbs and numbers: plain laws. -/
section
open Go
def a0D:List Nat→Nat
 | []=>0
 | x :: l=>x + 4294967296 * a0D l
def b0D (l:List Nat):Prop:=∀ x ∈ l,x < 4294967296
theorem f0q:∀ (a b:List Nat),a0D (a ++ b)=a0D a + 4294967296 ^ a.length * a0D b
 | [],b=>by simp [a0D]
 | x :: a,b=>by
  simp only [List.cons_append,a0D,f0q a b,List.length_cons,Nat.pow_succ]
  rw [Nat.mul_add,← Nat.mul_assoc,Nat.mul_comm (4294967296 ^ a.length) 4294967296,Nat.add_assoc]
theorem d0v (a:List Nat) (x:Nat):a0D (a ++ [x])=a0D a + 4294967296 ^ a.length * x:=by rw [f0q];simp [a0D]
theorem f0X:∀ (l:List Nat),b0D l→a0D l < 4294967296 ^ l.length
 | [],_=>by simp [a0D]
 | x :: l,h=>by
  have h1:=f0X l (fun y hy=>h y (List.mem_cons_of_mem _ hy))
  have h2:=h x (List.mem_cons_self ..)
  simp only [a0D,List.length_cons,Nat.pow_succ]
  omega
theorem l0w (x:Nat) (l:List Nat):d0k (x :: l)=if d0k l=[]∧x=0 then [] else x :: d0k l:=by
 unfold d0k
 rw [List.reverse_cons,List.dropWhile_append]
 by_cases h:(List.dropWhile (fun x=>x == 0) l.reverse).isEmpty=true
 ·rw [if_pos h]
  have h':List.dropWhile (fun x=>x == 0) l.reverse=[]:=by simpa using h
  rw [h']
  by_cases hx:x=0 <;> simp [hx]
 ·rw [if_neg h]
  have h':List.dropWhile (fun x=>x == 0) l.reverse ≠ []:=by simpa using h
  rw [if_neg (by simp [h'])]
  simp
theorem h0u:∀ (l:List Nat),a0D l=0 ↔ d0k l=[]
 | []=>by simp [a0D,o0I]
 | x :: l=>by
  rw [l0w]
  have:=h0u l
  by_cases h:d0k l=[]∧x=0
  ·rw [if_pos h];have:=this.2 h.1;simp [a0D,this,h.2]
  ·rw [if_neg h]
   simp only [a0D,reduceCtorEq,iff_false]
   intro h0
   exact h ⟨this.1 (by omega),by omega⟩
def a0I (n:Nat):List Nat:=if h:n=0 then [] else (n % 4294967296) :: a0I (n / 4294967296)
termination_by n
decreasing_by omega
theorem b0o:a0I 0=[]:=by unfold a0I;simp
theorem e0m {n:Nat} (h:n ≠ 0):a0I n=(n % 4294967296) :: a0I (n / 4294967296):=by rw [a0I];simp [h]
theorem e0Q:∀ (l:List Nat),b0D l→d0k l=a0I (a0D l)
 | [],_=>by rw [o0I,a0D,b0o]
 | x :: l,h=>by
  have ih:=e0Q l (fun y hy=>h y (List.mem_cons_of_mem _ hy))
  have hx:=h x (List.mem_cons_self ..)
  rw [l0w]
  by_cases hc:d0k l=[]∧x=0
  ·rw [if_pos hc]
   have:=(h0u l).2 hc.1
   rw [a0D,this,hc.2,b0o]
  ·rw [if_neg hc]
   have hne:a0D (x :: l) ≠ 0:=by
    intro h0
    simp only [a0D] at h0
    exact hc ⟨(h0u l).1 (by omega),by omega⟩
   rw [e0m hne]
   have e1:a0D (x :: l) % 4294967296=x:=by simp only [a0D];omega
   have e2:a0D (x :: l) / 4294967296=a0D l:=by simp only [a0D];omega
   rw [e1,e2,ih]
theorem a0H (n:Nat):a0D (a0I n)=n:=by
 induction n using Nat.strongRecOn with
 | ind n ih =>
  by_cases h:n=0
  ·rw [h,b0o];rfl
  ·rw [e0m h,a0D,ih _ (by omega)];omega
theorem b0I (n:Nat):b0D (a0I n):=by
 induction n using Nat.strongRecOn with
 | ind n ih =>
  by_cases h:n=0
  ·rw [h,b0o];intro x hx;simp at hx
  ·rw [e0m h]
   intro x hx
   rcases List.mem_cons.1 hx with rfl | hx
   ·omega
   ·exact ih _ (by omega) x hx
theorem g0o {n k:Nat} (h:n < 4294967296 ^ k):(a0I n).length≤k:=by
 induction k generalizing n with
 | zero => have : n = 0 := by simpa using h
           rw [this,b0o];simp
 | succ k ih =>
  by_cases h0:n=0
  ·rw [h0,b0o];simp
  ·rw [e0m h0,List.length_cons]
   have:n / 4294967296 < 4294967296 ^ k:=by
    rw [Nat.div_lt_iff_lt_mul (by omega)];rw [Nat.pow_succ] at h;exact h
   have:=ih this
   omega
theorem j0S (n:Nat):n < 4294967296 ^ (a0I n).length:=by
 have:=f0X (a0I n) (b0I n)
 rwa [a0H] at this
theorem b0V {n:Nat}:a0I n=[] ↔ n=0:=by
 constructor
 ·intro h;rw [← a0H n,h];rfl
 ·rintro rfl;exact b0o
theorem j0D {n:Nat} (h:n ≠ 0):(a0I n).getD ((a0I n).length - 1) 0 ≠ 0:=by
 induction n using Nat.strongRecOn with
 | ind n ih =>
  rw [e0m h]
  by_cases h2:n / 4294967296=0
  ·rw [h2,b0o];simp;omega
  ·have:=ih (n / 4294967296) (by omega) h2
   have hl:(a0I (n / 4294967296)).length ≠ 0:=fun h3=>h2 (b0V.1 (List.length_eq_zero_iff.1 h3))
   rw [List.length_cons,show (a0I (n / 4294967296)).length + 1 - 1=((a0I (n / 4294967296)).length - 1) + 1 by omega,List.getD_cons_succ]
   exact this
def a0O (i:Bool × List Nat):Int:=if j0T i then (if i.1 then -(a0D i.2:Int) else a0D i.2) else 0
def a0n (z:Int):Bool × List Nat:=(decide (z < 0),a0I z.natAbs)
theorem J0n {b:Bool} {l:List Nat} (h:b0D l):mkI b l=a0n (if b then -(a0D l:Int) else a0D l):=by
 unfold mkI a0n
 rw [e0Q l h]
 by_cases h0:a0D l=0
 ·rw [h0,b0o];cases b <;> simp [b0o]
 ·rw [if_neg (by rw [b0V];exact h0)]
  cases b <;> simp <;> omega
theorem o0h (z:Int):j0T (a0n z)=true:=by
 unfold j0T a0n
 by_cases h:z=0
 ·subst h;simp [b0o]
 ·have h1:z.natAbs ≠ 0:=by omega
  have h2:(a0I z.natAbs).length ≠ 0:=fun h3=>h1 (b0V.1 (List.length_eq_zero_iff.1 h3))
  simp only
  rw [if_neg h2]
  simpa using j0D h1
theorem a0i (z:Int):a0O (a0n z)=z:=by
 unfold a0O
 rw [o0h]
 simp only [a0n,a0H,if_true]
 by_cases h:z < 0 <;> simp [h] <;> omega
theorem d0n:a0n 0=(false,[]):=by simp [a0n,b0o]
end
/- num.plus. -/
section
open Go
set_option maxHeartbeats 4000000
variable {fl:Nat} {H:a0f} {R:a0A} {v w:Value} {a b:List Nat}
theorem Lim.ok {l:List Nat} (h:Lim H v l):b0D l:=h.2
theorem b0h {l:List Nat} {n:Nat} (h:n < l.length):a0D (l.take (n + 1))=a0D (l.take n) + 4294967296 ^ n * l.getD n 0:=by
 rw [d0T h,d0v,List.length_take,Nat.min_eq_left (by omega)]
theorem m0n (ha:Lim H v a) (hb:Lim H w b) (hf:fl≤H.size) (hna:a.length < 1073741824) (hnb:b.length < 1073741824) :
  a0P env fl v0U [v,w] H (fun r H'=>(∃ o,Lim H' r o∧a0D o=a0D a + a0D b∧o.length=max a.length b.length + 1)∧Ext H H') R:=by
 refine a0l U0K hf (h:=?_)
 intro ρ h0
 simp only [H0A]
 refine h0Y (l0D ?_)
 simp [-r0c,y0p,h0]
 refine h0Y (Q0d (fun t G=>G=H∧t.length=55∧∃ v w a' b',get t 0=v∧get t 1=w∧Lim H v a'∧Lim H w b'∧b'.length≤a'.length∧a'.length=max a.length b.length∧a0D a' + a0D b' = a0D a + a0D b) ?_ ?_)
 ·simp [y0q,y0r,h0,ha.slen,hb.slen]
  exact ⟨fun h=>⟨b,hb,a,ha,by omega,by omega,by omega⟩,fun h=>⟨a,ha,b,hb,by omega,by omega,by omega⟩⟩
 clear h0 ρ
 rintro t G ⟨rfl,ht,v,w,a',b',g0,g1,ha',hb',hle,hlen,hsum⟩
 obtain ⟨ρ,rfl⟩:=toT ht
 simp only [b0Z,Nat.reduceLT] at g0 g1
 have hna':a'.length < 1073741824:=by omega
 rw [← hlen,← hsum]
 clear ha hb hna hnb hlen hsum a b
 have w1:IntKind.i64.wrap ((a'.length:Int) + 1)=(a'.length:Int) + 1:=a0L (by omega) (by omega)
 have hm:=S0M (bytes:=4) (k:=.i64) (k':=.i64) (l:=0) (c:=(a'.length:Int) + 1) (by omega) (by omega) (by omega) (by omega)
 simp [y0s,y0t,y0u,g0,g1,ha'.slen,w1,hm]
 refine b0Y (fun k t G'=>∃ i c out s,i + k=a'.length∧t.length=55∧get t 1=w∧get t 5=s∧get t 6=.int .u64 ((c:Nat):Int)∧get t 20=v∧get t 21=.int .i64 a'.length∧get t 22=.int .i64 ((i:Nat):Int) ∧
   Ext G G'∧Own G.size G' a0m 1 s i (d0b out)∧b0D out∧out.length=i∧c≤1∧a0D out + 4294967296 ^ i * c=a0D (a'.take i) + a0D (b'.take i))
  (fun t G'=>∃ c out s,t.length=55∧get t 5=s∧get t 6=.int .u64 ((c:Nat):Int) ∧
   Ext G G'∧Own G.size G' a0m 1 s a'.length (d0b out)∧b0D out∧out.length=a'.length∧c≤1∧a0D out + 4294967296 ^ a'.length * c=a0D a' + a0D b') a'.length ?_ ?_ ?_
 ·exact ⟨0,0,[],.slice (some ⟨G.size,0,none⟩) 0 (a'.length + 1),by omega,by simp,by simp [g1],by simp,by simp,by simp,by simp,by simp,by simp,
   Own.mk (by simp [d0b]) rfl (Nat.le_refl _),by intro x hx;simp at hx,rfl,by omega,by simp [a0D]⟩
 ·clear g0 g1 hm w1 ht ρ
  rintro k t G' ⟨i,c,out,s,hik,ht,g1,g5,g6,g20,g21,g22,hx,ho,hok,hol,hc,hs⟩
  obtain ⟨ρ,rfl⟩:=toT ht
  simp only [b0Z,Nat.reduceLT] at g1 g5 g6 g20 g21 g22
  by_cases hi:i < a'.length
  ·have hla:=ha'.load hi hx
   have hA2:=b0h hi
   have hA3:a'.getD i 0 < 4294967296:=ha'.2 _ (by rw [List.getD_eq_getElem?_getD,List.getElem?_eq_getElem hi];exact List.getElem_mem hi)
   generalize a'.getD i 0=A at hla hA2 hA3
   have e1:IntKind.u64.wrap ((c:Int) + IntKind.u64.wrap (A:Int))=((c + A:Nat):Int):=by rw [a0J,a0J];omega
   have e9:IntKind.i64.wrap ((i:Int) + 1)=((i + 1:Nat):Int):=by rw [a0L (by omega) (by omega)];omega
   by_cases hib:i < b'.length
   ·have hlb:=hb'.load hib hx
    have hB2:=b0h hib
    have hB3:b'.getD i 0 < 4294967296:=hb'.2 _ (by rw [List.getD_eq_getElem?_getD,List.getElem?_eq_getElem hib];exact List.getElem_mem hib)
    generalize b'.getD i 0=B at hlb hB2 hB3
    have e2:IntKind.u64.wrap (((c + A:Nat):Int) + IntKind.u64.wrap (B:Int))=((c + A + B:Nat):Int):=by rw [a0J,a0J];omega
    simp [-Int.natCast_add,m0F,p0H,p0I,p0J,m0B,m0C,m0D,m0E,g1,g5,g6,g20,g21,g22,hi,ha'.ia hi,hla,hb'.slen,e1,hib,hb'.ia hib,hlb,e2]
    generalize hc2:c + A + B=c2
    refine (a0r hx.1).mono ?_
    rintro _ G2 ⟨rfl,hx2⟩
    obtain ⟨s',G3,h1,h2,h3,h4⟩:=f0O (e2:=a0m) (new:=[.int .u32 ((c2 % 4294967296:Nat):Int)]) (c:=1) (bytes:=4) (ho.mono hx2) rfl rfl (by omega) (by omega) (by omega) (by have:=hx.1;have:=hx2.1;omega)
    simp [-Int.natCast_emod,-Int.natCast_add,h1,g1,g5,g6,g20,g21,g22,e9]
    refine ⟨k - 1,by omega,i + 1,by omega,c2 / 4294967296,rfl,rfl,h4 _ (Nat.le_refl _) (hx.trans hx2),out ++ [c2 % 4294967296],by simpa [d0b] using h2,?_,by simp [hol],by omega,?_⟩
    ·intro x hx
     rcases List.mem_append.1 hx with hx | hx
     ·exact hok x hx
     ·simp at hx;omega
    ·rw [d0v,hol,hA2,hB2,Nat.pow_succ]
     have e3:4294967296 ^ i * 4294967296 * (c2 / 4294967296)=4294967296 ^ i * (4294967296 * (c2 / 4294967296)):=Nat.mul_assoc ..
     have e4:4294967296 ^ i * (c2 % 4294967296) + 4294967296 ^ i * (4294967296 * (c2 / 4294967296))=4294967296 ^ i * c2:=by rw [← Nat.mul_add,Nat.mod_add_div]
     have e5:4294967296 ^ i * c2=4294967296 ^ i * c + 4294967296 ^ i * A + 4294967296 ^ i * B:=by rw [← hc2,Nat.mul_add,Nat.mul_add]
     omega
   ·have hB2:a0D (b'.take (i + 1))=a0D (b'.take i) + 4294967296 ^ i * 0:=by rw [List.take_of_length_le (by omega),List.take_of_length_le (by omega)];simp
    have hB3:(0:Nat) < 4294967296:=by omega
    have e2:c + A=c + A + 0:=rfl
    rw [e2] at e1
    generalize (0:Nat)=B at hB2 hB3 e1
    simp [-Int.natCast_add,m0F,p0H,p0I,p0J,m0B,m0C,m0D,m0E,g1,g5,g6,g20,g21,g22,hi,ha'.ia hi,hla,hb'.slen,e1,hib]
    generalize hc2:c + A + B=c2
    refine (a0r hx.1).mono ?_
    rintro _ G2 ⟨rfl,hx2⟩
    obtain ⟨s',G3,h1,h2,h3,h4⟩:=f0O (e2:=a0m) (new:=[.int .u32 ((c2 % 4294967296:Nat):Int)]) (c:=1) (bytes:=4) (ho.mono hx2) rfl rfl (by omega) (by omega) (by omega) (by have:=hx.1;have:=hx2.1;omega)
    simp [-Int.natCast_emod,-Int.natCast_add,h1,g1,g5,g6,g20,g21,g22,e9]
    refine ⟨k - 1,by omega,i + 1,by omega,c2 / 4294967296,rfl,rfl,h4 _ (Nat.le_refl _) (hx.trans hx2),out ++ [c2 % 4294967296],by simpa [d0b] using h2,?_,by simp [hol],by omega,?_⟩
    ·intro x hx
     rcases List.mem_append.1 hx with hx | hx
     ·exact hok x hx
     ·simp at hx;omega
    ·rw [d0v,hol,hA2,hB2,Nat.pow_succ]
     have e3:4294967296 ^ i * 4294967296 * (c2 / 4294967296)=4294967296 ^ i * (4294967296 * (c2 / 4294967296)):=Nat.mul_assoc ..
     have e4:4294967296 ^ i * (c2 % 4294967296) + 4294967296 ^ i * (4294967296 * (c2 / 4294967296))=4294967296 ^ i * c2:=by rw [← Nat.mul_add,Nat.mod_add_div]
     have e5:4294967296 ^ i * c2=4294967296 ^ i * c + 4294967296 ^ i * A + 4294967296 ^ i * B:=by rw [← hc2,Nat.mul_add,Nat.mul_add]
     omega
  ·simp [m0F,g1,g5,g6,g20,g21,g22,hi]
   have:i=a'.length:=by omega
   subst this
   refine ⟨c,rfl,hx,out,ho,hok,hol,hc,?_⟩
   rw [hs,List.take_of_length_le (Nat.le_refl _),List.take_of_length_le hle]
 ·clear g0 g1 hm w1 ht ρ
  rintro t G' ⟨c,out,s,ht,g5,g6,hx,ho,hok,hol,hc,hs⟩
  obtain ⟨ρ,rfl⟩:=toT ht
  simp only [b0Z,Nat.reduceLT] at g5 g6
  simp [r0P,g5,g6]
  refine (a0r hx.1).mono ?_
  rintro _ G2 ⟨rfl,hx2⟩
  obtain ⟨s',G3,h1,h2,h3,h4⟩:=f0O (e2:=a0m) (new:=[.int .u32 ((c % 4294967296:Nat):Int)]) (c:=1) (bytes:=4) (ho.mono hx2) rfl rfl (by omega) (by omega) (by omega) (by have:=hx.1;have:=hx2.1;omega)
  simp [-Int.natCast_emod,-Int.natCast_add,h1]
  refine fun _=>⟨out ++ [c % 4294967296],⟨by simpa [hol,d0b] using h2.sl,?_⟩,?_,by simp [hol]⟩
  ·intro x hx
   rcases List.mem_append.1 hx with hx | hx
   ·exact hok x hx
   ·simp at hx;omega
  ·rw [d0v,hol,Nat.mod_eq_of_lt (by omega)];exact hs
end
/- num.minus. -/
section
open Go
set_option maxHeartbeats 4000000
variable {fl:Nat} {H:a0f} {R:a0A} {v w:Value} {a b:List Nat}
theorem g0G (ha:Lim H v a) (hb:Lim H w b) (hf:fl≤H.size) (hna:a.length < 1073741824) (hle:b.length≤a.length) (hnat:a0D b≤a0D a) :
  a0P env fl u0h [v,w] H (fun r H'=>(∃ o,Lim H' r o∧a0D o=a0D a - a0D b∧o.length=a.length)∧Ext H H') R:=by
 refine a0l U0M hf (h:=?_)
 intro ρ h0
 simp only [H0C]
 have hm:=S0M (bytes:=4) (k:=.i64) (k':=.i64) (l:=0) (c:=(a.length:Int)) (by omega) (by omega) (by omega) (by omega)
 simp [y0D,y0E,y0F,y0G,h0,ha.slen,hm]
 refine b0Y (fun k t G'=>∃ i c out s,i + k=a.length∧t.length=46∧get t 1=w∧get t 5=s∧get t 6=.int .u64 ((c:Nat):Int)∧get t 14=v∧get t 15=.int .i64 a.length∧get t 16=.int .i64 ((i:Nat):Int) ∧
   Ext H G'∧Own H.size G' a0m 1 s i (d0b out)∧b0D out∧out.length=i∧c≤1∧a0D out + a0D (b.take i)=a0D (a.take i) + 4294967296 ^ i * c)
  (fun t G'=>∃ c out s,t.length=46∧get t 5=s ∧
   Ext H G'∧Own H.size G' a0m 1 s a.length (d0b out)∧b0D out∧out.length=a.length∧c≤1∧a0D out + a0D b=a0D a + 4294967296 ^ a.length * c) a.length ?_ ?_ ?_
 ·exact ⟨0,0,[],.slice (some ⟨H.size,0,none⟩) 0 a.length,by omega,by simp,by simp [h0],by simp,by simp,by simp [h0],by simp,by simp,by simp,
   Own.mk (by simp [d0b]) rfl (Nat.le_refl _),by intro x hx;simp at hx,rfl,by omega,by simp [a0D]⟩
 ·clear hm h0 ρ
  rintro k t G' ⟨i,c,out,s,hik,ht,g1,g5,g6,g14,g15,g16,hx,ho,hok,hol,hc,hs⟩
  obtain ⟨ρ,rfl⟩:=toT ht
  simp only [b0Z,Nat.reduceLT] at g1 g5 g6 g14 g15 g16
  by_cases hi:i < a.length
  ·have hla:=ha.load hi hx
   have hA2:=b0h hi
   have hA3:a.getD i 0 < 4294967296:=ha.2 _ (by rw [List.getD_eq_getElem?_getD,List.getElem?_eq_getElem hi];exact List.getElem_mem hi)
   generalize a.getD i 0=A at hla hA2 hA3
   have e9:IntKind.i64.wrap ((i:Int) + 1)=((i + 1:Nat):Int):=by rw [a0L (by omega) (by omega)];omega
   by_cases hib:i < b.length
   ·have hlb:=hb.load hib hx
    have hB2:=b0h hib
    have hB3:b.getD i 0 < 4294967296:=hb.2 _ (by rw [List.getD_eq_getElem?_getD,List.getElem?_eq_getElem hib];exact List.getElem_mem hib)
    generalize b.getD i 0=B at hlb hB2 hB3
    have e2:IntKind.u64.wrap ((c:Int) + IntKind.u64.wrap (B:Int))=((c + B:Nat):Int):=by rw [a0J,a0J];omega
    have e3:IntKind.u64.wrap (IntKind.u64.wrap (A:Int) - ((c + B:Nat):Int))=(((A + 18446744073709551616 - (c + B)) % 18446744073709551616:Nat):Int):=by rw [a0J,a0J];omega
    simp [-Int.natCast_add,-Int.natCast_emod,m0J,p0L,p0M,p0N,p0O,p0P,m0G,m0H,m0I,g1,g5,g6,g14,g15,g16,hi,ha.ia hi,hla,hb.slen,hib,hb.ia hib,hlb,e2,e3]
    generalize hD:(A + 18446744073709551616 - (c + B)) % 18446744073709551616=D
    refine (a0r hx.1).mono ?_
    rintro _ G2 ⟨rfl,hx2⟩
    obtain ⟨s',G3,h1,h2,h3,h4⟩:=f0O (e2:=a0m) (new:=[.int .u32 ((D % 4294967296:Nat):Int)]) (c:=1) (bytes:=4) (ho.mono hx2) rfl rfl (by omega) (by omega) (by omega) (by have:=hx.1;have:=hx2.1;omega)
    simp [-Int.natCast_emod,-Int.natCast_add,h1,g1,g5,g6,g14,g15,g16,e9]
    refine ⟨k - 1,by omega,i + 1,by omega,D / 9223372036854775808,rfl,rfl,h4 _ (Nat.le_refl _) (hx.trans hx2),out ++ [D % 4294967296],by simpa [d0b] using h2,?_,by simp [hol],by omega,?_⟩
    ·intro x hx
     rcases List.mem_append.1 hx with hx | hx
     ·exact hok x hx
     ·simp at hx;omega
    ·rw [d0v,hol,hA2,hB2,Nat.pow_succ]
     have e3:4294967296 ^ i * 4294967296 * (D / 9223372036854775808)=4294967296 ^ i * (4294967296 * (D / 9223372036854775808)):=Nat.mul_assoc ..
     have e4:D % 4294967296 + c + B=A + 4294967296 * (D / 9223372036854775808):=by omega
     have e5:4294967296 ^ i * (D % 4294967296) + 4294967296 ^ i * c + 4294967296 ^ i * B=4294967296 ^ i * A + 4294967296 ^ i * (4294967296 * (D / 9223372036854775808)):=by
      rw [← Nat.mul_add,← Nat.mul_add,← Nat.mul_add,e4]
     omega
   ·have hB2:a0D (b.take (i + 1))=a0D (b.take i) + 4294967296 ^ i * 0:=by rw [List.take_of_length_le (by omega),List.take_of_length_le (by omega)];simp
    have hB3:(0:Nat) < 4294967296:=by omega
    have e3:IntKind.u64.wrap (IntKind.u64.wrap (A:Int) - (c:Int))=(((A + 18446744073709551616 - (c + 0)) % 18446744073709551616:Nat):Int):=by rw [a0J,a0J];omega
    generalize hB:(0:Nat)=B at hB2 hB3 e3
    simp [-Int.natCast_add,-Int.natCast_emod,m0J,p0L,p0M,p0N,p0O,p0P,m0G,m0H,m0I,g1,g5,g6,g14,g15,g16,hi,ha.ia hi,hla,hb.slen,hib,e3]
    generalize hD:(A + 18446744073709551616 - (c + B)) % 18446744073709551616=D
    refine (a0r hx.1).mono ?_
    rintro _ G2 ⟨rfl,hx2⟩
    obtain ⟨s',G3,h1,h2,h3,h4⟩:=f0O (e2:=a0m) (new:=[.int .u32 ((D % 4294967296:Nat):Int)]) (c:=1) (bytes:=4) (ho.mono hx2) rfl rfl (by omega) (by omega) (by omega) (by have:=hx.1;have:=hx2.1;omega)
    simp [-Int.natCast_emod,-Int.natCast_add,h1,g1,g5,g6,g14,g15,g16,e9]
    refine ⟨k - 1,by omega,i + 1,by omega,D / 9223372036854775808,rfl,rfl,h4 _ (Nat.le_refl _) (hx.trans hx2),out ++ [D % 4294967296],by simpa [d0b] using h2,?_,by simp [hol],by omega,?_⟩
    ·intro x hx
     rcases List.mem_append.1 hx with hx | hx
     ·exact hok x hx
     ·simp at hx;omega
    ·rw [d0v,hol,hA2,hB2,Nat.pow_succ]
     have e3:4294967296 ^ i * 4294967296 * (D / 9223372036854775808)=4294967296 ^ i * (4294967296 * (D / 9223372036854775808)):=Nat.mul_assoc ..
     have e4:D % 4294967296 + c + B=A + 4294967296 * (D / 9223372036854775808):=by omega
     have e5:4294967296 ^ i * (D % 4294967296) + 4294967296 ^ i * c + 4294967296 ^ i * B=4294967296 ^ i * A + 4294967296 ^ i * (4294967296 * (D / 9223372036854775808)):=by
      rw [← Nat.mul_add,← Nat.mul_add,← Nat.mul_add,e4]
     omega
  ·simp [m0J,g1,g5,g6,g14,g15,g16,hi]
   have:i=a.length:=by omega
   subst this
   refine ⟨hx,c,out,ho,hok,hol,hc,?_⟩
   rw [List.take_of_length_le (Nat.le_refl _),List.take_of_length_le hle] at hs
   exact hs
 ·clear hm h0 ρ
  rintro t G' ⟨c,out,s,ht,g5,hx,ho,hok,hol,hc,hs⟩
  obtain ⟨ρ,rfl⟩:=toT ht
  simp only [b0Z,Nat.reduceLT] at g5
  simp [r0Q,g5]
  refine fun _=>⟨out,⟨by simpa [hol] using ho.sl,hok⟩,?_,hol⟩
  have h2:=f0X out hok
  rw [hol] at h2
  have:c=0:=by
   refine Decidable.byContradiction fun hc0=>?_
   have:c=1:=by omega
   subst this
   omega
  subst this
  omega
end
/- num.cmp. -/
section
open Go
set_option maxHeartbeats 4000000
variable {fl:Nat} {H:a0f} {R:a0A} {v w:Value} {a b:List Nat}
def N0d (a b:List Nat):Int:=if a.length ≠ b.length then b0T a.length b.length else b0T (a0D a) (a0D b)
theorem d0Y {x y:Nat}:b0T (x:Int) (y:Int)=if x < y then -1 else if y < x then 1 else 0:=by
 unfold b0T;(repeat' split) <;> omega
theorem w0G {i:Nat} (hab:a.length=b.length) (ha:b0D a) (hb:b0D b) (hi:i < a.length) (he:a.drop (i + 1)=b.drop (i + 1)) (hne:a.getD i 0 ≠ b.getD i 0) :
  b0T (a0D a:Int) (a0D b:Int)=b0T (a.getD i 0:Int) (b.getD i 0:Int):=by
 have h1:a0D a=a0D (a.take i) + 4294967296 ^ i * a.getD i 0 + 4294967296 ^ (i + 1) * a0D (a.drop (i + 1)):=by
  have:=f0q (a.take (i + 1)) (a.drop (i + 1))
  rw [List.take_append_drop,List.length_take,Nat.min_eq_left (by omega)] at this
  rw [this,b0h hi]
 have h2:a0D b=a0D (b.take i) + 4294967296 ^ i * b.getD i 0 + 4294967296 ^ (i + 1) * a0D (b.drop (i + 1)):=by
  have:=f0q (b.take (i + 1)) (b.drop (i + 1))
  rw [List.take_append_drop,List.length_take,Nat.min_eq_left (by omega)] at this
  rw [this,b0h (by omega)]
 have h3:=f0X (a.take i) (fun x hx=>ha x (List.mem_of_mem_take hx))
 have h4:=f0X (b.take i) (fun x hx=>hb x (List.mem_of_mem_take hx))
 rw [List.length_take,Nat.min_eq_left (by omega)] at h3 h4
 rw [he] at h1
 generalize 4294967296 ^ (i + 1) * a0D (b.drop (i + 1))=Z at h1 h2
 generalize a.getD i 0=x at *
 generalize b.getD i 0=y at *
 generalize 4294967296 ^ i=P at *
 rw [d0Y,d0Y]
 by_cases hxy:x < y
 ·have:P * (x + 1)≤P * y:=Nat.mul_le_mul_left P hxy
  rw [Nat.mul_add] at this
  rw [if_pos (by omega),if_pos hxy]
 ·have:P * (y + 1)≤P * x:=Nat.mul_le_mul_left P (by omega)
  rw [Nat.mul_add] at this
  rw [if_neg (by omega),if_pos (by omega),if_neg hxy,if_pos (by omega)]
theorem e0K (ha:Lim H v a) (hb:Lim H w b) (hf:fl≤H.size) (hna:a.length < 4611686018427387904) :
  a0P env fl n0I [v,w] H (fun r H'=>r=.int .i64 (N0d a b)∧Ext H H') R:=by
 refine a0l U0L hf (h:=?_)
 intro ρ h0
 simp only [H0B]
 have w1:IntKind.i64.wrap ((a.length:Int) - 1)=(a.length:Int) - 1:=a0L (by omega) (by omega)
 simp [y0v,y0w,y0x,y0y,h0,ha.slen,hb.slen,w1]
 refine ⟨fun h=>?_,fun hab=>?_⟩
 ·refine (h0w (Nat.le_refl _)).mono ?_
  rintro _ G ⟨rfl,hx⟩
  simp [N0d,h]
 have hcl:N0d a b=b0T (a0D a) (a0D b):=by simp [N0d,hab]
 rw [hcl]
 refine b0Y (fun k t G'=>t.length=41∧get t 0=v∧get t 1=w∧get t 5=.int .i64 ((k:Int) - 1)∧G' = H∧k≤a.length∧a.drop k=b.drop k)
  (fun t G'=>t.length=41∧G' = H∧a=b) a.length (by simp [h0,hab]) ?_ ?_
 ·clear h0 ρ
  rintro k t G' ⟨ht,g0,g1,g5,rfl,hk,hd⟩
  obtain ⟨ρ,rfl⟩:=toT ht
  simp only [b0Z,Nat.reduceLT] at g0 g1 g5
  by_cases hk0:k=0
  ·subst hk0
   simp [p0K,g0,g1,g5]
   simpa using hd
  ·have e0:(k:Int) - 1=((k - 1:Nat):Int):=by omega
   have hka:k - 1 < a.length:=by omega
   have hkb:k - 1 < b.length:=by omega
   have hla:=ha.load hka (Ext.refl _)
   have hlb:=hb.load hkb (Ext.refl _)
   have w2:IntKind.i64.wrap (((k - 1:Nat):Int) - 1)=((k - 1:Nat):Int) - 1:=a0L (by omega) (by omega)
   rw [e0] at g5
   have hla':=ha.ia (k:=.i64) hka
   have hlb':=hb.ia (k:=.i64) hkb
   have hh:=w0G hab ha.ok hb.ok hka (by rw [show k - 1 + 1=k by omega];exact hd)
   generalize hA:a.getD (k - 1) 0=A at hla hh
   generalize hB:b.getD (k - 1) 0=B at hlb hh
   simp [p0K,g0,g1,g5]
   refine a0v ?_
   simp [y0z,g0,g1,g5,hla,hla',hlb,hlb']
   refine ⟨fun hne=>?_,fun heq=>?_⟩
   ·refine a0v ?_
    simp [y0A,g0,g1,g5,hla,hla',hlb,hlb']
    refine (f0Y (Nat.le_refl _)).mono ?_
    rintro _ G ⟨rfl,hx⟩
    simp [hh hne]
   ·simp [y0B,g0,g1,g5,w2]
    refine ⟨k - 1,by omega,rfl,by omega,?_⟩
    rw [List.drop_eq_getElem_cons hka,List.drop_eq_getElem_cons hkb,show k - 1 + 1=k by omega,hd]
    congr 1
    rw [List.getD_eq_getElem?_getD,List.getElem?_eq_getElem hka] at hA
    rw [List.getD_eq_getElem?_getD,List.getElem?_eq_getElem hkb] at hB
    simp at hA hB;omega
 ·clear h0 ρ
  rintro t G' ⟨ht,rfl,rfl⟩
  obtain ⟨ρ,rfl⟩:=toT ht
  simp [y0C,b0T]
end
/- Numbers as they lie and what they say. -/
section
open Go
variable {fl:Nat} {H:a0f} {R:a0A} {v:Value} {i:Bool × List Nat} {a b:List Nat}
theorem b0q.ok (h:b0q H v i):b0D i.2:=by obtain ⟨s,_,hs⟩:=h;exact hs.ok
theorem F0u {l:List Nat} (h:l.length=0 ∨ l.getD (l.length - 1) 0 ≠ 0):d0k l=l:=by
 rcases List.eq_nil_or_concat l with rfl | ⟨l',x,rfl⟩
 ·rfl
 ·have:x ≠ 0:=by
   rcases h with h | h
   ·simp at h
   ·simpa [List.getD_eq_getElem?_getD] using h
  rw [List.concat_eq_append];exact i0y this
theorem j0Q (i:Bool × List Nat):d0k (f0a i)=f0a i:=by
 unfold f0a
 by_cases h:j0T i=true
 ·rw [if_pos h]
  refine F0u ?_
  unfold j0T at h
  by_cases h0:i.2.length=0
  ·exact .inl h0
  ·rw [if_neg h0] at h;exact .inr (by simpa using h)
 ·rw [if_neg h];rfl
theorem w0A (h:b0D i.2):b0D (f0a i):=by
 unfold f0a;split
 ·exact h
 ·intro x hx;simp at hx
theorem I0U (i:Bool × List Nat):(a0O i).natAbs=a0D (f0a i):=by
 unfold a0O f0a
 by_cases h:j0T i=true
 ·rw [if_pos h,if_pos h];split <;> omega
 ·rw [if_neg h,if_neg h];rfl
theorem o0b (h:b0D i.2):f0a i=a0I (a0O i).natAbs:=by
 rw [I0U,← e0Q _ (w0A h),j0Q]
theorem N0y (i:Bool × List Nat):S0N i=decide (a0O i < 0):=by
 unfold S0N a0O
 by_cases h:j0T i=true
 ·rw [if_pos h,h,Bool.true_and]
  by_cases hn:i.1=true
  ·have h0:a0D i.2 ≠ 0:=by
    intro h0
    have h1:=(h0u i.2).1 h0
    have h2:=j0Q i
    unfold f0a at h2
    rw [if_pos h,h1] at h2
    unfold j0T at h
    rw [← h2] at h
    simp [hn] at h
   rw [if_pos hn,hn];simp;omega
  ·rw [if_neg hn];simp [hn]
 ·rw [if_neg h];simp [h]
theorem u0D (i:Bool × List Nat):(f0a i).length≤i.2.length:=by unfold f0a;split <;> simp
theorem a0T (h:b0D i.2):(a0I (a0O i).natAbs).length≤i.2.length:=by rw [← o0b h];exact u0D i
theorem b0n {m n:Nat} (h:m≤n):(a0I m).length≤(a0I n).length:=g0o (Nat.lt_of_le_of_lt h (j0S n))
theorem f0j (m n:Nat):N0d (a0I m) (a0I n)=b0T m n:=by
 unfold N0d
 rw [a0H,a0H]
 split
 ·rename_i h
  rw [d0Y,d0Y]
  by_cases hmn:m < n
  ·have:=b0n (Nat.le_of_lt hmn)
   rw [if_pos hmn,if_pos (by omega)]
  ·have:=b0n (show n≤m by omega)
   have hne:m ≠ n:=fun h2=>h (by rw [h2])
   rw [if_neg hmn,if_pos (by omega:n < m),if_neg (by omega),if_pos (by omega)]
 ·rfl
theorem b0M (h:b0q H v i) (hf:fl≤H.size) (hn:i.2.length < 4611686018427387904) :
  a0P env fl f0k [v] H (fun r H'=>Lim H' r (a0I (a0O i).natAbs)∧Ext H H') R:=by
 rw [← o0b h.ok];exact k0P h hf hn
theorem b0u (h:b0q H v i) (hf:fl≤H.size) (hn:i.2.length < 4611686018427387904) :
  a0P env fl d0M [v] H (fun r H'=>r=.bool (decide (a0O i < 0))∧Ext H H') R:=by
 rw [← N0y];exact o0l h hf hn
theorem c0c {l:List Nat} {b:Bool} (z:Int) (h:Lim H v l) (hf:fl≤H.size) (hn:l.length≤1073741824) (hz:(if b then -(a0D l:Int) else a0D l)=z) :
  a0P env fl f0F [.bool b,v] H (fun r H'=>b0q H' r (a0n z)∧Ext H H') R:=by
 rw [← hz,← J0n h.ok];exact m0m h hf hn
theorem b0q.setT (h:b0q H v i) {p:Nat} {ro:Bool} {e':TypeId} {cs':List Value} {r:Blk} (hb:H.blk p=.row ro e' cs') (hne:e' ≠ a0m):b0q (H.setIfInBounds p r) v i:=by
 obtain ⟨s,h1,h2⟩:=h;exact ⟨s,h1,h2.setT hb hne⟩
end
/- num.Neg, Sub, Add, Cmp. -/
section
open Go
set_option maxHeartbeats 4000000
variable {fl:Nat} {H:a0f} {R:a0A} {v w:Value} {i j:Bool × List Nat}
theorem e0J (h:b0q H v i) (hf:fl≤H.size) (hn:i.2.length≤1073741824) :
  a0P env fl n0L [v] H (fun r H'=>b0q H' r (a0n (-a0O i))∧Ext H H') R:=by
 have hh:=h
 obtain ⟨s,rfl,hs⟩:=h
 refine a0l V0d hf (h:=?_)
 intro ρ h0
 simp [H0T,A0v,h0]
 generalize hG:Array.push (Array.push H _) _=G
 have hx:Ext H G:=by rw [← hG];simp
 have b0:a0f.blk G H.size=.row false a0c [.bool i.1,s]:=by rw [← hG];simp
 have b1:a0f.blk G (H.size + 1)=.row false a0c [.bool false,.slice none 0 0]:=by rw [← hG];simp
 have hz:H.size + 1 < G.size:=a0k b1
 refine a0v ?_
 simp [A0w,h0,b0,b1]
 refine (b0u (hh.mono hx) (by omega) (by omega)).mono ?_
 rintro _ G2 ⟨rfl,hx2⟩
 replace b0:=hx2.blk b0
 replace b1:=hx2.blk b1
 replace hx:=hx.trans hx2
 simp [h0,b0,b1]
 refine (b0M (hh.mono hx) hx.1 (by omega)).mono ?_
 rintro l G3 ⟨hl,hx3⟩
 replace b1:=hx3.blk b1
 replace hx:=hx.trans hx3
 try simp [h0]
 have:=a0T hh.ok
 refine (c0c (-a0O i) hl hx.1 (by omega) (by rw [a0H];simp;split <;> omega)).mono ?_
 rintro _ G4 ⟨⟨s',rfl,hs'⟩,hx4⟩
 replace b1:=hx4.blk b1
 have hz:=a0k b1
 simp [b1,hs'.cells,hs'.plain,hz]
 exact fun _=>⟨s',rfl,hs'.setT b1 (by decide)⟩
theorem e0G (h:b0q H v i) (k:b0q H w j) (hf:fl≤H.size) (hn:i.2.length < 536870912) (hm:j.2.length < 536870912) :
  a0P env fl F0E [v,w] H (fun r H'=>b0q H' r (a0n (a0O i + a0O j))∧Ext H H') R:=by
 have hh:=h
 have kk:=k
 obtain ⟨s,rfl,hs⟩:=h
 obtain ⟨u,rfl,hu⟩:=k
 refine a0l X0e hf (h:=?_)
 intro ρ h0
 simp [T0t,L0L,h0]
 generalize hG:Array.push (Array.push (Array.push H _) _) _=G
 have hx:Ext H G:=by rw [← hG];exact (Ext.refl H).push.push.push
 have b0:a0f.blk G H.size=.row false a0c [.bool i.1,s]:=by rw [← hG];simp
 have b1:a0f.blk G (H.size + 1)=.row false a0c [.bool j.1,u]:=by rw [← hG];simp
 have b2:a0f.blk G (H.size + 2)=.row false a0c [.bool false,.slice none 0 0]:=by rw [← hG];simp
 have hz:H.size + 1 < G.size:=a0k b1
 clear hG
 refine a0v ?_
 simp [L0M,h0,b0,b1]
 refine (b0M (hh.mono hx) (by omega) (by omega)).mono ?_
 rintro x G2 ⟨hl,hx2⟩
 replace b0:=hx2.blk b0
 replace b1:=hx2.blk b1
 replace b2:=hx2.blk b2
 replace hx:=hx.trans hx2
 try simp [h0,b0,b1]
 refine (b0M (kk.mono hx) hx.1 (by omega)).mono ?_
 rintro y G3 ⟨hl2,hx3⟩
 replace b0:=hx3.blk b0
 replace b1:=hx3.blk b1
 replace b2:=hx3.blk b2
 replace hx:=hx.trans hx3
 replace hl:=hl.mono hx3
 try simp [h0]
 refine a0v ?_
 simp [L0N,h0,b0,b1]
 refine (b0u (hh.mono hx) (by have:=hx.1;omega) (by omega)).mono ?_
 rintro _ G2 ⟨rfl,hx2⟩
 replace b0:=hx2.blk b0
 replace b1:=hx2.blk b1
 replace b2:=hx2.blk b2
 replace hx:=hx.trans hx2
 replace hl:=hl.mono hx2
 replace hl2:=hl2.mono hx2
 try simp [h0,b0,b1]
 refine (b0u (kk.mono hx) hx.1 (by omega)).mono ?_
 rintro _ G2 ⟨rfl,hx2⟩
 replace b0:=hx2.blk b0
 replace b1:=hx2.blk b1
 replace b2:=hx2.blk b2
 replace hx:=hx.trans hx2
 replace hl:=hl.mono hx2
 replace hl2:=hl2.mono hx2
 clear hs hu hz hx2
 have l1:=a0T hh.ok
 have l2:=a0T kk.ok
 simp [h0]
 refine ⟨fun hsame=>?_,fun hdiff=>?_⟩
 ·simp [L0O,h0,b0]
  refine (b0u (hh.mono hx) hx.1 (by omega)).mono ?_
  rintro _ G2 ⟨rfl,hx2⟩
  replace b0:=hx2.blk b0
  replace b1:=hx2.blk b1
  replace b2:=hx2.blk b2
  replace hx:=hx.trans hx2
  replace hl:=hl.mono hx2
  replace hl2:=hl2.mono hx2
  try simp [h0]
  refine (m0n hl hl2 hx.1 (by omega) (by omega)).mono ?_
  rintro r G2 ⟨⟨o,ho,hon,hol⟩,hx2⟩
  replace b0:=hx2.blk b0
  replace b1:=hx2.blk b1
  replace b2:=hx2.blk b2
  replace hx:=hx.trans hx2
  replace hl:=hl.mono hx2
  replace hl2:=hl2.mono hx2
  try simp [h0]
  rw [a0H,a0H] at hon
  refine (c0c (a0O i + a0O j) ho hx.1 (by omega) (by rw [hon];simp;split <;> omega)).mono ?_
  rintro _ G2 ⟨⟨s',rfl,hs'⟩,hx2⟩
  replace b0:=hx2.blk b0
  replace b1:=hx2.blk b1
  replace b2:=hx2.blk b2
  replace hx:=hx.trans hx2
  replace hl:=hl.mono hx2
  replace hl2:=hl2.mono hx2
  have hz:=a0k b2
  simp [b2,hs'.cells,hs'.plain,hz]
  exact fun _=>⟨s',rfl,hs'.setT b2 (by decide)⟩
 ·simp [L0P,h0]
  refine (e0K hl hl2 hx.1 (by omega)).mono ?_
  rintro _ G2 ⟨rfl,hx2⟩
  replace b0:=hx2.blk b0
  replace b1:=hx2.blk b1
  replace b2:=hx2.blk b2
  replace hx:=hx.trans hx2
  replace hl:=hl.mono hx2
  replace hl2:=hl2.mono hx2
  rw [f0j,d0Y]
  try simp [h0]
  refine ⟨fun hge=>?_,fun hlt=>?_⟩
  ·have hab:(a0O j).natAbs≤(a0O i).natAbs:=by
    (repeat' split at hge) <;> omega
   simp [L0Q,h0,b0]
   refine (b0u (hh.mono hx) hx.1 (by omega)).mono ?_
   rintro _ G2 ⟨rfl,hx2⟩
   replace b0:=hx2.blk b0
   replace b1:=hx2.blk b1
   replace b2:=hx2.blk b2
   replace hx:=hx.trans hx2
   replace hl:=hl.mono hx2
   replace hl2:=hl2.mono hx2
   try simp [h0]
   refine (g0G hl hl2 hx.1 (by omega) (b0n hab) (by rw [a0H,a0H];exact hab)).mono ?_
   rintro r G2 ⟨⟨o,ho,hon,hol⟩,hx2⟩
   replace b0:=hx2.blk b0
   replace b1:=hx2.blk b1
   replace b2:=hx2.blk b2
   replace hx:=hx.trans hx2
   replace hl:=hl.mono hx2
   replace hl2:=hl2.mono hx2
   try simp [h0]
   rw [a0H,a0H] at hon
   refine (c0c (a0O i + a0O j) ho hx.1 (by omega) (by rw [hon];simp;split <;> omega)).mono ?_
   rintro _ G2 ⟨⟨s',rfl,hs'⟩,hx2⟩
   replace b0:=hx2.blk b0
   replace b1:=hx2.blk b1
   replace b2:=hx2.blk b2
   replace hx:=hx.trans hx2
   replace hl:=hl.mono hx2
   replace hl2:=hl2.mono hx2
   have hz:=a0k b2
   simp [b2,hs'.cells,hs'.plain,hz]
   exact fun _=>⟨s',rfl,hs'.setT b2 (by decide)⟩
  ·have hab:(a0O i).natAbs≤(a0O j).natAbs:=by
    (repeat' split at hlt) <;> omega
   simp [L0R,h0,b1]
   refine (b0u (kk.mono hx) hx.1 (by omega)).mono ?_
   rintro _ G2 ⟨rfl,hx2⟩
   replace b0:=hx2.blk b0
   replace b1:=hx2.blk b1
   replace b2:=hx2.blk b2
   replace hx:=hx.trans hx2
   replace hl:=hl.mono hx2
   replace hl2:=hl2.mono hx2
   try simp [h0]
   refine (g0G hl2 hl hx.1 (by omega) (b0n hab) (by rw [a0H,a0H];exact hab)).mono ?_
   rintro r G2 ⟨⟨o,ho,hon,hol⟩,hx2⟩
   replace b0:=hx2.blk b0
   replace b1:=hx2.blk b1
   replace b2:=hx2.blk b2
   replace hx:=hx.trans hx2
   replace hl:=hl.mono hx2
   replace hl2:=hl2.mono hx2
   try simp [h0]
   rw [a0H,a0H] at hon
   refine (c0c (a0O i + a0O j) ho hx.1 (by omega) (by rw [hon];simp;split <;> omega)).mono ?_
   rintro _ G2 ⟨⟨s',rfl,hs'⟩,hx2⟩
   replace b0:=hx2.blk b0
   replace b1:=hx2.blk b1
   replace b2:=hx2.blk b2
   replace hx:=hx.trans hx2
   replace hl:=hl.mono hx2
   replace hl2:=hl2.mono hx2
   have hz:=a0k b2
   simp [b2,hs'.cells,hs'.plain,hz]
   exact fun _=>⟨s',rfl,hs'.setT b2 (by decide)⟩
end
/- num.Sub, num.Cmp. -/
section
open Go
set_option maxHeartbeats 4000000
variable {fl:Nat} {H:a0f} {R:a0A} {v w:Value} {i j:Bool × List Nat}
theorem w0y (z:Int):(a0n z).2.length=(a0I z.natAbs).length:=rfl
theorem o0k (h:b0q H v i) (k:b0q H w j) (hf:fl≤H.size) (hn:i.2.length < 536870912) (hm:j.2.length < 536870912) :
  a0P env fl w0n [v,w] H (fun r H'=>b0q H' r (a0n (a0O i - a0O j))∧Ext H H') R:=by
 have hh:=h
 have kk:=k
 obtain ⟨s,rfl,hs⟩:=h
 obtain ⟨u,rfl,hu⟩:=k
 refine a0l V0N hf (h:=?_)
 intro ρ h0
 simp [I0D,D0J,h0]
 generalize hG:Array.push (Array.push (Array.push H _) _) _=G
 have hx:Ext H G:=by rw [← hG];exact (Ext.refl H).push.push.push
 have b0:a0f.blk G H.size=.row false a0c [.bool i.1,s]:=by rw [← hG];simp
 have b1:a0f.blk G (H.size + 1)=.row false a0c [.bool j.1,u]:=by rw [← hG];simp
 have b2:a0f.blk G (H.size + 2)=.row false a0c [.bool false,.slice none 0 0]:=by rw [← hG];simp
 clear hG
 refine a0v ?_
 simp [D0K,h0,b0,b1]
 refine (e0J (kk.mono hx) (by have:=hx.1;omega) (by omega)).mono ?_
 rintro x G2 ⟨hl,hx2⟩
 replace b0:=hx2.blk b0
 replace b1:=hx2.blk b1
 replace b2:=hx2.blk b2
 replace hx:=hx.trans hx2
 try simp [h0]
 have hlen:(a0n (-a0O j)).2.length < 536870912:=by
  rw [w0y,Int.natAbs_neg];have:=a0T kk.ok;omega
 refine (e0G (hh.mono hx) hl hx.1 hn hlen).mono ?_
 rintro _ G2 ⟨⟨s',rfl,hs'⟩,hx2⟩
 replace b0:=hx2.blk b0
 replace b1:=hx2.blk b1
 replace b2:=hx2.blk b2
 replace hx:=hx.trans hx2
 have hz:=a0k b2
 simp [b2,hs'.cells,hs'.plain,hz]
 rw [a0i] at hs' ⊢
 exact fun _=>⟨s',by rw [Int.sub_eq_add_neg],by rw [Int.sub_eq_add_neg];exact hs'.setT b2 (by decide)⟩
theorem c0M (h:b0q H v i) (k:b0q H w j) (hf:fl≤H.size) (hn:i.2.length < 536870912) (hm:j.2.length < 536870912) :
  a0P env fl j0I [v,w] H (fun r H'=>r=.int .i64 (b0T (a0O i) (a0O j))∧Ext H H') R:=by
 have hh:=h
 have kk:=k
 obtain ⟨s,rfl,hs⟩:=h
 obtain ⟨u,rfl,hu⟩:=k
 refine a0l U0P hf (h:=?_)
 intro ρ h0
 simp [H0F,y0O,h0]
 generalize hG:Array.push (Array.push H _) _=G
 have hx:Ext H G:=by rw [← hG];exact (Ext.refl H).push.push
 have b0:a0f.blk G H.size=.row false a0c [.bool i.1,s]:=by rw [← hG];simp
 have b1:a0f.blk G (H.size + 1)=.row false a0c [.bool j.1,u]:=by rw [← hG];simp
 clear hG
 simp [y0P,h0,b0,b1]
 have l1:=a0T hh.ok
 have l2:=a0T kk.ok
 refine (b0u (hh.mono hx) hx.1 (by omega)).mono ?_
 rintro _ G2 ⟨rfl,hx2⟩
 replace b0:=hx2.blk b0
 replace b1:=hx2.blk b1
 replace hx:=hx.trans hx2
 by_cases hI:a0O i < 0
 ·simp [hI,b1]
  refine (b0u (kk.mono hx) hx.1 (by omega)).mono ?_
  rintro _ G2 ⟨rfl,hx2⟩
  replace b0:=hx2.blk b0
  replace b1:=hx2.blk b1
  replace hx:=hx.trans hx2
  by_cases hJ:a0O j < 0
  ·simp [hJ,p0Q,h0,b0,b1]
   refine (b0u (hh.mono hx) hx.1 (by omega)).mono ?_
   rintro _ G2 ⟨rfl,hx2⟩
   replace b0:=hx2.blk b0
   replace b1:=hx2.blk b1
   replace hx:=hx.trans hx2
   simp [hI,p0R,h0,b0,b1]
   refine (b0u (hh.mono hx) hx.1 (by omega)).mono ?_
   rintro _ G2 ⟨rfl,hx2⟩
   replace b0:=hx2.blk b0
   replace b1:=hx2.blk b1
   replace hx:=hx.trans hx2
   simp [hI,h0]
   refine a0v ?_
   simp [y0S,h0,b0,b1]
   refine (b0M (kk.mono hx) (by have:=hx.1;omega) (by omega)).mono ?_
   rintro x G2 ⟨hl,hx2⟩
   replace b0:=hx2.blk b0
   replace b1:=hx2.blk b1
   replace hx:=hx.trans hx2
   try simp [h0,b0]
   refine (b0M (hh.mono hx) hx.1 (by omega)).mono ?_
   rintro y G2 ⟨hl2,hx2⟩
   replace hl:=hl.mono hx2
   replace b0:=hx2.blk b0
   replace b1:=hx2.blk b1
   replace hx:=hx.trans hx2
   try simp [h0,b0]
   refine (e0K hl hl2 hx.1 (by omega)).mono ?_
   rintro _ G2 ⟨rfl,hx2⟩
   rw [f0j,d0Y]
   have:(if (a0O j).natAbs < (a0O i).natAbs then (-1:Int) else if (a0O i).natAbs < (a0O j).natAbs then 1 else 0)=b0T (a0O i) (a0O j):=by
    unfold b0T;(repeat' split) <;> omega
   simp [this]
  ·simp [hJ,y0Q,h0]
   have:b0T (a0O i) (a0O j) = -1:=by unfold b0T;rw [if_pos (by omega)]
   simp [this]
 ·simp [hI,p0Q,h0,b0,b1]
  refine (b0u (hh.mono hx) hx.1 (by omega)).mono ?_
  rintro _ G2 ⟨rfl,hx2⟩
  replace b0:=hx2.blk b0
  replace b1:=hx2.blk b1
  replace hx:=hx.trans hx2
  simp [hI,h0,b1]
  refine (b0u (kk.mono hx) hx.1 (by omega)).mono ?_
  rintro _ G2 ⟨rfl,hx2⟩
  replace b0:=hx2.blk b0
  replace b1:=hx2.blk b1
  replace hx:=hx.trans hx2
  by_cases hJ:a0O j < 0
  ·simp [hJ,y0R,h0]
   have:b0T (a0O i) (a0O j)=1:=by unfold b0T;rw [if_neg (by omega),if_pos (by omega)]
   simp [this]
  ·simp [hJ,p0R,h0,b0]
   refine (b0u (hh.mono hx) hx.1 (by omega)).mono ?_
   rintro _ G2 ⟨rfl,hx2⟩
   replace b0:=hx2.blk b0
   replace b1:=hx2.blk b1
   replace hx:=hx.trans hx2
   simp [hI,h0]
   refine a0v ?_
   simp [y0T,h0,b0,b1]
   refine (b0M (hh.mono hx) (by have:=hx.1;omega) (by omega)).mono ?_
   rintro x G2 ⟨hl,hx2⟩
   replace b0:=hx2.blk b0
   replace b1:=hx2.blk b1
   replace hx:=hx.trans hx2
   try simp [h0,b1]
   refine (b0M (kk.mono hx) hx.1 (by omega)).mono ?_
   rintro y G2 ⟨hl2,hx2⟩
   replace hl:=hl.mono hx2
   replace b0:=hx2.blk b0
   replace b1:=hx2.blk b1
   replace hx:=hx.trans hx2
   try simp [h0,b0]
   refine (e0K hl hl2 hx.1 (by omega)).mono ?_
   rintro _ G2 ⟨rfl,hx2⟩
   rw [f0j,d0Y]
   have:(if (a0O i).natAbs < (a0O j).natAbs then (-1:Int) else if (a0O j).natAbs < (a0O i).natAbs then 1 else 0)=b0T (a0O i) (a0O j):=by
    unfold b0T;(repeat' split) <;> omega
   simp [this]
end
/- num.Of. -/
section
open Go
set_option maxHeartbeats 4000000
variable {fl:Nat} {H:a0f} {R:a0A} {v w:Value} {i j:Bool × List Nat}
theorem c0i {n:Int} (hf:fl≤H.size) (h1:-9223372036854775808≤n) (h2:n < 9223372036854775808) :
  a0P env fl i0f [.int .i64 n] H (fun r H'=>b0q H' r (a0n n)∧Ext H H') R:=by
 refine a0l U0O hf (h:=?_)
 intro ρ h0
 simp only [H0E]
 refine h0Y (l0D ?_)
 simp [-r0c,y0J,h0]
 generalize hG:Array.push H _=G
 have hx:Ext H G:=by rw [← hG];exact (Ext.refl H).push
 have b2:a0f.blk G H.size=.row false a0c [.bool false,.slice none 0 0]:=by rw [← hG];simp
 clear hG
 refine h0Y (l0D ?_)
 simp [-r0c,y0K,h0]
 refine h0Y (Q0d (fun t G'=>G' = G∧t.length=19∧get t 0=.int .i64 n∧get t 2=.pointer (some ⟨H.size,0,none⟩)∧get t 3=.int .u64 ((n.natAbs:Nat):Int)) ?_ ?_)
 ·have e1:0≤n→IntKind.u64.wrap n=((n.natAbs:Nat):Int):=fun _=>by rw [a0J];omega
  have e2:n < 0→IntKind.u64.wrap (-IntKind.u64.wrap n)=((n.natAbs:Nat):Int):=fun _=>by rw [a0J,a0J];omega
  simp [y0L,y0M,h0]
  exact ⟨e2,e1⟩
 clear h0 ρ
 rintro t G' ⟨rfl,ht,g0,g2,g3⟩
 obtain ⟨ρ,rfl⟩:=toT ht
 simp only [b0Z,Nat.reduceLT] at g0 g2 g3
 simp [y0N,g0,g2,g3]
 refine (a0r hx.1).mono ?_
 rintro _ G2 ⟨rfl,hx2⟩
 replace b2:=hx2.blk b2
 replace hx:=hx.trans hx2
 try simp [g0,g2,g3]
 rw [show ((n.natAbs:Nat):Int) / 4294967296=((n.natAbs / 4294967296:Nat):Int) by omega]
 refine (a0r hx.1).mono ?_
 rintro _ G2 ⟨rfl,hx2⟩
 replace b2:=hx2.blk b2
 replace hx:=hx.trans hx2
 simp
 have hl:Lim (Array.push G2 (.row false a0m [.int .u32 (((n.natAbs:Nat):Int) % 4294967296),.int .u32 (((n.natAbs:Nat):Int) / 4294967296 % 4294967296)]))
   (.slice (some ⟨Array.size G2,0,none⟩) 2 2) [n.natAbs % 4294967296,n.natAbs / 4294967296 % 4294967296]:=by
  refine ⟨(Own.mk (fl:=0) (n:=2) (sz:=1) (cs:=d0b [n.natAbs % 4294967296,n.natAbs / 4294967296 % 4294967296]) ?_ rfl (Nat.zero_le _)).sl,?_⟩
  ·rw [a0y];simp [d0b]
  ·intro x hx;simp at hx;omega
 have hx2:Ext G2 (Array.push G2 (.row false a0m [.int .u32 (((n.natAbs:Nat):Int) % 4294967296),.int .u32 (((n.natAbs:Nat):Int) / 4294967296 % 4294967296)])):=(Ext.refl G2).push
 replace b2:=hx2.blk b2
 replace hx:=hx.trans hx2
 refine (c0c n hl hx.1 (by simp) (by simp [a0D];split <;> omega)).mono ?_
 rintro _ G2 ⟨⟨s',rfl,hs'⟩,hx2⟩
 replace b2:=hx2.blk b2
 replace hx:=hx.trans hx2
 have hz:=a0k b2
 simp [b2,hs'.cells,hs'.plain,hz]
 exact fun _=>⟨s',rfl,hs'.setT b2 (by decide)⟩
end
/- num.Mul. -/
section
open Go
set_option maxHeartbeats 4000000
variable {fl:Nat} {H:a0f} {R:a0A} {v w:Value} {i j:Bool × List Nat}
theorem m0j:∀ (l:List Nat) (j z:Nat),j < l.length→a0D (l.set j z) + 4294967296 ^ j * l.getD j 0=a0D l + 4294967296 ^ j * z
 | [],j,z,h=>by simp at h
 | x :: l,0,z,_=>by simp [a0D];omega
 | x :: l,j + 1,z,h=>by
  have ih:=m0j l j z (by simpa using h)
  rw [List.set_cons_succ,List.getD_cons_succ,a0D,a0D,Nat.pow_succ]
  have e1:4294967296 ^ j * 4294967296 * l.getD j 0=4294967296 * (4294967296 ^ j * l.getD j 0):=by rw [Nat.mul_comm (4294967296 ^ j),Nat.mul_assoc]
  have e2:4294967296 ^ j * 4294967296 * z=4294967296 * (4294967296 ^ j * z):=by rw [Nat.mul_comm (4294967296 ^ j),Nat.mul_assoc]
  rw [e1,e2];omega
theorem d0x (l:List Nat) (j z:Nat):d0b (l.set j z)=(d0b l).set j (.int .u32 (z:Nat)):=by simp [d0b,List.map_set]
theorem d0U {l:List Nat} {j z:Nat} (h:b0D l) (hz:z < 4294967296):b0D (l.set j z):=by
 intro x hx
 rcases List.mem_or_eq_of_mem_set hx with hx | rfl
 ·exact h x hx
 ·exact hz
theorem j0k {G:a0f} {e n p cap:Nat} {l:List Nat} (hb:G.blk p=.row false e (d0b l)) {k:IntKind} {z:Nat} (hz:z < l.length) (hn:l.length=n) :
  iaV 1 (.slice (some ⟨p,0,none⟩) n cap) (.int k (z:Int))=some (.pointer (some ⟨p,z,none⟩))∧rd (G.blk p) z=some (.int .u32 ((l.getD z 0:Nat):Int)):=by
 refine ⟨?_,?_⟩
 ·simp only [iaV];rw [if_pos (by omega)];simp
 ·rw [hb];simp [d0b,List.getD_eq_getElem?_getD,hz]
theorem e0F {l:List Nat} {a b z:Nat} (h:a ≠ b):(l.set a z).getD b 0=l.getD b 0:=by
 rw [List.getD_eq_getElem?_getD,List.getD_eq_getElem?_getD,List.getElem?_set_ne h]
theorem b0j (h:b0q H v i) (k:b0q H w j) (hf:fl≤H.size) (hn:i.2.length < 268435456) (hm:j.2.length < 268435456) :
  a0P env fl l0X [v,w] H (fun r H'=>b0q H' r (a0n (a0O i * a0O j))∧Ext H H') R:=by
 have hh:=h
 have kk:=k
 obtain ⟨s,rfl,hs⟩:=h
 obtain ⟨u,rfl,hu⟩:=k
 refine a0l X0f hf (h:=?_)
 intro ρ h0
 simp [T0u,L0S,h0]
 generalize hG:Array.push (Array.push (Array.push H _) _) _=G
 have hx:Ext H G:=by rw [← hG];exact (Ext.refl H).push.push.push
 have b0:a0f.blk G H.size=.row false a0c [.bool i.1,s]:=by rw [← hG];simp
 have b1:a0f.blk G (H.size + 1)=.row false a0c [.bool j.1,u]:=by rw [← hG];simp
 have b2:a0f.blk G (H.size + 2)=.row false a0c [.bool false,.slice none 0 0]:=by rw [← hG];simp
 clear hG
 have l1:=a0T hh.ok
 have l2:=a0T kk.ok
 refine a0v ?_
 simp [L0T,h0,b0,b1]
 refine (b0M (hh.mono hx) (by have:=hx.1;omega) (by omega)).mono ?_
 rintro x G2 ⟨hl,hx2⟩
 replace b0:=hx2.blk b0
 replace b1:=hx2.blk b1
 replace b2:=hx2.blk b2
 replace hx:=hx.trans hx2
 try simp [h0,b1]
 refine (b0M (kk.mono hx) hx.1 (by omega)).mono ?_
 rintro y G2 ⟨hl2,hx2⟩
 replace hl:=hl.mono hx2
 replace b0:=hx2.blk b0
 replace b1:=hx2.blk b1
 replace b2:=hx2.blk b2
 replace hx:=hx.trans hx2
 generalize hA:a0I (a0O i).natAbs=A at hl l1
 generalize hB:a0I (a0O j).natAbs=B at hl2 l2
 have w1:IntKind.i64.wrap ((A.length:Int) + (B.length:Int))=((A.length + B.length:Nat):Int):=by rw [a0L (by omega) (by omega)];omega
 have hmk:=f0p (bytes:=4) (k:=.i64) (k':=.i64) (l:=A.length + B.length) (c:=A.length + B.length) (Nat.le_refl _) (by omega) (by omega)
 simp [-Int.natCast_add,L0U,L0V,h0,hl.slen,hl2.slen,w1,hmk]
 have hP:H.size≤G2.size:=hx.1
 generalize hPd:G2.size=P at hP
 generalize hSL:Value.slice (some ⟨P,0,none⟩) (A.length + B.length) (A.length + B.length)=SL
 refine b0Y (fun k t G'=>∃ a o,a + k=A.length∧t.length=78∧get t 2=.pointer (some ⟨H.size,0,none⟩)∧get t 3=.pointer (some ⟨H.size + 1,0,none⟩)∧get t 4=.pointer (some ⟨H.size + 2,0,none⟩) ∧
   get t 6=y∧get t 7=SL∧get t 23=x∧get t 24=.int .i64 A.length∧get t 25=.int .i64 ((a:Nat):Int) ∧
   Ext G2 G'∧a0f.blk G' P=.row false a0m (d0b o)∧o.length=A.length + B.length∧b0D o∧a0D o=a0D (A.take a) * a0D B∧∀ q,a + B.length≤q→o.getD q 0=0)
  (fun t G'=>∃ o,t.length=78∧get t 2=.pointer (some ⟨H.size,0,none⟩)∧get t 3=.pointer (some ⟨H.size + 1,0,none⟩)∧get t 4=.pointer (some ⟨H.size + 2,0,none⟩)∧get t 7=SL ∧
   Ext G2 G'∧a0f.blk G' P=.row false a0m (d0b o)∧o.length=A.length + B.length∧b0D o∧a0D o=a0D A * a0D B) A.length ?_ ?_ ?_
 ·refine ⟨0,List.replicate (A.length + B.length) 0,by omega,by simp,by simp,by simp,by simp,by simp,by simp,by simp,by simp,by simp,Ext.push (Ext.refl _),?_,by simp,?_,?_,?_⟩
  ·rw [← hPd,a0y]
   congr 1
   generalize A.length + B.length=n
   induction n with
   | zero=>rfl
   | succ n ih=>rw [f0e,ih];rfl
  ·intro z hz;rw [List.mem_replicate] at hz;omega
  ·simp only [List.take_zero,a0D,Nat.zero_mul]
   generalize A.length + B.length=n
   induction n with
   | zero=>rfl
   | succ n ih=>rw [List.replicate_succ,a0D,ih]
  ·intro q _;rw [List.getD_eq_getElem?_getD,List.getElem?_replicate];split <;> rfl
 ·clear h0 ρ w1 hmk
  rintro k t G' ⟨a,o,hak,ht,g2,g3,g4,g6,g7,g23,g24,g25,hx2,hb,hol,hok,hs,hz⟩
  obtain ⟨ρ,rfl⟩:=toT ht
  simp only [b0Z,Nat.reduceLT] at g2 g3 g4 g6 g7 g23 g24 g25
  by_cases ha:a < A.length
  ·have hla:=hl.load ha hx2
   have hia:=hl.ia (k:=.i64) ha
   have hA2:=b0h ha
   have hA3:A.getD a 0 < 4294967296:=hl.2 _ (by rw [List.getD_eq_getElem?_getD,List.getElem?_eq_getElem ha];exact List.getElem_mem ha)
   generalize A.getD a 0=U at hla hA2 hA3
   simp [E0V,L0W,L0X,L0Y,g2,g3,g4,g6,g7,g23,g24,g25,ha,hla,hia,hl2.slen]
   refine b0Y (fun k2 t G'=>∃ q c o,q + k2=B.length∧t.length=78∧get t 2=.pointer (some ⟨H.size,0,none⟩)∧get t 3=.pointer (some ⟨H.size + 1,0,none⟩)∧get t 4=.pointer (some ⟨H.size + 2,0,none⟩) ∧
     get t 6=y∧get t 7=SL∧get t 23=x∧get t 24=.int .i64 A.length∧get t 25=.int .i64 ((a:Nat):Int)∧get t 8=.int .i64 ((a:Nat):Int)∧get t 9=.int .u32 ((U:Nat):Int) ∧
     get t 10=.int .u64 ((c:Nat):Int)∧get t 30=y∧get t 31=.int .i64 B.length∧get t 32=.int .i64 ((q:Nat):Int) ∧
     Ext G2 G'∧a0f.blk G' P=.row false a0m (d0b o)∧o.length=A.length + B.length∧b0D o∧c < 4294967296 ∧
     a0D o + 4294967296 ^ (a + q) * c=a0D (A.take a) * a0D B + 4294967296 ^ a * (U * a0D (B.take q))∧∀ q,a + B.length≤q→o.getD q 0=0)
    (fun t G'=>∃ c o,t.length=78∧get t 2=.pointer (some ⟨H.size,0,none⟩)∧get t 3=.pointer (some ⟨H.size + 1,0,none⟩)∧get t 4=.pointer (some ⟨H.size + 2,0,none⟩) ∧
     get t 6=y∧get t 7=SL∧get t 23=x∧get t 24=.int .i64 A.length∧get t 25=.int .i64 ((a:Nat):Int)∧get t 8=.int .i64 ((a:Nat):Int) ∧
     get t 10=.int .u64 ((c:Nat):Int) ∧
     Ext G2 G'∧a0f.blk G' P=.row false a0m (d0b o)∧o.length=A.length + B.length∧b0D o∧c < 4294967296 ∧
     a0D o + 4294967296 ^ (a + B.length) * c=a0D (A.take (a + 1)) * a0D B∧∀ q,a + B.length≤q→o.getD q 0=0) B.length ?_ ?_ ?_
   ·exact ⟨0,0,o,by omega,by simp,by simp [g2],by simp [g3],by simp [g4],by simp [g6],by simp [g7],by simp [g23],by simp [g24],by simp [g25],by simp,by simp,by simp,by simp,by simp,by simp,
     hx2,hb,hol,hok,by omega,by simp [hs,a0D],hz⟩
   ·clear hs hz hok hol hb hx2 hla o g2 g3 g4 g6 g7 g23 g24 g25 ht ρ G'
    rintro k2 t G' ⟨q,c,o,hqk,ht,g2,g3,g4,g6,g7,g23,g24,g25,g8,g9,g10,g30,g31,g32,hx2,hb,hol,hok,hc,hs,hz⟩
    obtain ⟨ρ,rfl⟩:=toT ht
    simp only [b0Z,Nat.reduceLT] at g2 g3 g4 g6 g7 g23 g24 g25 g8 g9 g10 g30 g31 g32
    by_cases hq:q < B.length
    ·have hlb:=hl2.load hq hx2
     have hib:=hl2.ia (k:=.i64) hq
     have hB2:=b0h hq
     have hB3:B.getD q 0 < 4294967296:=hl2.2 _ (by rw [List.getD_eq_getElem?_getD,List.getElem?_eq_getElem hq];exact List.getElem_mem hq)
     generalize B.getD q 0=V at hlb hB2 hB3
     have hlo:a + q < o.length:=by omega
     obtain ⟨hio,hro⟩:=j0k (k:=.i64) (cap:=A.length + B.length) hb hlo hol
     rw [hSL] at hio
     have hset:=m0j o (a + q) ((c + (U * V + o.getD (a + q) 0)) % 4294967296) hlo
     have hW3:o.getD (a + q) 0 < 4294967296:=hok _ (by rw [List.getD_eq_getElem?_getD,List.getElem?_eq_getElem hlo];exact List.getElem_mem hlo)
     generalize o.getD (a + q) 0=Wd at hro hset hW3
     have hUV:U * V≤4294967295 * 4294967295:=Nat.mul_le_mul (by omega) (by omega)
     have e1:IntKind.u64.wrap (U:Int)=(U:Int):=by rw [a0J];omega
     have e2:IntKind.u64.wrap (V:Int)=(V:Int):=by rw [a0J];omega
     have e3:IntKind.u64.wrap (Wd:Int)=(Wd:Int):=by rw [a0J];omega
     have e4:IntKind.u64.wrap ((U:Int) * (V:Int))=((U * V:Nat):Int):=by rw [a0J,← Int.natCast_mul];omega
     have e5:IntKind.u64.wrap (((U * V:Nat):Int) + (Wd:Int))=((U * V + Wd:Nat):Int):=by rw [a0J];omega
     have e6:IntKind.u64.wrap ((c:Int) + ((U * V + Wd:Nat):Int))=((c + (U * V + Wd):Nat):Int):=by rw [a0J];omega
     have e7:IntKind.i64.wrap ((a:Int) + (q:Int))=((a + q:Nat):Int):=by rw [a0L (by omega) (by omega)];omega
     have e8:IntKind.i64.wrap ((q:Int) + 1)=((q + 1:Nat):Int):=by rw [a0L (by omega) (by omega)];omega
     simp [-Int.natCast_add,-Int.natCast_mul,E0W,L0Z,E0O,E0P,E0Q,E0R,g2,g3,g4,g6,g7,g23,g24,g25,g8,g9,g10,g30,g31,g32,hq,hlb,hib,e1,e2,e3,e4,e5,e6,e7,e8,hio,hro]
     refine (a0r (by have:=hx2.1;omega)).mono ?_
     rintro _ G3 ⟨rfl,hx3⟩
     replace hb:=hx3.blk hb
     have hxx:=hx2.trans hx3
     have hPl:=a0k hb
     have hle:a + q + 1≤o.length:=hlo
     generalize hc1:c + (U * V + Wd)=c1 at *
     simp [-Int.natCast_emod,-Int.natCast_ediv,-Int.natCast_add,hb,hP,hle]
     refine ⟨k2 - 1,by omega,q + 1,by omega,c1 / 4294967296,by omega,rfl,hxx.set (by omega),o.set (a + q) (c1 % 4294967296),by rw [a0R hPl,d0x],by simp [hol],d0U hok (by omega),by omega,?_,?_⟩
     ·have f1:4294967296 ^ (a + (q + 1)) * (c1 / 4294967296)=4294967296 ^ (a + q) * (4294967296 * (c1 / 4294967296)):=by
       rw [show a + (q + 1)=a + q + 1 by omega,Nat.pow_succ,Nat.mul_assoc]
      have f2:4294967296 ^ (a + q) * (c1 % 4294967296) + 4294967296 ^ (a + q) * (4294967296 * (c1 / 4294967296))=4294967296 ^ (a + q) * c1:=by rw [← Nat.mul_add,Nat.mod_add_div]
      have f3:4294967296 ^ (a + q) * c1=4294967296 ^ (a + q) * c + (4294967296 ^ (a + q) * (U * V) + 4294967296 ^ (a + q) * Wd):=by rw [← hc1,Nat.mul_add,Nat.mul_add]
      have f4:4294967296 ^ a * (U * (a0D (List.take q B) + 4294967296 ^ q * V))=4294967296 ^ a * (U * a0D (List.take q B)) + 4294967296 ^ (a + q) * (U * V):=by
       rw [Nat.mul_add,Nat.mul_add,Nat.pow_add]
       congr 1
       rw [Nat.mul_assoc,Nat.mul_left_comm U]
      rw [hB2,f4,f1]
      omega
     ·intro r hr
      have:=hz r hr
      rw [← List.getD_eq_getElem?_getD,e0F (by omega)];exact this
    ·simp [E0W,g2,g3,g4,g6,g7,g23,g24,g25,g8,g9,g10,g30,g31,g32,hq]
     have:q=B.length:=by omega
     subst this
     refine ⟨c,rfl,hx2,o,hb,hol,hok,hc,?_,by simpa using hz⟩
     rw [hs,List.take_of_length_le (Nat.le_refl _),hA2,Nat.add_mul,Nat.mul_assoc]
   ·clear hs hz hok hol hb hx2 hla o g2 g3 g4 g6 g7 g23 g24 g25 ht ρ G'
    rintro t G' ⟨c,o,ht,g2,g3,g4,g6,g7,g23,g24,g25,g8,g10,hx2,hb,hol,hok,hc,hs,hz⟩
    obtain ⟨ρ,rfl⟩:=toT ht
    simp only [b0Z,Nat.reduceLT] at g2 g3 g4 g6 g7 g23 g24 g25 g8 g10
    have hlo:a + B.length < o.length:=by omega
    obtain ⟨hio,hro⟩:=j0k (k:=.i64) (cap:=A.length + B.length) hb hlo hol
    rw [hSL] at hio
    have hset:=m0j o (a + B.length) (c % 4294967296) hlo
    rw [hz _ (Nat.le_refl _)] at hset
    have e7:IntKind.i64.wrap ((a:Int) + (B.length:Int))=((a + B.length:Nat):Int):=by rw [a0L (by omega) (by omega)];omega
    have e8:IntKind.i64.wrap ((a:Int) + 1)=((a + 1:Nat):Int):=by rw [a0L (by omega) (by omega)];omega
    simp [-Int.natCast_add,E0S,g2,g3,g4,g6,g7,g23,g24,g25,g8,g10,hl2.slen,e7,hio]
    refine (a0r (by have:=hx2.1;omega)).mono ?_
    rintro _ G3 ⟨rfl,hx3⟩
    replace hb:=hx3.blk hb
    have hxx:=hx2.trans hx3
    have hPl:=a0k hb
    have hle:a + B.length + 1≤o.length:=hlo
    simp [-Int.natCast_emod,-Int.natCast_ediv,-Int.natCast_add,E0T,g2,g3,g4,g6,g7,g23,g24,g25,hb,hP,hle,e8]
    refine ⟨k - 1,by omega,a + 1,by omega,rfl,hxx.set (by omega),o.set (a + B.length) (c % 4294967296),by rw [a0R hPl,d0x],by simp [hol],d0U hok (by omega),?_,?_⟩
    ·rw [Nat.mod_eq_of_lt hc] at hset ⊢
     omega
    ·intro r hr
     have:=hz r (by omega)
     rw [← List.getD_eq_getElem?_getD,e0F (by omega)];exact this
  ·simp [E0V,g2,g3,g4,g6,g7,g23,g24,g25,ha]
   have:a=A.length:=by omega
   subst this
   exact ⟨hx2,o,hb,hol,hok,by rw [hs,List.take_of_length_le (Nat.le_refl _)]⟩
 ·clear h0 ρ w1 hmk
  rintro t G' ⟨o,ht,g2,g3,g4,g7,hx2,hb,hol,hok,hs⟩
  obtain ⟨ρ,rfl⟩:=toT ht
  simp only [b0Z,Nat.reduceLT] at g2 g3 g4 g7
  replace b0:=hx2.blk b0
  replace b1:=hx2.blk b1
  replace b2:=hx2.blk b2
  replace hx:=hx.trans hx2
  have hy:Lim G' SL o:=by
   rw [← hSL,← hol]
   exact ⟨(Own.mk (fl:=0) hb (by simp) (Nat.zero_le _)).sl,hok⟩
  refine a0v ?_
  simp [E0U,g2,g3,g4,g7,b0,b1]
  refine (b0u (hh.mono hx) (by have:=hx.1;omega) (by omega)).mono ?_
  rintro _ G2 ⟨rfl,hx2⟩
  replace b0:=hx2.blk b0
  replace b1:=hx2.blk b1
  replace b2:=hx2.blk b2
  replace hx:=hx.trans hx2
  replace hy:=hy.mono hx2
  try simp [g2,g3,g4,g7,b1]
  refine (b0u (kk.mono hx) hx.1 (by omega)).mono ?_
  rintro _ G2 ⟨rfl,hx2⟩
  replace b0:=hx2.blk b0
  replace b1:=hx2.blk b1
  replace b2:=hx2.blk b2
  replace hx:=hx.trans hx2
  replace hy:=hy.mono hx2
  try simp [g2,g3,g4,g7,b1]
  have hAn:a0D A=(a0O i).natAbs:=by rw [← hA,a0H]
  have hBn:a0D B=(a0O j).natAbs:=by rw [← hB,a0H]
  rw [hAn,hBn,← Int.natAbs_mul] at hs
  have hsgn:(if (decide (a0O i < 0) != decide (a0O j < 0))=true then -((a0O i * a0O j).natAbs:Int) else ((a0O i * a0O j).natAbs:Int))=a0O i * a0O j:=by
   by_cases hi:a0O i < 0 <;> by_cases hj:a0O j < 0
   ·have:=Int.mul_pos_of_neg_of_neg hi hj
    simp [hi,hj];omega
   ·have:=Int.mul_nonpos_of_nonpos_of_nonneg (Int.le_of_lt hi) (show 0≤a0O j by omega)
    simp [hi,hj];omega
   ·have:=Int.mul_nonpos_of_nonneg_of_nonpos (show 0≤a0O i by omega) (Int.le_of_lt hj)
    simp [hi,hj];omega
   ·have:=Int.mul_nonneg (show 0≤a0O i by omega) (show 0≤a0O j by omega)
    simp [hi,hj];omega
  refine (c0c (a0O i * a0O j) hy hx.1 (by omega) (by rw [hs];exact hsgn)).mono ?_
  rintro _ G2 ⟨⟨s',rfl,hs'⟩,hx2⟩
  replace b0:=hx2.blk b0
  replace b1:=hx2.blk b1
  replace b2:=hx2.blk b2
  replace hx:=hx.trans hx2
  have hz:=a0k b2
  simp [b2,hs'.cells,hs'.plain,hz,g4]
  exact fun _=>⟨s',rfl,hs'.setT b2 (by decide)⟩
end
/- Shifts and masks of words. -/
section
open Go
section
variable {tag:Nat}
theorem n0l (n:Nat):IntKind.u64.wrap (n:Int)=((n % 18446744073709551616:Nat):Int):=by rw [a0J];omega
theorem P0i (n:Nat):IntKind.u32.wrap (n:Int)=((n % 4294967296:Nat):Int):=by rw [n0m];omega
theorem F0j {n s:Nat} {k':IntKind} (hs:s≤64):d0y tag .shl (.int .u64 (n:Int)) (.int k' (s:Int))=some (.int .u64 ((n * 2 ^ s % 18446744073709551616:Nat):Int)):=by
 rw [r0j (by omega)]
 have:min (s:Int).toNat IntKind.u64.bits=s:=by show min (s:Int).toNat 64=s;omega
 rw [this]
 have e:(n:Int) * 2 ^ s=((n * 2 ^ s:Nat):Int):=by simp
 rw [e,n0l]
theorem O0N {n s:Nat} {k':IntKind} (hs:s≤32):d0y tag .shl (.int .u32 (n:Int)) (.int k' (s:Int))=some (.int .u32 ((n * 2 ^ s % 4294967296:Nat):Int)):=by
 rw [r0j (by omega)]
 have:min (s:Int).toNat IntKind.u32.bits=s:=by show min (s:Int).toNat 32=s;omega
 rw [this]
 have e:(n:Int) * 2 ^ s=((n * 2 ^ s:Nat):Int):=by simp
 rw [e,P0i]
theorem O0O {n s:Nat} {k':IntKind} (hs:s≤64):d0y tag .shr (.int .u64 (n:Int)) (.int k' (s:Int))=some (.int .u64 ((n / 2 ^ s:Nat):Int)):=by
 rw [j0h (by omega)]
 have:min (s:Int).toNat IntKind.u64.bits=s:=by show min (s:Int).toNat 64=s;omega
 rw [this]
 have e:(2:Int) ^ s=((2 ^ s:Nat):Int):=by simp
 rw [e,G0b]
theorem O0P {n s:Nat} {k':IntKind} (hs:s≤32):d0y tag .shr (.int .u32 (n:Int)) (.int k' (s:Int))=some (.int .u32 ((n / 2 ^ s:Nat):Int)):=by
 rw [j0h (by omega)]
 have:min (s:Int).toNat IntKind.u32.bits=s:=by show min (s:Int).toNat 32=s;omega
 rw [this]
 have e:(2:Int) ^ s=((2 ^ s:Nat):Int):=by simp
 rw [e,G0b]
theorem R0k {a b:Nat} (ha:a < 18446744073709551616) (hb:b < 18446744073709551616):d0y tag .or (.int .u64 (a:Int)) (.int .u64 (b:Int))=some (.int .u64 ((a ||| b:Nat):Int)):=by
 rw [M0X]
 have e1:(BitVec.ofInt IntKind.u64.bits (a:Int) ||| BitVec.ofInt IntKind.u64.bits (b:Int)).toNat=a ||| b:=by
  show (BitVec.ofInt 64 (a:Int) ||| BitVec.ofInt 64 (b:Int)).toNat=a ||| b
  rw [BitVec.toNat_or]
  simp only [BitVec.ofInt_natCast,BitVec.toNat_ofNat]
  rw [Nat.mod_eq_of_lt (by omega),Nat.mod_eq_of_lt (by omega)]
 rw [e1,n0l]
 have:a ||| b < 2 ^ 64:=Nat.or_lt_two_pow (by omega) (by omega)
 rw [Nat.mod_eq_of_lt (by omega)]
theorem Q0h {a:Nat}:d0y tag .and (.int .u64 (a:Int)) (.int .u64 4294967295)=some (.int .u64 ((a % 4294967296:Nat):Int)):=by
 rw [F0R]
 have e1:(BitVec.ofInt IntKind.u64.bits (a:Int) &&& BitVec.ofInt IntKind.u64.bits (4294967295:Int)).toNat=a % 4294967296:=by
  show (BitVec.ofInt 64 (a:Int) &&& BitVec.ofInt 64 (4294967295:Int)).toNat=a % 4294967296
  rw [BitVec.toNat_and]
  have:(BitVec.ofInt 64 (4294967295:Int)).toNat=2 ^ 32 - 1:=rfl
  rw [this,Nat.and_two_pow_sub_one_eq_mod]
  simp only [BitVec.ofInt_natCast,BitVec.toNat_ofNat]
  omega
 rw [e1,n0l,Nat.mod_eq_of_lt (by omega)]
theorem r0F {x y:Nat} (h:y < 4294967296):x * 4294967296 ||| y=x * 4294967296 + y:=by
 have:=Nat.two_pow_add_eq_or_of_lt (i:=32) (b:=y) (by omega) x
 rw [Nat.mul_comm] at this
 exact this.symm
theorem R0r {a b:Nat} (ha:a < 18446744073709551616) (hb:b ≠ 0):d0y tag .quo (.int .u64 (a:Int)) (.int .u64 (b:Int))=some (.int .u64 ((a / b:Nat):Int)):=by
 rw [r0i (by omega),Int.tdiv_eq_ediv_of_nonneg (by omega)]
 have:(a:Int) / (b:Int)=((a / b:Nat):Int):=rfl
 rw [this,n0l,Nat.mod_eq_of_lt (Nat.lt_of_le_of_lt (Nat.div_le_self a b) ha)]
theorem R0P {a b:Nat} (hb:b ≠ 0):d0y tag .rem (.int .u64 (a:Int)) (.int .u64 (b:Int))=some (.int .u64 ((a % b:Nat):Int)):=by
 rw [F0T (by omega),Int.tmod_eq_emod_of_nonneg (by omega)]
 rfl
end
end
/- num.small. -/
section
open Go
set_option maxHeartbeats 4000000
variable {fl:Nat} {H:a0f} {R:a0A} {v w:Value} {a:List Nat}
theorem f0W {l:List Nat} {n:Nat} (h:n < l.length):a0D (l.drop n)=l.getD n 0 + 4294967296 * a0D (l.drop (n + 1)):=by
 rw [List.drop_eq_getElem_cons h,a0D,List.getD_eq_getElem?_getD,List.getElem?_eq_getElem h];rfl
theorem k0Q {d:Nat} (ha:Lim H v a) (hf:fl≤H.size) (hna:a.length≤1073741824) (hd:0 < d) (hd2:d < 4294967296) :
  a0P env fl w0g [v,.int .u32 (d:Int)] H (fun r H'=>(∃ q o,r=.tuple #[q,.int .u32 ((a0D a % d:Nat):Int)]∧Lim H' q o∧a0D o=a0D a / d∧o.length=a.length)∧Ext H H') R:=by
 refine a0l V0v hf (h:=?_)
 intro ρ h0
 simp only [I0l]
 have hm:=f0p (bytes:=4) (k:=.i64) (k':=.i64) (l:=a.length) (c:=a.length) (Nat.le_refl _) (by omega) (by omega)
 have w1:IntKind.i64.wrap ((a.length:Int) - 1)=(a.length:Int) - 1:=a0L (by omega) (by omega)
 simp [C0m,C0n,C0o,C0p,h0,ha.slen,hm,w1]
 generalize hPd:H.size=P
 have hP:H.size≤P:=by omega
 generalize hSL:Value.slice (some ⟨P,0,none⟩) a.length a.length=SL
 refine b0Y (fun k t G'=>∃ r o,t.length=42∧get t 0=v∧get t 1=.int .u32 (d:Int)∧get t 6=SL∧get t 7=.int .u64 ((r:Nat):Int)∧get t 8=.int .i64 ((k:Int) - 1)∧k≤a.length ∧
   Ext H G'∧a0f.blk G' P=.row false a0m (d0b o)∧o.length=a.length∧b0D o∧r < d∧a0D (o.drop k) * d + r=a0D (a.drop k))
  (fun t G'=>∃ r o,t.length=42∧get t 6=SL∧get t 7=.int .u64 ((r:Nat):Int) ∧
   Ext H G'∧a0f.blk G' P=.row false a0m (d0b o)∧o.length=a.length∧b0D o∧r < d∧a0D o * d + r=a0D a) a.length ?_ ?_ ?_
 ·refine ⟨0,List.replicate a.length 0,by simp,by simp [h0],by simp [h0],by simp,by simp,by simp,by omega,Ext.push (Ext.refl _),?_,by simp,?_,hd,?_⟩
  ·rw [← hPd,a0y]
   congr 1
   generalize a.length=n
   induction n with
   | zero=>rfl
   | succ n ih=>rw [f0e,ih];rfl
  ·intro z hz;rw [List.mem_replicate] at hz;omega
  ·simp [a0D]
 ·clear h0 ρ hm w1
  rintro k t G' ⟨r,o,ht,g0,g1,g6,g7,g8,hk,hx2,hb,hol,hok,hr,hs⟩
  obtain ⟨ρ,rfl⟩:=toT ht
  simp only [b0Z,Nat.reduceLT] at g0 g1 g6 g7 g8
  by_cases hk0:k=0
  ·subst hk0
   simp [q0f,g0,g1,g6,g7,g8]
   exact ⟨r,rfl,hx2,o,hb,hol,hok,hr,by simpa using hs⟩
  ·have e0:(k:Int) - 1=((k - 1:Nat):Int):=by omega
   have hka:k - 1 < a.length:=by omega
   rw [e0] at g8
   have hla:=ha.load hka hx2
   have hia:=ha.ia (k:=.i64) hka
   have hA2:=f0W hka
   have hA3:a.getD (k - 1) 0 < 4294967296:=ha.2 _ (by rw [List.getD_eq_getElem?_getD,List.getElem?_eq_getElem hka];exact List.getElem_mem hka)
   generalize a.getD (k - 1) 0=A at hla hA2 hA3
   have hlo:k - 1 < o.length:=by omega
   obtain ⟨hio,hro⟩:=j0k (k:=.i64) (cap:=a.length) hb hlo hol
   rw [hSL] at hio
   have s2:r * 2 ^ 32 % 18446744073709551616=r * 4294967296:=by omega
   have s1:d0y 0 .shl (.int .u64 (r:Int)) (.int .u64 32)=some (.int .u64 ((r * 4294967296:Nat):Int)):=by
    have:=F0j (tag:=0) (n:=r) (s:=32) (k':=.u64) (by omega)
    rw [s2] at this;exact this
   have s3:=R0k (tag:=0) (a:=r * 4294967296) (b:=A) (by omega) (by omega)
   rw [r0F hA3] at s3
   have eA:IntKind.u64.wrap (A:Int)=(A:Int):=by rw [a0J];omega
   have eD:IntKind.u64.wrap (d:Int)=(d:Int):=by rw [a0J];omega
   have s4:=R0r (tag:=0) (a:=r * 4294967296 + A) (b:=d) (by omega) (by omega)
   have s5:=R0P (tag:=0) (a:=r * 4294967296 + A) (b:=d) (by omega)
   have w2:IntKind.i64.wrap (((k - 1:Nat):Int) - 1)=((k - 1:Nat):Int) - 1:=a0L (by omega) (by omega)
   simp [-Int.natCast_add,-Int.natCast_mul,-Int.natCast_ediv,-Int.natCast_emod,q0f,C0q,C0r,C0s,C0t,g0,g1,g6,g7,g8,hla,hia,s1,s3,eA,eD,s4,s5,hio,w2]
   have hq1:(r * 4294967296 + A) / d < 4294967296:=by
    rw [Nat.div_lt_iff_lt_mul hd]
    have:(r + 1) * 4294967296≤d * 4294967296:=Nat.mul_le_mul_right _ hr
    rw [Nat.mul_comm 4294967296 d];omega
   have hq2:=Nat.div_add_mod (r * 4294967296 + A) d
   have hq3:=Nat.mod_lt (r * 4294967296 + A) hd
   clear s4 s5
   generalize (r * 4294967296 + A) / d=Q at hq1 hq2 ⊢
   generalize (r * 4294967296 + A) % d=r2 at hq2 hq3 ⊢
   refine (a0r (by have:=hx2.1;omega)).mono ?_
   rintro _ G3 ⟨rfl,hx3⟩
   replace hb:=hx3.blk hb
   have hxx:=hx2.trans hx3
   have hPl:=a0k hb
   have hle:k - 1 + 1≤o.length:=hlo
   rw [Nat.mod_eq_of_lt hq1]
   simp [-Int.natCast_emod,-Int.natCast_ediv,-Int.natCast_add,hb,hle]
   refine ⟨k - 1,by omega,r2,rfl,rfl,by omega,hxx.set (by omega),o.set (k - 1) Q,by rw [a0R hPl,d0x],by simp [hol],d0U hok hq1,hq3,?_⟩
   have hdr:a0D ((o.set (k - 1) Q).drop (k - 1))=Q + 4294967296 * a0D (o.drop k):=by
    rw [f0W (by simpa using hlo),List.getD_eq_getElem?_getD,List.getElem?_set_self hlo,show k - 1 + 1=k by omega,List.drop_set_of_lt (by omega)];rfl
   rw [hdr,hA2,show k - 1 + 1=k by omega,← hs,Nat.add_mul,Nat.mul_assoc,Nat.mul_comm Q d]
   generalize a0D (List.drop k o) * d=Z
   omega
 ·clear h0 ρ hm w1
  rintro t G' ⟨r,o,ht,g6,g7,hx2,hb,hol,hok,hr,hs⟩
  obtain ⟨ρ,rfl⟩:=toT ht
  simp only [b0Z,Nat.reduceLT] at g6 g7
  have hy:Lim G' SL o:=by
   rw [← hSL,← hol]
   exact ⟨(Own.mk (fl:=0) hb (by simp) (Nat.zero_le _)).sl,hok⟩
  simp [C0u,g6,g7]
  refine (a0r (by have:=hx2.1;omega)).mono ?_
  rintro _ G3 ⟨rfl,hx3⟩
  have e1:a0D a % d=r:=by rw [← hs,Nat.mul_comm,Nat.mul_add_mod,Nat.mod_eq_of_lt hr]
  have e2:a0D a / d=a0D o:=by rw [← hs,Nat.mul_comm,Nat.mul_add_div hd,Nat.div_eq_of_lt hr];rfl
  have e3:((a0D a:Nat):Int) % (d:Int)=((r:Nat):Int):=by rw [← e1];rfl
  rw [Nat.mod_eq_of_lt (by omega),e3,e2]
  simp
  exact fun _=>⟨o,hy.mono hx3,rfl,hol⟩
end
/- num.shifted. -/
section
open Go
set_option maxHeartbeats 4000000
variable {fl:Nat} {H:a0f} {R:a0A} {v w:Value} {a b:List Nat}
theorem p0s {x y s:Nat} (h:y < 2 ^ s):y ||| x * 2 ^ s=y + x * 2 ^ s:=by
 have:=Nat.two_pow_add_eq_or_of_lt (i:=s) (b:=y) h x
 rw [Nat.or_comm,Nat.mul_comm x,← this,Nat.add_comm]
theorem f0A {n:Nat} (ha:Lim H v a) (hf:fl≤H.size) (hna:a.length < 1073741824) (hn:n < 32) :
  a0P env fl u0w [v,.int .i64 (n:Int)] H (fun r H'=>(∃ o,Own H.size H' a0m 1 r (a.length + 1) (d0b o)∧b0D o∧a0D o=a0D a * 2 ^ n∧o.length=a.length + 1)∧Ext H H') R:=by
 refine a0l V0D hf (h:=?_)
 intro ρ h0
 simp only [I0t]
 have hm:=S0M (bytes:=4) (k:=.i64) (k':=.i64) (l:=0) (c:=(a.length:Int) + 1) (by omega) (by omega) (by omega) (by omega)
 have w1:IntKind.i64.wrap ((a.length:Int) + 1)=(a.length:Int) + 1:=a0L (by omega) (by omega)
 simp [D0f,D0g,D0h,D0i,h0,ha.slen,hm,w1]
 have hp:2 ^ n≤2147483648:=Nat.pow_le_pow_right (n:=2) (by omega) (show n≤31 by omega)
 have hp0:0 < 2 ^ n:=Nat.two_pow_pos n
 refine b0Y (fun k t G'=>∃ i c out s,i + k=a.length∧t.length=38∧get t 1=.int .i64 (n:Int)∧get t 5=s∧get t 6=.int .u64 ((c:Nat):Int)∧get t 13=v∧get t 14=.int .i64 a.length∧get t 15=.int .i64 ((i:Nat):Int) ∧
   Ext H G'∧Own H.size G' a0m 1 s i (d0b out)∧b0D out∧out.length=i∧c < 2 ^ n∧a0D out + 4294967296 ^ i * c=a0D (a.take i) * 2 ^ n)
  (fun t G'=>∃ c out s,t.length=38∧get t 5=s∧get t 6=.int .u64 ((c:Nat):Int) ∧
   Ext H G'∧Own H.size G' a0m 1 s a.length (d0b out)∧b0D out∧out.length=a.length∧c < 2 ^ n∧a0D out + 4294967296 ^ a.length * c=a0D a * 2 ^ n) a.length ?_ ?_ ?_
 ·exact ⟨0,0,[],.slice (some ⟨H.size,0,none⟩) 0 (a.length + 1),by omega,by simp,by simp [h0],by simp,by simp,by simp [h0],by simp,by simp,by simp,
   Own.mk (by simp [d0b]) rfl (Nat.le_refl _),by intro x hx;simp at hx,rfl,hp0,by simp [a0D]⟩
 ·clear hm w1 h0 ρ
  rintro k t G' ⟨i,c,out,s,hik,ht,g1,g5,g6,g13,g14,g15,hx,ho,hok,hol,hc,hs⟩
  obtain ⟨ρ,rfl⟩:=toT ht
  simp only [b0Z,Nat.reduceLT] at g1 g5 g6 g13 g14 g15
  by_cases hi:i < a.length
  ·have hla:=ha.load hi hx
   have hia:=ha.ia (k:=.i64) hi
   have hA2:=b0h hi
   have hA3:a.getD i 0 < 4294967296:=ha.2 _ (by rw [List.getD_eq_getElem?_getD,List.getElem?_eq_getElem hi];exact List.getElem_mem hi)
   generalize a.getD i 0=A at hla hA2 hA3
   have eA:IntKind.u64.wrap (A:Int)=(A:Int):=by rw [a0J];omega
   have hAn:A * 2 ^ n≤4294967295 * 2147483648:=Nat.mul_le_mul (by omega) hp
   have s1:=F0j (tag:=0) (n:=A) (s:=n) (k':=.i64) (by omega)
   rw [Nat.mod_eq_of_lt (by omega)] at s1
   have s2:=R0k (tag:=0) (a:=c) (b:=A * 2 ^ n) (by omega) (by omega)
   rw [p0s hc] at s2
   have e9:IntKind.i64.wrap ((i:Int) + 1)=((i + 1:Nat):Int):=by rw [a0L (by omega) (by omega)];omega
   simp [-Int.natCast_add,-Int.natCast_mul,-Int.natCast_pow,q0k,D0j,D0k,D0l,D0m,D0n,g1,g5,g6,g13,g14,g15,hi,hia,hla,eA,s1,s2]
   generalize hD:c + A * 2 ^ n=D
   refine (a0r hx.1).mono ?_
   rintro _ G2 ⟨rfl,hx2⟩
   obtain ⟨s',G3,h1,h2,h3,h4⟩:=f0O (e2:=a0m) (new:=[.int .u32 ((D % 4294967296:Nat):Int)]) (c:=1) (bytes:=4) (ho.mono hx2) rfl rfl (by omega) (by omega) (by omega) (by have:=hx.1;have:=hx2.1;omega)
   simp [-Int.natCast_emod,-Int.natCast_add,h1,g1,g5,g6,g13,g14,g15,e9]
   have hDq:D / 4294967296 < 2 ^ n:=by
    rw [Nat.div_lt_iff_lt_mul (by omega),← hD]
    have:(A + 1) * 2 ^ n≤4294967296 * 2 ^ n:=Nat.mul_le_mul_right _ hA3
    rw [Nat.add_mul] at this
    rw [Nat.mul_comm (2 ^ n)];omega
   refine ⟨k - 1,by omega,i + 1,by omega,D / 4294967296,rfl,rfl,h4 _ (Nat.le_refl _) (hx.trans hx2),out ++ [D % 4294967296],by simpa [d0b] using h2,?_,by simp [hol],hDq,?_⟩
   ·intro x hx
    rcases List.mem_append.1 hx with hx | hx
    ·exact hok x hx
    ·simp at hx;omega
   ·rw [d0v,hol,hA2,Nat.pow_succ,Nat.add_mul,← hs]
    have e3:4294967296 ^ i * 4294967296 * (D / 4294967296)=4294967296 ^ i * (4294967296 * (D / 4294967296)):=Nat.mul_assoc ..
    have e4:4294967296 ^ i * (D % 4294967296) + 4294967296 ^ i * (4294967296 * (D / 4294967296))=4294967296 ^ i * D:=by rw [← Nat.mul_add,Nat.mod_add_div]
    have e5:4294967296 ^ i * D=4294967296 ^ i * c + 4294967296 ^ i * A * 2 ^ n:=by rw [← hD,Nat.mul_add,Nat.mul_assoc]
    omega
  ·simp [q0k,g1,g5,g6,g13,g14,g15,hi]
   have:i=a.length:=by omega
   subst this
   refine ⟨c,rfl,hx,out,ho,hok,hol,hc,?_⟩
   rw [hs,List.take_of_length_le (Nat.le_refl _)]
 ·clear hm w1 h0 ρ
  rintro t G' ⟨c,out,s,ht,g5,g6,hx,ho,hok,hol,hc,hs⟩
  obtain ⟨ρ,rfl⟩:=toT ht
  simp only [b0Z,Nat.reduceLT] at g5 g6
  simp [t0t,g5,g6]
  refine (a0r hx.1).mono ?_
  rintro _ G2 ⟨rfl,hx2⟩
  obtain ⟨s',G3,h1,h2,h3,h4⟩:=f0O (e2:=a0m) (new:=[.int .u32 ((c % 4294967296:Nat):Int)]) (c:=1) (bytes:=4) (ho.mono hx2) rfl rfl (by omega) (by omega) (by omega) (by have:=hx.1;have:=hx2.1;omega)
  simp [-Int.natCast_emod,-Int.natCast_add,h1]
  refine fun _=>⟨out ++ [c % 4294967296],by simpa [hol,d0b] using h2,?_,?_,by simp [hol]⟩
  ·intro x hx
   rcases List.mem_append.1 hx with hx | hx
   ·exact hok x hx
   ·simp at hx;omega
  ·rw [d0v,hol,Nat.mod_eq_of_lt (by omega)];exact hs
end
/- num.back. -/
section
open Go
set_option maxHeartbeats 4000000
variable {fl:Nat} {H:a0f} {R:a0A} {v w:Value} {a b:List Nat}
theorem n0v {n A N A1 M:Nat} (hn:n < 32) (hA:A < 4294967296) (hN:N=A1 + 4294967296 * M) :
  (A + 4294967296 * N) / 2 ^ n=(A + A1 * 4294967296) / 2 ^ n % 4294967296 + 4294967296 * (N / 2 ^ n):=by
 have hB:(4294967296:Nat)=2 ^ n * 2 ^ (32 - n):=by rw [← Nat.pow_add,show n + (32 - n)=32 by omega]
 have hP:=Nat.two_pow_pos n
 have hQ:=Nat.two_pow_pos (32 - n)
 generalize 2 ^ n=P at *
 generalize 2 ^ (32 - n)=Q at *
 have e1:(A + 4294967296 * N) / P=A / P + Q * N:=by rw [hB,Nat.mul_assoc,Nat.add_mul_div_left _ _ hP]
 have e2:(A + A1 * 4294967296) / P=A / P + Q * A1:=by rw [Nat.mul_comm A1,hB,Nat.mul_assoc,Nat.add_mul_div_left _ _ hP]
 have e3:N % P=A1 % P:=by rw [hN,hB,Nat.mul_assoc,Nat.add_mul_mod_self_left]
 have e4:Q * N=4294967296 * (N / P) + Q * (A1 % P):=by
  have:=Nat.div_add_mod N P
  rw [e3] at this
  calc Q * N=Q * (P * (N / P) + A1 % P):=by rw [this]
   _=_:=by rw [Nat.mul_add,← Nat.mul_assoc,Nat.mul_comm Q P,← hB]
 have e5:Q * A1=4294967296 * (A1 / P) + Q * (A1 % P):=by
  have:=Nat.div_add_mod A1 P
  calc Q * A1=Q * (P * (A1 / P) + A1 % P):=by rw [this]
   _=_:=by rw [Nat.mul_add,← Nat.mul_assoc,Nat.mul_comm Q P,← hB]
 have h1:A / P < Q:=by rw [Nat.div_lt_iff_lt_mul hP,Nat.mul_comm,← hB];exact hA
 have h2:Q * (A1 % P) + Q≤4294967296:=by
  have:=Nat.mod_lt A1 hP
  have:Q * (A1 % P + 1)≤Q * P:=Nat.mul_le_mul_left Q this
  rw [Nat.mul_add,Nat.mul_comm Q P,← hB] at this
  omega
 rw [e1,e2,e4,e5]
 clear e1 e2 e3 e4 e5 hN
 generalize A / P=x at *
 generalize N / P=y at *
 generalize A1 / P=z at *
 generalize Q * (A1 % P)=q at *
 omega
theorem h0t {o:List Nat} {i z:Nat} (hlo:i < o.length):a0D (List.take (i + 1) (o.set i z))=a0D (List.take i o) + 4294967296 ^ i * z:=by
 rw [d0T (by simpa using hlo),d0v,List.length_take,List.length_set,Nat.min_eq_left (by omega),List.take_set_of_le (by omega),List.getD_eq_getElem?_getD,List.getElem?_set_self hlo,Option.getD_some]
theorem r0h {x y z s i q:Nat} (h:x=y + 4294967296 ^ i * z) (hs:y + 4294967296 ^ i * (z + 4294967296 * q)=s):x + 4294967296 ^ (i + 1) * q=s:=by
 rw [h,← hs,Nat.pow_succ,Nat.mul_add,Nat.mul_assoc,Nat.add_assoc]
theorem m0k {n:Nat} (ha:Lim H v a) (hf:fl≤H.size) (hna:a.length < 1073741824) (hn:n < 32) :
  a0P env fl w0m [v,.int .i64 (n:Int)] H (fun r H'=>(∃ o,Lim H' r o∧a0D o=a0D a / 2 ^ n∧o.length=a.length)∧Ext H H') R:=by
 refine a0l V0G hf (h:=?_)
 intro ρ h0
 simp only [I0w]
 have hm:=f0p (bytes:=4) (k:=.i64) (k':=.i64) (l:=a.length) (c:=a.length) (Nat.le_refl _) (by omega) (by omega)
 simp [D0t,D0u,D0v,h0,ha.slen,hm]
 generalize hPd:H.size=P
 generalize hSL:Value.slice (some ⟨P,0,none⟩) a.length a.length=SL
 refine b0Y (fun k t G'=>∃ i o,i + k=a.length∧t.length=44∧get t 0=v∧get t 1=.int .i64 (n:Int)∧get t 5=SL∧get t 12=.int .i64 a.length∧get t 13=.int .i64 ((i:Nat):Int) ∧
   Ext H G'∧a0f.blk G' P=.row false a0m (d0b o)∧o.length=a.length∧b0D o∧a0D (o.take i) + 4294967296 ^ i * (a0D (a.drop i) / 2 ^ n)=a0D a / 2 ^ n)
  (fun t G'=>∃ o,t.length=44∧get t 5=SL ∧
   Ext H G'∧a0f.blk G' P=.row false a0m (d0b o)∧o.length=a.length∧b0D o∧a0D o=a0D a / 2 ^ n) a.length ?_ ?_ ?_
 ·refine ⟨0,List.replicate a.length 0,by omega,by simp,by simp [h0],by simp [h0],by simp,by simp,by simp,Ext.push (Ext.refl _),?_,by simp,?_,by simp [a0D]⟩
  ·rw [← hPd,a0y]
   congr 1
   generalize a.length=n
   induction n with
   | zero=>rfl
   | succ n ih=>rw [f0e,ih];rfl
  ·intro z hz;rw [List.mem_replicate] at hz;omega
 ·clear h0 ρ hm
  rintro k t G' ⟨i,o,hik,ht,g0,g1,g5,g12,g13,hx2,hb,hol,hok,hs⟩
  obtain ⟨ρ,rfl⟩:=toT ht
  simp only [b0Z,Nat.reduceLT] at g0 g1 g5 g12 g13
  by_cases hi:i < a.length
  ·have hla:=ha.load hi hx2
   have hia:=ha.ia (k:=.i64) hi
   have hA2:=f0W hi
   have hA3:a.getD i 0 < 4294967296:=ha.2 _ (by rw [List.getD_eq_getElem?_getD,List.getElem?_eq_getElem hi];exact List.getElem_mem hi)
   generalize a.getD i 0=A at hla hA2 hA3
   have hlo:i < o.length:=by omega
   obtain ⟨hio,hro⟩:=j0k (k:=.i64) (cap:=a.length) hb hlo hol
   rw [hSL] at hio
   have eA:IntKind.u64.wrap (A:Int)=(A:Int):=by rw [a0J];omega
   have e9:IntKind.i64.wrap ((i:Int) + 1)=((i + 1:Nat):Int):=by rw [a0L (by omega) (by omega)];omega
   by_cases hi1:i + 1 < a.length
   ·have hla1:=ha.load hi1 hx2
    have hia1:=ha.ia (k:=.i64) hi1
    have hN:=f0W hi1
    have hA13:a.getD (i + 1) 0 < 4294967296:=ha.2 _ (by rw [List.getD_eq_getElem?_getD,List.getElem?_eq_getElem hi1];exact List.getElem_mem hi1)
    generalize a.getD (i + 1) 0=A1 at hla1 hN hA13
    have eA1:IntKind.u64.wrap (A1:Int)=(A1:Int):=by rw [a0J];omega
    have s1:d0y 0 .shl (.int .u64 (A1:Int)) (.int .u64 32)=some (.int .u64 ((A1 * 4294967296:Nat):Int)):=by
     have:=F0j (tag:=0) (n:=A1) (s:=32) (k':=.u64) (by omega)
     rw [show A1 * 2 ^ 32 % 18446744073709551616=A1 * 4294967296 by omega] at this;exact this
    have s2:=R0k (tag:=0) (a:=A) (b:=A1 * 4294967296) (by omega) (by omega)
    rw [show A ||| A1 * 4294967296=A + A1 * 4294967296 from p0s (s:=32) hA3] at s2
    have s3:=O0O (tag:=0) (n:=A + A1 * 4294967296) (s:=n) (k':=.i64) (by omega)
    simp [-Int.natCast_add,-Int.natCast_mul,-Int.natCast_pow,-Int.natCast_ediv,n0e,q0y,q0z,q0A,q0B,q0C,q0D,g0,g1,g5,g12,g13,hi,hi1,hia,hla,hia1,hla1,eA,eA1,e9,s1,s2,s3,ha.slen,hio]
    refine (a0r (by have:=hx2.1;omega)).mono ?_
    rintro _ G3 ⟨rfl,hx3⟩
    replace hb:=hx3.blk hb
    have hxx:=hx2.trans hx3
    have hPl:=a0k hb
    have hle:i + 1≤o.length:=hlo
    have hbl:=n0v hn hA3 hN
    simp [-Int.natCast_emod,-Int.natCast_ediv,-Int.natCast_add,hb,hle]
    have hz:(A + A1 * 4294967296) / 2 ^ n % 4294967296 < 4294967296:=Nat.mod_lt _ (by omega)
    rw [hA2,hbl] at hs
    generalize (A + A1 * 4294967296) / 2 ^ n % 4294967296=z at hs hz ⊢
    have hset:a0D (List.take (i + 1) (o.set i z))=a0D (List.take i o) + 4294967296 ^ i * z:=h0t hlo
    refine ⟨k - 1,by omega,i + 1,by omega,rfl,hxx.set (by omega),o.set i z,by rw [a0R hPl,d0x],by simp [hol],d0U hok hz,?_⟩
    exact r0h hset hs
   ·obtain ⟨A1,hA1⟩:∃ x:Nat,x=0:=⟨0,rfl⟩
    have hN:a0D (List.drop (i + 1) a)=A1 + 4294967296 * 0:=by rw [List.drop_eq_nil_of_le (by omega),hA1];simp [a0D]
    have s3:d0y 0 .shr (.int .u64 (A:Int)) (.int .i64 (n:Int))=some (.int .u64 (((A + A1 * 4294967296) / 2 ^ n:Nat):Int)):=by
     rw [O0O (by omega),show A + A1 * 4294967296=A by rw [hA1];omega]
    clear hA1
    simp [-Int.natCast_add,-Int.natCast_mul,-Int.natCast_pow,-Int.natCast_ediv,n0e,q0y,q0z,q0A,q0B,q0C,q0D,g0,g1,g5,g12,g13,hi,hi1,hia,hla,eA,e9,s3,ha.slen,hio]
    refine (a0r (by have:=hx2.1;omega)).mono ?_
    rintro _ G3 ⟨rfl,hx3⟩
    replace hb:=hx3.blk hb
    have hxx:=hx2.trans hx3
    have hPl:=a0k hb
    have hle:i + 1≤o.length:=hlo
    have hbl:=n0v hn hA3 hN
    simp [-Int.natCast_emod,-Int.natCast_ediv,-Int.natCast_add,hb,hle]
    have hz:(A + A1 * 4294967296) / 2 ^ n % 4294967296 < 4294967296:=Nat.mod_lt _ (by omega)
    rw [hA2,hbl] at hs
    generalize (A + A1 * 4294967296) / 2 ^ n % 4294967296=z at hs hz ⊢
    have hset:a0D (List.take (i + 1) (o.set i z))=a0D (List.take i o) + 4294967296 ^ i * z:=h0t hlo
    refine ⟨k - 1,by omega,i + 1,by omega,rfl,hxx.set (by omega),o.set i z,by rw [a0R hPl,d0x],by simp [hol],d0U hok hz,?_⟩
    exact r0h hset hs
  ·simp [n0e,g0,g1,g5,g12,g13,hi]
   have:i=a.length:=by omega
   subst this
   refine ⟨hx2,o,hb,hol,hok,?_⟩
   rw [List.take_of_length_le (by omega),List.drop_eq_nil_of_le (Nat.le_refl _)] at hs
   simpa [a0D] using hs
 ·clear h0 ρ hm
  rintro t G' ⟨o,ht,g5,hx2,hb,hol,hok,hs⟩
  obtain ⟨ρ,rfl⟩:=toT ht
  simp only [b0Z,Nat.reduceLT] at g5
  have hy:Lim G' SL o:=by
   rw [← hSL,← hol]
   exact ⟨(Own.mk (fl:=0) hb (by simp) (Nat.zero_le _)).sl,hok⟩
  simp [t0v,g5]
  exact fun _=>⟨o,hy,hs,hol⟩
end
end Go.Proofs.YtjlohmnnldbjoaaGreat.AI
