/- Part 5 of the proof. -/
import Derived.Test.YtacninhfdfhgjaaGreatM03
set_option linter.unusedVariables false
set_option linter.unusedSimpArgs false
set_option linter.unusedSectionVars false
namespace Go.Proofs.YtacninhfdfhgjaaGreat.AI
section
open Go
section
variable {k:IntKind} {a b:Int} {tag:Nat}
@[simp] theorem w0m:b0X tag .add (.int k a) (.int k b)=some (.int k (k.wrap (a + b))):=by unfold b0X;simp
@[simp] theorem L0u:b0X tag .sub (.int k a) (.int k b)=some (.int k (k.wrap (a - b))):=by unfold b0X;simp
@[simp] theorem L0s:b0X tag .mul (.int k a) (.int k b)=some (.int k (k.wrap (a * b))):=by unfold b0X;simp
theorem w0p (h:b ≠ 0):b0X tag .quo (.int k a) (.int k b)=some (.int k (k.wrap (a.tdiv b))):=by unfold b0X;simp [h]
theorem w0q (h:b ≠ 0):b0X tag .rem (.int k a) (.int k b)=some (.int k (a.tmod b)):=by unfold b0X;simp [h]
@[simp] theorem w0n:b0X tag .and (.int k a) (.int k b)=some (.int k (k.wrap (BitVec.ofInt k.bits a &&& BitVec.ofInt k.bits b).toNat)):=by unfold b0X;simp
@[simp] theorem h0d:b0X tag .or (.int k a) (.int k b)=some (.int k (k.wrap (BitVec.ofInt k.bits a ||| BitVec.ofInt k.bits b).toNat)):=by unfold b0X;simp
@[simp] theorem L0o:b0X tag .eql (.int k a) (.int k b)=some (.bool (a == b)):=by unfold b0X;simp
@[simp] theorem L0t:b0X tag .neq (.int k a) (.int k b)=some (.bool (a != b)):=by unfold b0X;simp
@[simp] theorem w0o:b0X tag .lss (.int k a) (.int k b)=some (.bool (decide (a < b))):=by unfold b0X;simp
@[simp] theorem L0r:b0X tag .leq (.int k a) (.int k b)=some (.bool (decide (a≤b))):=by unfold b0X;simp
@[simp] theorem L0q:b0X tag .gtr (.int k a) (.int k b)=some (.bool (decide (a > b))):=by unfold b0X;simp
@[simp] theorem L0p:b0X tag .geq (.int k a) (.int k b)=some (.bool (decide (a ≥ b))):=by unfold b0X;simp
@[simp] theorem H0G {x y:Bool}:b0X 1 .eql (.bool x) (.bool y)=some (.bool (x == y)):=by unfold b0X;simp
@[simp] theorem H0I {x y:Bool}:b0X 1 .neq (.bool x) (.bool y)=some (.bool (x != y)):=by unfold b0X;simp
@[simp] theorem H0H {x:Option Addr} {n c n2 c2:Nat}:b0X 2 .eql (.slice x n c) (.slice none n2 c2)=some (.bool x.isNone):=nr rfl
@[simp] theorem H0J {x:Option Addr} {n c n2 c2:Nat}:b0X 2 .neq (.slice x n c) (.slice none n2 c2)=some (.bool x.isSome):=nr rfl
theorem o0h {k':IntKind} (h:0≤b):b0X tag .shl (.int k a) (.int k' b)=some (.int k (k.wrap (a * 2 ^ (min b.toNat k.bits)))):=by unfold b0X;simp [h]
theorem i0f {k':IntKind} (h:0≤b):b0X tag .shr (.int k a) (.int k' b)=some (.int k (a.fdiv (2 ^ (min b.toNat k.bits)))):=by unfold b0X;simp [h]
theorem w0C {n m:Nat}:((n:Int).fdiv (m:Int))=((n / m:Nat):Int):=by
 rw [Int.fdiv_eq_ediv_of_nonneg _ (by omega)];rfl
@[simp] theorem Q0P {n:Nat} {k':IntKind}:b0X tag .shr (.int .u64 (n:Int)) (.int k' 32)=some (.int .u64 ((n / 4294967296:Nat):Int)):=by
 rw [i0f (by omega)];exact T0f (fun x=>some (Value.int .u64 x)) (w0C (n:=n) (m:=4294967296))
@[simp] theorem Q0Q {n:Nat} {k':IntKind}:b0X tag .shr (.int .u64 (n:Int)) (.int k' 63)=some (.int .u64 ((n / 9223372036854775808:Nat):Int)):=by
 rw [i0f (by omega)];exact T0f (fun x=>some (Value.int .u64 x)) (w0C (n:=n) (m:=9223372036854775808))
@[simp] theorem O0O:unA .neg (.int k a)=some (.int k (k.wrap (0 - a))):=nr rfl
@[simp] theorem O0P {x:Bool}:unA .not (.bool x)=some (.bool !x):=nr rfl
end
@[simp] theorem w0v {a b:Nat}:((a:Int) == (b:Int))=(a == b):=by
 rw [S0s,beq_iff_eq,beq_iff_eq];omega
@[simp] theorem L0z {a b:Nat}:((a:Int) != (b:Int))=(a != b):=by simp only [bne,w0v]
@[simp] theorem q0q {a:Nat}:((a:Int) == 0)=(a == 0):=by
 rw [S0s,beq_iff_eq,beq_iff_eq];omega
@[simp] theorem H0N {a:Nat}:((a:Int) != 0)=(a != 0):=by simp only [bne,q0q]
@[simp] theorem H0O {a:Array Value}:a0M (.agg a)=a.toList:=nr rfl
@[simp] theorem H0P {k:IntKind} {n:Int}:a0M (.int k n)=[.int k n]:=nr rfl
@[simp] theorem G0M {b:Bool}:a0M (.bool b)=[.bool b]:=nr rfl
@[simp] theorem F0s {a:Option Addr} {n c:Nat}:a0M (.slice a n c)=[.slice a n c]:=nr rfl
@[simp] theorem H0Q {a:Option Addr}:a0M (.pointer a)=[.pointer a]:=nr rfl
@[simp] theorem J0f {k:IntKind} {n:Int}:a0B (.int k n)=true:=nr rfl
@[simp] theorem H0k {b:Bool}:a0B (.bool b)=true:=nr rfl
@[simp] theorem F0Q {a:Option Addr} {n c:Nat}:a0B (.slice a n c)=true:=nr rfl
@[simp] theorem J0g {a:Option Addr}:a0B (.pointer a)=true:=nr rfl
@[simp] theorem L0w {d:Nat}:bnd d none=some d:=nr rfl
@[simp] theorem F0p {d n:Nat} {k:IntKind}:bnd d (some (.int k (n:Int)))=some n:=by simp [bnd]
@[simp] theorem O0Z {n:Nat}:n + 1 + 1=n + 2:=by omega
@[simp] theorem P0a {n:Nat}:n + 2 + 1=n + 3:=by omega
@[simp] theorem P0b {n:Nat}:n + 3 + 1=n + 4:=by omega
@[simp] theorem P0c {n:Nat}:n + 4 + 1=n + 5:=by omega
@[simp] theorem P0d {n:Nat}:n + 5 + 1=n + 6:=by omega
@[simp] theorem N0u {n:Nat}:n + 1 + 2=n + 3:=by omega
@[simp] theorem N0v {n:Nat}:n + 1 + 3=n + 4:=by omega
@[simp] theorem N0w {n:Nat}:n + 1 + 4=n + 5:=by omega
@[simp] theorem N0x {n:Nat}:n + 1 + 5=n + 6:=by omega
@[simp] theorem N0y {n:Nat}:n + 1 + 6=n + 7:=by omega
@[simp] theorem N0z {n:Nat}:n + 2 + 2=n + 4:=by omega
@[simp] theorem N0A {n:Nat}:n + 2 + 3=n + 5:=by omega
@[simp] theorem N0B {n:Nat}:n + 2 + 4=n + 6:=by omega
@[simp] theorem N0C {n:Nat}:n + 2 + 5=n + 7:=by omega
@[simp] theorem N0D {n:Nat}:n + 2 + 6=n + 8:=by omega
@[simp] theorem N0E {n:Nat}:n + 3 + 2=n + 5:=by omega
@[simp] theorem N0F {n:Nat}:n + 3 + 3=n + 6:=by omega
@[simp] theorem N0G {n:Nat}:n + 3 + 4=n + 7:=by omega
@[simp] theorem N0H {n:Nat}:n + 3 + 5=n + 8:=by omega
@[simp] theorem N0I {n:Nat}:n + 3 + 6=n + 9:=by omega
@[simp] theorem N0J {n:Nat}:n + 4 + 2=n + 6:=by omega
@[simp] theorem N0K {n:Nat}:n + 4 + 3=n + 7:=by omega
@[simp] theorem N0L {n:Nat}:n + 4 + 4=n + 8:=by omega
@[simp] theorem N0M {n:Nat}:n + 4 + 5=n + 9:=by omega
@[simp] theorem N0N {n:Nat}:n + 4 + 6=n + 10:=by omega
@[simp] theorem N0O {n:Nat}:n + 5 + 2=n + 7:=by omega
@[simp] theorem N0P {n:Nat}:n + 5 + 3=n + 8:=by omega
@[simp] theorem N0Q {n:Nat}:n + 5 + 4=n + 9:=by omega
@[simp] theorem N0R {n:Nat}:n + 5 + 5=n + 10:=by omega
@[simp] theorem N0S {n:Nat}:n + 5 + 6=n + 11:=by omega
@[simp] theorem N0T {n:Nat}:n + 6 + 1=n + 7:=by omega
@[simp] theorem N0U {n:Nat}:n + 6 + 2=n + 8:=by omega
@[simp] theorem N0V {n:Nat}:n + 6 + 3=n + 9:=by omega
@[simp] theorem N0W {n:Nat}:n + 6 + 4=n + 10:=by omega
@[simp] theorem N0X {n:Nat}:n + 6 + 5=n + 11:=by omega
@[simp] theorem N0Y {n:Nat}:n + 6 + 6=n + 12:=by omega
def p0X (w:Bool):Value→Bool
 | .bool b=>b == w
 | _=>false
@[simp] theorem H0m {w b:Bool}:p0X w (.bool b)=(b == w):=nr rfl
@[simp ↓] theorem Q0S {E:Env} {fl:Nat} {t:a0Q} {H:a0c} {R:a0E} {d:Option Nat} {op:SOp} {r:List a0w} {Z:a0Q→a0c→Prop} {j:Nat} {w:Bool} :
  WR E fl (⟨d,some (j,w),op⟩ :: r) t H Z R=if p0X w (get t j)=true then WS E fl t H op (fun v H'=>WR E fl r (put t d v) H' Z R) R else WR E fl r (put t d undef) H Z R:=by
 have h:b0d t (some (j,w))=p0X w (get t j):=by
  simp only [b0d]
  generalize get t j=v
  cases v <;> rfl
 show (if b0d t (some (j,w))=true then _ else _)=_
 rw [h]
attribute [simp ↓] H0z F0g q0l N0s F0c H0w H0t F0a w0h F0e N0p H0u N0o H0v w0g F0f w0e F0d H0y N0r w0d H0r H0x N0q w0i H0q F0b q0k m0y
attribute [simp ↓] o0f F0l F0k H0C F0j w0j H0B
attribute [simp] x0a v0F x0b p0N w0Z v0E p0R a0r a0L
attribute [simp] F0R I0N G0F
attribute [simp] a0u c0q q0W p0y Ext.refl Ext.push Ext.set f0x b0a b0Q a0V
attribute [simp low] a0y
attribute [congr] w0c p0i F0h w0f w0P
def k0v (i:Nat) (A M:a0Q→a0c→Prop) (Q:c0S):c0S
 | .normal,t,H=>A t H
 | .exit j,t,H=>if j=i then M t H else Q (.exit j) t H
 | .ret,t,H=>Q .ret t H
section
variable {E:Env} {fl:Nat} {t:a0Q} {H:a0c} {Q:c0S} {R:a0E}
@[simp] theorem y0a {i:Nat} {A M:a0Q→a0c→Prop}:k0v i A M Q .normal t H=A t H:=nr rfl
@[simp] theorem H0i {i j:Nat} {A M:a0Q→a0c→Prop}:k0v i A M Q (.exit j) t H=if j=i then M t H else Q (.exit j) t H:=nr rfl
@[simp] theorem I0Y {i:Nat} {A M:a0Q→a0c→Prop}:k0v i A M Q .ret t H=Q .ret t H:=nr rfl
theorem H0A {a:SCode} {Z:a0Q→a0c→Prop} (M:a0Q→a0c→Prop) (h:W E fl a t H (f0L M Q) R) (hz:∀ t H,M t H→Z t H):W E fl a t H (f0L Z Q) R:=by
 refine h.mono fun e t' H' hq=>?_
 cases e with
 | normal=>exact hz _ _ hq
 | exit i=>exact hq
 | ret=>exact hq
theorem b0A {c:SCode} {i:Nat} {Z:a0Q→a0c→Prop} (I:Nat→a0Q→a0c→Prop) (M:a0Q→a0c→Prop) (k:Nat) (hI:I k t H)
  (step:∀ k t H,I k t H→W E fl c t H (k0v i (fun t' H'=>∃ k',k' < k∧I k' t' H') M Q) R)
  (rest:∀ t H,M t H→Z t H):W E fl (.loop c) t H (d0w i (f0L Z Q)) R:=by
 refine x0Q I (fun k t H h=>(step k t H h).mono fun e t' H' hq=>?_) k hI
 cases e with
 | normal=>exact hq
 | ret=>exact hq
 | exit j =>
  simp only [k0v] at hq
  simp only [f0L,d0w]
  split
  ·rename_i hj;rw [R0k hj] at hq;exact rest _ _ hq
  ·rename_i hj;rw [R0c hj] at hq;exact hq
end
end
section
open Go
variable {fl:Nat} {H G:a0c} {e e2 sz n m bytes:Nat} {s x:Value} {cs new:List Value}
def slB:Value→Option Nat
 | .slice (some p) _ _=>some p.block
 | _=>none
def Own (fl:Nat) (H:a0c) (e sz:Nat) (v:Value) (n:Nat) (cs:List Value):Prop :=
 cs.length=n * sz∧((v=.slice none 0 0∧n=0) ∨ ∃ b cap,v=.slice (some ⟨b,0,none⟩) n cap∧H.blk b=.row false e cs∧fl≤b)
theorem Own.nil:Own fl H e sz (.slice none 0 0) 0 []:=⟨by simp,.inl ⟨rfl,rfl⟩⟩
theorem Own.mk {b cap:Nat} (hb:H.blk b=.row false e cs) (hl:cs.length=n * sz) (hf:fl≤b):Own fl H e sz (.slice (some ⟨b,0,none⟩) n cap) n cs:=⟨hl,.inr ⟨b,cap,rfl,hb,hf⟩⟩
theorem Own.sl (h:Own fl H e sz s n cs):Sl H e sz s n cs:=by
 obtain ⟨hl,h | ⟨b,cap,rfl,hb,hf⟩⟩:=h
 ·exact ⟨hl,.inl h⟩
 ·exact ⟨hl,.inr ⟨b,0,cap,false,cs,rfl,hb,by omega,by rw [S0j,← hl,Q0Z]⟩⟩
theorem Own.mono (h:Own fl H e sz s n cs) (hx:Ext H G):Own fl G e sz s n cs:=by
 obtain ⟨hl,h | ⟨b,cap,rfl,hb,hf⟩⟩:=h
 ·exact ⟨hl,.inl h⟩
 ·exact ⟨hl,.inr ⟨b,cap,rfl,hx.blk hb,hf⟩⟩
def d0Z (o:Option Nat) (H G:a0c):Prop:=H.size≤G.size∧∀ b,b < H.size→o ≠ some b→G.blk b=H.blk b
theorem Ext.extB {o:Option Nat} (h:Ext H G):d0Z o H G:=⟨h.1,fun b hb _=>h.2 b hb⟩
theorem i0r (ho:Own fl G e sz s n cs) (hx:Sl G e2 sz x m new) (hp:new.all a0B=true) (hn:n + m≤1073741824) (hb:bytes≤1024) (hs:0 < sz) (hfl:fl≤G.size) :
  ∃ v' G',j0u fl G e sz bytes s x=some (v',G')∧Own fl G' e sz v' (n + m) (cs ++ new)∧d0Z (slB s) G G'∧(∀ H0,H0.size≤fl→Ext H0 G→Ext H0 G'):=by
 obtain ⟨hxl,hx⟩:=hx
 have hol:=ho.1
 by_cases hm:m=0
 ·subst hm
  have hnew:new=[]:=R0x.1 (by omega)
  subst hnew
  refine ⟨s,G,?_,by simpa using ho,(Ext.refl G).extB,fun _ _ h=>h⟩
  rcases hx with ⟨rfl,_⟩ | ⟨b,off,cap,ro,cells,rfl,_⟩ <;> rcases ho.2 with ⟨rfl,rfl⟩ | ⟨b',cap',rfl,_⟩ <;> simp [j0u]
 ·rcases hx with ⟨_,h0⟩ | ⟨b,off,cap,ro,cells,rfl,hbk,ho1,ho2⟩
  ·exact R0q h0 hm
  have hc:=f0m hbk ho1
  rw [← ho2] at hc
  rcases ho.2 with ⟨rfl,rfl⟩ | ⟨b',cap',rfl,hb',hf'⟩
  ·have hcs:cs=[]:=R0x.1 (by omega)
   subst hcs
   refine ⟨.slice (some ⟨G.size,0,none⟩) m unk,G.push (.row false e new),?_,?_,(Ext.push (Ext.refl G)).extB,fun _ _ h=>h.push⟩
   ·unfold j0u
    simp only
    rw [R0c hm,R0k ⟨by omega,hb,hs⟩]
    simp only [hc,hp,Bool.true_eq_false,R0K]
    rw [R0k ⟨by trivial,by trivial⟩]
   ·rw [R0B];exact Own.mk a0u (by simpa using hxl) hfl
  ·have hb'l:=a0k hb'
   have hc2:G.cells? b' 0 (n * sz)=some cs:=by
    rw [f0m hb' (by omega),S0j,← hol,Q0Z]
   by_cases hcap:cap' ≠ unk∧cap' < n + m
   ·refine ⟨.slice (some ⟨G.size,0,none⟩) (n + m) unk,G.push (.row false e (cs ++ new)),?_,?_,(Ext.push (Ext.refl G)).extB,fun _ _ h=>h.push⟩
    ·unfold j0u
     simp only
     rw [R0c hm,R0k ⟨by omega,hb,hs⟩]
     simp only [hc,hp,Bool.true_eq_false,R0K,hc2]
     by_cases h00:n=0∧cap' = 0
     ·rw [R0k h00]
      have hcs:cs=[]:=R0x.1 (by rw [hol,h00.1];simp)
      rw [hcs,h00.1];simp
     ·rw [R0c h00,R0k hcap]
    ·exact Own.mk a0u (by rw [R0A,hol,hxl,R0o]) hfl
   ·refine ⟨.slice (some ⟨G.size,0,none⟩) (n + m) unk,(G.setIfInBounds b' .dead).push (.row false e (cs ++ new)),?_,?_,?_,?_⟩
    ·unfold j0u
     simp only
     rw [R0c hm,R0k ⟨by omega,hb,hs⟩]
     simp only [hc,hp,Bool.true_eq_false,R0K,hc2]
     rw [R0c (fun h00:n=0∧cap' = 0=>hcap ⟨by rw [h00.2];decide,by omega⟩),R0c hcap]
     simp only [hb']
     rw [R0k ⟨trivial,hf'⟩]
    ·exact Own.mk (by rw [a0y];simp) (by rw [R0A,hol,hxl,R0o]) hfl
    ·refine ⟨by simp,fun c hc hne=>?_⟩
     have:b' ≠ c:=fun h=>hne (by simp [slB,h])
     rw [c0q (by simpa using hc),a0L this]
    ·intro H0 h1 h2
     exact (h2.set (by omega)).push
theorem c0E {c:Nat} (ho:Own fl G e sz s n cs) (hl:new.length=sz) (hp:new.all a0B=true) (hn:n < 1073741824) (hb:bytes≤1024) (hs:0 < sz) (hfl:fl≤G.size) :
  ∃ v' G',j0u fl (G.push (.row false e2 new)) e sz bytes s (.slice (some ⟨G.size,0,none⟩) 1 c)=some (v',G')∧Own fl G' e sz v' (n + 1) (cs ++ new)∧d0Z (slB s) G G'∧(∀ H0,H0.size≤fl→Ext H0 G→Ext H0 G'):=by
 have hx:Sl (G.push (.row false e2 new)) e2 sz (.slice (some ⟨G.size,0,none⟩) 1 c) 1 new:=(Own.mk (fl:=0) a0u (by omega) (R0H _)).sl
 obtain ⟨v',G',h1,h2,h3,h4⟩:=i0r (ho.mono (Ext.push (Ext.refl G))) hx hp (by omega) hb hs (bytes:=bytes) (by simp;omega)
 refine ⟨v',G',h1,h2,⟨?_,fun b hb hne=>?_⟩,fun H0 k1 k2=>h4 H0 k1 k2.push⟩
 ·have:=h3.1;simp at this;omega
 ·rw [h3.2 b (by simp;omega) hne,c0q hb]
@[simp] theorem G0E {a b:List Nat}:b0r (a ++ b)=b0r a ++ b0r b:=by simp [b0r]
theorem h0k {l:List Nat}:(b0r l).all a0B=true:=by simp [b0r,a0B]
end
section
open Go
variable {fl:Nat} {H:a0c} {R:a0E} {v:Value} {i:Bool × List Nat}
def c0V (i:Bool × List Nat):Bool:=if i.2.length=0 then !i.1 else i.2.getD (i.2.length - 1) 0 != 0
theorem c0v (h:b0j H v i) (hf:fl≤H.size) (hn:i.2.length < 4611686018427387904) :
  a0N env fl v0Y [v] H (fun r H'=>r=.bool (c0V i)∧Ext H H') R:=by
 obtain ⟨s,rfl,hs⟩:=h
 refine a0d Q0g hf (h:=?_)
 intro ρ h0
 simp [M0F]
 simp [C0C,C0D,C0E,C0F,h0]
 simp (disch:=first | omega | assumption | (simp;done) | (repeat (first | assumption | exact Ext.refl _ | apply Ext.push | apply Ext.set))) [hs.slen,hs.iaZ,hs.load,a0S]
 refine ⟨fun h=>by simp [c0V,h],fun h=>?_⟩
 have hl:=List.length_pos_iff.2 h
 simp (disch:=first | omega | assumption | (simp;done) | (repeat (first | assumption | exact Ext.refl _ | apply Ext.push | apply Ext.set))) [hs.iaZ,hs.load,c0V,h]
def d0o (i:Bool × List Nat):List Nat:=if c0V i then i.2 else []
theorem j0z (h:b0j H v i) (hf:fl≤H.size) (hn:i.2.length < 4611686018427387904) :
  a0N env fl l0s [v] H (fun r H'=>Lim H' r (d0o i)∧Ext H H') R:=by
 obtain ⟨s,rfl,hs⟩:=h
 refine a0d Q0y hf (h:=?_)
 intro ρ h0
 simp [M0X]
 simp [D0R,D0S,D0T,D0U,h0]
 refine (c0v ⟨s,rfl,hs.mono (by simp)⟩ (by simp) hn).mono ?_
 rintro _ G ⟨rfl,hx⟩
 simp [hx.2,d0o]
 exact ⟨fun h _=>by simp [h,Lim.nil],fun h hx=>by simp [h,hs.mono hx]⟩
def J0c (i:Bool × List Nat):Bool:=c0V i && i.1
theorem l0T (h:b0j H v i) (hf:fl≤H.size) (hn:i.2.length < 4611686018427387904) :
  a0N env fl h0X [v] H (fun r H'=>r=.bool (J0c i)∧Ext H H') R:=by
 obtain ⟨s,rfl,hs⟩:=h
 refine a0d Q0w hf (h:=?_)
 intro ρ h0
 simp [M0V]
 simp [D0H,D0I,h0]
 refine (c0v ⟨s,rfl,hs.mono (by simp)⟩ (by simp) hn).mono ?_
 rintro _ G ⟨rfl,hx⟩
 cases hm:c0V i <;> simp [hx.2,J0c,h0,hm]
theorem a0g {x:Nat} (hf:fl≤H.size) :
  a0N env fl k0p [.int .u64 x] H (fun r H'=>r=.int .u32 ((x % 4294967296:Nat):Int)∧Ext H H') R:=by
 refine a0d Q0z hf (h:=?_)
 intro ρ h0
 simp [M0Y]
 simp [D0V,D0W,h0,d0t]
def e0C (a b:Int):Int:=if a < b then -1 else if a > b then 1 else 0
theorem g0D {a b:Int} (hf:fl≤H.size) :
  a0N env fl q0y [.int .i64 a,.int .i64 b] H (fun r H'=>r=.int .i64 (e0C a b)∧Ext H H') R:=by
 refine a0d O0g hf (h:=?_)
 intro ρ h0
 simp [x0i]
 simp [s0f,s0g,s0h,s0i,s0j,s0k,h0,e0C]
 refine ⟨fun h1 h2=>?_,fun h1=>⟨fun h2=>?_,fun h2=>?_⟩⟩ <;> (repeat' split) <;> omega
theorem e0U {a b:Int} (hf:fl≤H.size) :
  a0N env fl q0z [.int .u32 a,.int .u32 b] H (fun r H'=>r=.int .i64 (e0C a b)∧Ext H H') R:=by
 refine a0d O0h hf (h:=?_)
 intro ρ h0
 simp [x0j]
 simp [s0l,s0m,s0n,s0o,s0p,s0q,h0,e0C]
 refine ⟨fun h1 h2=>?_,fun h1=>⟨fun h2=>?_,fun h2=>?_⟩⟩ <;> (repeat' split) <;> omega
theorem p0h {l:List Nat} (h:Lim H v l) (hf:fl≤H.size) (hn:l.length≤1073741824) :
  a0N env fl q0A [v] H (fun r H'=>Lim H' r l∧Ext H H') R:=by
 refine a0d O0i hf (h:=?_)
 intro ρ h0
 simp [x0k]
 simp [s0r,s0s,s0t,s0u,h0]
 have hd:=h
 obtain ⟨⟨hl,⟨rfl,h2⟩ | ⟨b,off,cap,ro,cells,rfl,hb,ho,hcs⟩⟩,hx⟩:=h
 ·have:l=[]:=R0x.1 h2
  subst this
  simp [Lim.nil]
 ·simp
  have ho2:Own H.size (H.push (.row false a0b [])) a0b 1 (.slice (some ⟨H.size,0,none⟩) 0 0) 0 []:=Own.mk a0u (by simp) (Q0W _)
  obtain ⟨v',G',h1,h2,h3,h4⟩:=i0r (bytes:=4) ho2 ((hd.mono (Ext.push (Ext.refl H))).1) h0k (by omega) (by omega) (by omega) (by simp)
  simp only [R0B,S0O] at h2
  simp [h1]
  exact fun _=>⟨h2.sl,hx⟩
end
section
open Go
variable {fl:Nat} {H:a0c} {R:a0E} {v:Value} {i:Bool × List Nat} {l:List Nat}
def c0t (l:List Nat):List Nat:=(l.reverse.dropWhile (· == 0)).reverse
theorem m0r:c0t []=[]:=rfl
theorem j0m:c0t (l ++ [0])=c0t l:=by simp [c0t]
theorem h0x {x:Nat} (h:x ≠ 0):c0t (l ++ [x])=l ++ [x]:=by simp [c0t,h]
def mkI (neg:Bool) (l:List Nat):Bool × List Nat:=if c0t l=[] then (false,[]) else (neg,c0t l)
theorem c0Q {n:Nat} (h:n < l.length):l.take (n + 1)=l.take n ++ [l.getD n 0]:=by
 rw [List.take_add_one,R0a h,Q0T,R0a h];rfl
theorem k0A {b:Bool} (h:Lim H v l) (hf:fl≤H.size) (hn:l.length≤1073741824) :
  a0N env fl l0t [.bool b,v] H (fun r H'=>b0j H' r (mkI b l)∧Ext H H') R:=by
 refine a0d Q0A hf (h:=?_)
 intro ρ h0
 simp [M0Z]
 simp [D0X,D0Y,h0,h.slen]
 refine b0A (fun k t G=>G=H.push (.row false a0a [.bool false,.slice none 0 0])∧t.length=29∧get t 0=.bool b∧get t 1=v∧get t 4=.pointer (some ⟨H.size,0,none⟩) ∧
   get t 5=.int .i64 k∧k≤l.length∧c0t (l.take k)=c0t l)
  (fun t G=>∃ k:Nat,G=H.push (.row false a0a [.bool false,.slice none 0 0])∧t.length=29∧get t 0=.bool b∧get t 1=v∧get t 4=.pointer (some ⟨H.size,0,none⟩) ∧
   get t 5=.int .i64 k∧k≤l.length∧c0t l=l.take k) l.length (by simp [h0]) ?_ ?_
 ·rintro k t G ⟨rfl,ht,g0,g1,g4,g5,hk,htr⟩
  obtain ⟨ρ,rfl⟩:=toT ht
  simp only [b0o,Nat.reduceLT] at g0 g1 g4 g5
  by_cases hk0:k=0
  ·subst hk0
   simp [v0w,g0,g1,g4,g5]
   exact ⟨0,by simp,by simp,by rw [← htr];rfl⟩
  ·have hp:0 < k:=by omega
   have w1:IntKind.i64.wrap ((k:Int) - 1)=((k - 1:Nat):Int):=by rw [a0S (by omega) (by omega)];omega
   simp [v0w,D0Z,g0,g1,g4,g5,hp,w1,h.ia (show k - 1 < l.length by omega),h.load (show k - 1 < l.length by omega)]
   have hk1:l.take k=l.take (k - 1) ++ [l.getD (k - 1) 0]:=by rw [← c0Q (by omega)];congr 1;omega
   rw [Q0T] at hk1
   refine ⟨fun hz=>⟨k - 1,by omega,rfl,by omega,?_⟩,fun hz=>⟨k,rfl,hk,?_⟩⟩
   ·rw [← htr,hk1,hz,j0m]
   ·rw [← htr,hk1,h0x hz]
 ·rintro t G ⟨k,rfl,ht,g0,g1,g4,g5,hk,htr⟩
  obtain ⟨ρ,rfl⟩:=toT ht
  simp only [b0o,Nat.reduceLT] at g0 g1 g4 g5
  obtain ⟨v',h1,h2⟩:=h.take hk (x:=none) rfl (y:=some (.int .i64 (k:Int))) (by simp)
  simp [E0a,E0b,E0c,g0,g1,g4,g5,h.elemOk,h1]
  refine ⟨fun hk0=>⟨.slice none 0 0,by simp [mkI,htr,hk0],by simp [mkI,htr,hk0,Lim.nil]⟩,fun hk0=>?_⟩
  refine (p0h (h2.mono (by simp)) (by simp) (by simp;omega)).mono ?_
  rintro r G ⟨hr,hx⟩
  have hlt:H.size < G.size:=by have:=hx.1;simp at this;omega
  simp [hr.cells,hr.plain,hx.2,hlt]
  have hl0:l ≠ []:=by rintro rfl;exact hk0 (by simpa using hk)
  refine fun _=>⟨r,?_,?_⟩
  ·simp [mkI,htr,hk0,hl0]
  ·have:(mkI b l).2=l.take k:=by simp [mkI,htr,hk0,hl0]
   rw [this]
   exact hr.setT (by rw [hx.2 _ (by simp)];exact a0u) (by decide)
end
section
open Go
def a0l:List Nat→Nat
 | []=>0
 | x :: l=>x + 4294967296 * a0l l
def a0U (l:List Nat):Prop:=∀ x ∈ l,x < 4294967296
theorem e0h:∀ (a b:List Nat),a0l (a ++ b)=a0l a + 4294967296 ^ a.length * a0l b
 | [],b=>by simp [a0l]
 | x :: a,b=>by
  simp only [List.cons_append,a0l,e0h a b,R0Y,R0m]
  rw [R0b,← R0i,R0u (4294967296 ^ a.length) 4294967296,R0R]
theorem b0z (a:List Nat) (x:Nat):a0l (a ++ [x])=a0l a + 4294967296 ^ a.length * x:=by rw [e0h];simp [a0l]
theorem e0S:∀ (l:List Nat),a0U l→a0l l < 4294967296 ^ l.length
 | [],_=>by simp [a0l]
 | x :: l,h=>by
  have h1:=e0S l (fun y hy=>h y (S0D _ hy))
  have h2:=h x (T0b ..)
  simp only [a0l,R0Y,R0m]
  omega
theorem k0e (x:Nat) (l:List Nat):c0t (x :: l)=if c0t l=[]∧x=0 then [] else x :: c0t l:=by
 unfold c0t
 rw [List.reverse_cons,List.dropWhile_append]
 by_cases h:(List.dropWhile (fun x=>x == 0) l.reverse).isEmpty=true
 ·rw [R0k h]
  have h':List.dropWhile (fun x=>x == 0) l.reverse=[]:=by simpa using h
  rw [h']
  by_cases hx:x=0 <;> simp [hx]
 ·rw [R0c h]
  have h':List.dropWhile (fun x=>x == 0) l.reverse ≠ []:=by simpa using h
  rw [R0c (by simp [h'])]
  simp
theorem g0B:∀ (l:List Nat),a0l l=0 ↔ c0t l=[]
 | []=>by simp [a0l,m0r]
 | x :: l=>by
  rw [k0e]
  have:=g0B l
  by_cases h:c0t l=[]∧x=0
  ·rw [R0k h];have:=this.2 h.1;simp [a0l,this,h.2]
  ·rw [R0c h]
   simp only [a0l,reduceCtorEq,iff_false]
   intro h0
   exact h ⟨this.1 (by omega),by omega⟩
def a0e (n:Nat):List Nat:=if h:n=0 then [] else (n % 4294967296) :: a0e (n / 4294967296)
termination_by n
decreasing_by omega
theorem a0C:a0e 0=[]:=by unfold a0e;simp
theorem c0F {n:Nat} (h:n ≠ 0):a0e n=(n % 4294967296) :: a0e (n / 4294967296):=by rw [a0e];simp [h]
theorem b0n:∀ (l:List Nat),a0U l→c0t l=a0e (a0l l)
 | [],_=>by rw [m0r,a0l,a0C]
 | x :: l,h=>by
  have ih:=b0n l (fun y hy=>h y (S0D _ hy))
  have hx:=h x (T0b ..)
  rw [k0e]
  by_cases hc:c0t l=[]∧x=0
  ·rw [R0k hc]
   have:=(g0B l).2 hc.1
   rw [a0l,this,hc.2,a0C]
  ·rw [R0c hc]
   have hne:a0l (x :: l) ≠ 0:=by
    intro h0
    simp only [a0l] at h0
    exact hc ⟨(g0B l).1 (by omega),by omega⟩
   rw [c0F hne]
   have e1:a0l (x :: l) % 4294967296=x:=by simp only [a0l];omega
   have e2:a0l (x :: l) / 4294967296=a0l l:=by simp only [a0l];omega
   rw [e1,e2,ih]
theorem a0f (n:Nat):a0l (a0e n)=n:=by
 induction n using Nat.strongRecOn with
 | ind n ih =>
  by_cases h:n=0
  ·rw [h,a0C];rfl
  ·rw [c0F h,a0l,ih _ (by omega)];omega
theorem i0y (n:Nat):a0U (a0e n):=by
 induction n using Nat.strongRecOn with
 | ind n ih =>
  by_cases h:n=0
  ·rw [h,a0C];intro x hx;simp at hx
  ·rw [c0F h]
   intro x hx
   rcases List.mem_cons.1 hx with rfl | hx
   ·omega
   ·exact ih _ (by omega) x hx
theorem d0k {n k:Nat} (h:n < 4294967296 ^ k):(a0e n).length≤k:=by
 induction k generalizing n with
 | zero => have : n = 0 := by simpa using h
           rw [this,a0C];simp
 | succ k ih =>
  by_cases h0:n=0
  ·rw [h0,a0C];simp
  ·rw [c0F h0,R0Y]
   have:n / 4294967296 < 4294967296 ^ k:=by
    rw [S0l (by omega)];rw [R0m] at h;exact h
   have:=ih this
   omega
theorem d0q (n:Nat):n < 4294967296 ^ (a0e n).length:=by
 have:=e0S (a0e n) (i0y n)
 rwa [a0f] at this
theorem b0l {n:Nat}:a0e n=[] ↔ n=0:=by
 constructor
 ·intro h;rw [← a0f n,h];rfl
 ·rintro rfl;exact a0C
theorem i0x {n:Nat} (h:n ≠ 0):(a0e n).getD ((a0e n).length - 1) 0 ≠ 0:=by
 induction n using Nat.strongRecOn with
 | ind n ih =>
  rw [c0F h]
  by_cases h2:n / 4294967296=0
  ·rw [h2,a0C];simp;omega
  ·have:=ih (n / 4294967296) (by omega) h2
   have hl:(a0e (n / 4294967296)).length ≠ 0:=fun h3=>h2 (b0l.1 (R0x.1 h3))
   rw [R0Y,show (a0e (n / 4294967296)).length + 1 - 1=((a0e (n / 4294967296)).length - 1) + 1 by omega,List.getD_cons_succ]
   exact this
def a0p (i:Bool × List Nat):Int:=if c0V i then (if i.1 then -(a0l i.2:Int) else a0l i.2) else 0
def a0n (z:Int):Bool × List Nat:=(decide (z < 0),a0e z.natAbs)
theorem y0c {b:Bool} {l:List Nat} (h:a0U l):mkI b l=a0n (if b then -(a0l l:Int) else a0l l):=by
 unfold mkI a0n
 rw [b0n l h]
 by_cases h0:a0l l=0
 ·rw [h0,a0C];cases b <;> simp [a0C]
 ·rw [R0c (by rw [b0l];exact h0)]
  cases b <;> simp <;> omega
theorem l0N (z:Int):c0V (a0n z)=true:=by
 unfold c0V a0n
 by_cases h:z=0
 ·subst h;simp [a0C]
 ·have h1:z.natAbs ≠ 0:=by omega
  have h2:(a0e z.natAbs).length ≠ 0:=fun h3=>h1 (b0l.1 (R0x.1 h3))
  simp only
  rw [R0c h2]
  simpa using i0x h1
theorem a0s (z:Int):a0p (a0n z)=z:=by
 unfold a0p
 rw [l0N]
 simp only [a0n,a0f,R0T]
 by_cases h:z < 0 <;> simp [h] <;> omega
theorem h0e:a0n 0=(false,[]):=by simp [a0n,a0C]
end
section
open Go
set_option maxHeartbeats 4000000
variable {fl:Nat} {H:a0c} {R:a0E} {v w:Value} {a b:List Nat}
theorem Lim.ok {l:List Nat} (h:Lim H v l):a0U l:=h.2
theorem a0z {l:List Nat} {n:Nat} (h:n < l.length):a0l (l.take (n + 1))=a0l (l.take n) + 4294967296 ^ n * l.getD n 0:=by
 rw [c0Q h,b0z,S0c,R0I (by omega)]
theorem k0B (ha:Lim H v a) (hb:Lim H w b) (hf:fl≤H.size) (hna:a.length < 1073741824) (hnb:b.length < 1073741824) :
  a0N env fl q0x [v,w] H (fun r H'=>(∃ o,Lim H' r o∧a0l o=a0l a + a0l b∧o.length=max a.length b.length + 1)∧Ext H H') R:=by
 refine a0d O0e hf (h:=?_)
 intro ρ h0
 simp only [x0g]
 refine e0c (i0q ?_)
 simp [-o0f,r0V,h0]
 refine e0c (H0A (fun t G=>G=H∧t.length=55∧∃ v w a' b',get t 0=v∧get t 1=w∧Lim H v a'∧Lim H w b'∧b'.length≤a'.length∧a'.length=max a.length b.length∧a0l a' + a0l b' = a0l a + a0l b) ?_ ?_)
 ·simp [r0W,r0X,h0,ha.slen,hb.slen]
  exact ⟨fun h=>⟨b,hb,a,ha,by omega,by omega,by omega⟩,fun h=>⟨a,ha,b,hb,by omega,by omega,by omega⟩⟩
 clear h0 ρ
 rintro t G ⟨rfl,ht,v,w,a',b',g0,g1,ha',hb',hle,hlen,hsum⟩
 obtain ⟨ρ,rfl⟩:=toT ht
 simp only [b0o,Nat.reduceLT] at g0 g1
 have hna':a'.length < 1073741824:=by omega
 rw [← hlen,← hsum]
 clear ha hb hna hnb hlen hsum a b
 have w1:IntKind.i64.wrap ((a'.length:Int) + 1)=(a'.length:Int) + 1:=a0S (by omega) (by omega)
 have hm:=J0b (bytes:=4) (k:=.i64) (k':=.i64) (l:=0) (c:=(a'.length:Int) + 1) (by omega) (by omega) (by omega) (by omega)
 simp [r0Y,r0Z,s0a,g0,g1,ha'.slen,w1,hm]
 refine b0A (fun k t G'=>∃ i c out s,i + k=a'.length∧t.length=55∧get t 1=w∧get t 5=s∧get t 6=.int .u64 ((c:Nat):Int)∧get t 20=v∧get t 21=.int .i64 a'.length∧get t 22=.int .i64 ((i:Nat):Int) ∧
   Ext G G'∧Own G.size G' a0b 1 s i (b0r out)∧a0U out∧out.length=i∧c≤1∧a0l out + 4294967296 ^ i * c=a0l (a'.take i) + a0l (b'.take i))
  (fun t G'=>∃ c out s,t.length=55∧get t 5=s∧get t 6=.int .u64 ((c:Nat):Int) ∧
   Ext G G'∧Own G.size G' a0b 1 s a'.length (b0r out)∧a0U out∧out.length=a'.length∧c≤1∧a0l out + 4294967296 ^ a'.length * c=a0l a' + a0l b') a'.length ?_ ?_ ?_
 ·exact ⟨0,0,[],.slice (some ⟨G.size,0,none⟩) 0 (a'.length + 1),by omega,by simp,by simp [g1],by simp,by simp,by simp,by simp,by simp,by simp,
   Own.mk (by simp [b0r]) rfl (Q0W _),by intro x hx;simp at hx,rfl,by omega,by simp [a0l]⟩
 ·clear g0 g1 hm w1 ht ρ
  rintro k t G' ⟨i,c,out,s,hik,ht,g1,g5,g6,g20,g21,g22,hx,ho,hok,hol,hc,hs⟩
  obtain ⟨ρ,rfl⟩:=toT ht
  simp only [b0o,Nat.reduceLT] at g1 g5 g6 g20 g21 g22
  by_cases hi:i < a'.length
  ·have hla:=ha'.load hi hx
   have hA2:=a0z hi
   have hA3:a'.getD i 0 < 4294967296:=ha'.2 _ (by rw [Q0T,R0a hi];exact R0g hi)
   generalize a'.getD i 0=A at hla hA2 hA3
   have e1:IntKind.u64.wrap ((c:Int) + IntKind.u64.wrap (A:Int))=((c + A:Nat):Int):=by rw [a0m,a0m];omega
   have e9:IntKind.i64.wrap ((i:Int) + 1)=((i + 1:Nat):Int):=by rw [a0S (by omega) (by omega)];omega
   by_cases hib:i < b'.length
   ·have hlb:=hb'.load hib hx
    have hB2:=a0z hib
    have hB3:b'.getD i 0 < 4294967296:=hb'.2 _ (by rw [Q0T,R0a hib];exact R0g hib)
    generalize b'.getD i 0=B at hlb hB2 hB3
    have e2:IntKind.u64.wrap (((c + A:Nat):Int) + IntKind.u64.wrap (B:Int))=((c + A + B:Nat):Int):=by rw [a0m,a0m];omega
    simp [-Int.natCast_add,k0R,n0c,n0d,n0e,k0N,k0O,k0P,k0Q,g1,g5,g6,g20,g21,g22,hi,ha'.ia hi,hla,hb'.slen,e1,hib,hb'.ia hib,hlb,e2]
    generalize hc2:c + A + B=c2
    refine (a0g hx.1).mono ?_
    rintro _ G2 ⟨rfl,hx2⟩
    obtain ⟨s',G3,h1,h2,h3,h4⟩:=c0E (e2:=a0b) (new:=[.int .u32 ((c2 % 4294967296:Nat):Int)]) (c:=1) (bytes:=4) (ho.mono hx2) rfl rfl (by omega) (by omega) (by omega) (by have:=hx.1;have:=hx2.1;omega)
    simp [-Int.natCast_emod,-Int.natCast_add,h1,g1,g5,g6,g20,g21,g22,e9]
    refine ⟨k - 1,by omega,i + 1,by omega,c2 / 4294967296,rfl,rfl,h4 _ (Q0W _) (hx.trans hx2),out ++ [c2 % 4294967296],by simpa [b0r] using h2,?_,by simp [hol],by omega,?_⟩
    ·intro x hx
     rcases R0v.1 hx with hx | hx
     ·exact hok x hx
     ·simp at hx;omega
    ·rw [b0z,hol,hA2,hB2,R0m]
     have e3:4294967296 ^ i * 4294967296 * (c2 / 4294967296)=4294967296 ^ i * (4294967296 * (c2 / 4294967296)):=R0i ..
     have e4:4294967296 ^ i * (c2 % 4294967296) + 4294967296 ^ i * (4294967296 * (c2 / 4294967296))=4294967296 ^ i * c2:=by rw [← R0b,S0P]
     have e5:4294967296 ^ i * c2=4294967296 ^ i * c + 4294967296 ^ i * A + 4294967296 ^ i * B:=by rw [← hc2,R0b,R0b]
     omega
   ·have hB2:a0l (b'.take (i + 1))=a0l (b'.take i) + 4294967296 ^ i * 0:=by rw [R0j (by omega),R0j (by omega)];simp
    have hB3:(0:Nat) < 4294967296:=by omega
    have e2:c + A=c + A + 0:=rfl
    rw [e2] at e1
    generalize (0:Nat)=B at hB2 hB3 e1
    simp [-Int.natCast_add,k0R,n0c,n0d,n0e,k0N,k0O,k0P,k0Q,g1,g5,g6,g20,g21,g22,hi,ha'.ia hi,hla,hb'.slen,e1,hib]
    generalize hc2:c + A + B=c2
    refine (a0g hx.1).mono ?_
    rintro _ G2 ⟨rfl,hx2⟩
    obtain ⟨s',G3,h1,h2,h3,h4⟩:=c0E (e2:=a0b) (new:=[.int .u32 ((c2 % 4294967296:Nat):Int)]) (c:=1) (bytes:=4) (ho.mono hx2) rfl rfl (by omega) (by omega) (by omega) (by have:=hx.1;have:=hx2.1;omega)
    simp [-Int.natCast_emod,-Int.natCast_add,h1,g1,g5,g6,g20,g21,g22,e9]
    refine ⟨k - 1,by omega,i + 1,by omega,c2 / 4294967296,rfl,rfl,h4 _ (Q0W _) (hx.trans hx2),out ++ [c2 % 4294967296],by simpa [b0r] using h2,?_,by simp [hol],by omega,?_⟩
    ·intro x hx
     rcases R0v.1 hx with hx | hx
     ·exact hok x hx
     ·simp at hx;omega
    ·rw [b0z,hol,hA2,hB2,R0m]
     have e3:4294967296 ^ i * 4294967296 * (c2 / 4294967296)=4294967296 ^ i * (4294967296 * (c2 / 4294967296)):=R0i ..
     have e4:4294967296 ^ i * (c2 % 4294967296) + 4294967296 ^ i * (4294967296 * (c2 / 4294967296))=4294967296 ^ i * c2:=by rw [← R0b,S0P]
     have e5:4294967296 ^ i * c2=4294967296 ^ i * c + 4294967296 ^ i * A + 4294967296 ^ i * B:=by rw [← hc2,R0b,R0b]
     omega
  ·simp [k0R,g1,g5,g6,g20,g21,g22,hi]
   have:i=a'.length:=by omega
   subst this
   refine ⟨c,rfl,hx,out,ho,hok,hol,hc,?_⟩
   rw [hs,R0j (Q0W _),R0j hle]
 ·clear g0 g1 hm w1 ht ρ
  rintro t G' ⟨c,out,s,ht,g5,g6,hx,ho,hok,hol,hc,hs⟩
  obtain ⟨ρ,rfl⟩:=toT ht
  simp only [b0o,Nat.reduceLT] at g5 g6
  simp [o0z,g5,g6]
  refine (a0g hx.1).mono ?_
  rintro _ G2 ⟨rfl,hx2⟩
  obtain ⟨s',G3,h1,h2,h3,h4⟩:=c0E (e2:=a0b) (new:=[.int .u32 ((c % 4294967296:Nat):Int)]) (c:=1) (bytes:=4) (ho.mono hx2) rfl rfl (by omega) (by omega) (by omega) (by have:=hx.1;have:=hx2.1;omega)
  simp [-Int.natCast_emod,-Int.natCast_add,h1]
  refine fun _=>⟨out ++ [c % 4294967296],⟨by simpa [hol,b0r] using h2.sl,?_⟩,?_,by simp [hol]⟩
  ·intro x hx
   rcases R0v.1 hx with hx | hx
   ·exact hok x hx
   ·simp at hx;omega
  ·rw [b0z,hol,R0s (by omega)];exact hs
theorem f0R (ha:Lim H v a) (hb:Lim H w b) (hf:fl≤H.size) (hna:a.length < 1073741824) (hle:b.length≤a.length) (hnat:a0l b≤a0l a) :
  a0N env fl p0u [v,w] H (fun r H'=>(∃ o,Lim H' r o∧a0l o=a0l a - a0l b∧o.length=a.length)∧Ext H H') R:=by
 refine a0d O0f hf (h:=?_)
 intro ρ h0
 simp only [x0h]
 have hm:=J0b (bytes:=4) (k:=.i64) (k':=.i64) (l:=0) (c:=(a.length:Int)) (by omega) (by omega) (by omega) (by omega)
 simp [s0b,s0c,s0d,s0e,h0,ha.slen,hm]
 refine b0A (fun k t G'=>∃ i c out s,i + k=a.length∧t.length=46∧get t 1=w∧get t 5=s∧get t 6=.int .u64 ((c:Nat):Int)∧get t 14=v∧get t 15=.int .i64 a.length∧get t 16=.int .i64 ((i:Nat):Int) ∧
   Ext H G'∧Own H.size G' a0b 1 s i (b0r out)∧a0U out∧out.length=i∧c≤1∧a0l out + a0l (b.take i)=a0l (a.take i) + 4294967296 ^ i * c)
  (fun t G'=>∃ c out s,t.length=46∧get t 5=s ∧
   Ext H G'∧Own H.size G' a0b 1 s a.length (b0r out)∧a0U out∧out.length=a.length∧c≤1∧a0l out + a0l b=a0l a + 4294967296 ^ a.length * c) a.length ?_ ?_ ?_
 ·exact ⟨0,0,[],.slice (some ⟨H.size,0,none⟩) 0 a.length,by omega,by simp,by simp [h0],by simp,by simp,by simp [h0],by simp,by simp,by simp,
   Own.mk (by simp [b0r]) rfl (Q0W _),by intro x hx;simp at hx,rfl,by omega,by simp [a0l]⟩
 ·clear hm h0 ρ
  rintro k t G' ⟨i,c,out,s,hik,ht,g1,g5,g6,g14,g15,g16,hx,ho,hok,hol,hc,hs⟩
  obtain ⟨ρ,rfl⟩:=toT ht
  simp only [b0o,Nat.reduceLT] at g1 g5 g6 g14 g15 g16
  by_cases hi:i < a.length
  ·have hla:=ha.load hi hx
   have hA2:=a0z hi
   have hA3:a.getD i 0 < 4294967296:=ha.2 _ (by rw [Q0T,R0a hi];exact R0g hi)
   generalize a.getD i 0=A at hla hA2 hA3
   have e9:IntKind.i64.wrap ((i:Int) + 1)=((i + 1:Nat):Int):=by rw [a0S (by omega) (by omega)];omega
   by_cases hib:i < b.length
   ·have hlb:=hb.load hib hx
    have hB2:=a0z hib
    have hB3:b.getD i 0 < 4294967296:=hb.2 _ (by rw [Q0T,R0a hib];exact R0g hib)
    generalize b.getD i 0=B at hlb hB2 hB3
    have e2:IntKind.u64.wrap ((c:Int) + IntKind.u64.wrap (B:Int))=((c + B:Nat):Int):=by rw [a0m,a0m];omega
    have e3:IntKind.u64.wrap (IntKind.u64.wrap (A:Int) - ((c + B:Nat):Int))=(((A + 18446744073709551616 - (c + B)) % 18446744073709551616:Nat):Int):=by rw [a0m,a0m];omega
    simp [-Int.natCast_add,-Int.natCast_emod,k0V,n0f,n0g,n0h,n0i,n0j,k0S,k0T,k0U,g1,g5,g6,g14,g15,g16,hi,ha.ia hi,hla,hb.slen,hib,hb.ia hib,hlb,e2,e3]
    generalize hD:(A + 18446744073709551616 - (c + B)) % 18446744073709551616=D
    refine (a0g hx.1).mono ?_
    rintro _ G2 ⟨rfl,hx2⟩
    obtain ⟨s',G3,h1,h2,h3,h4⟩:=c0E (e2:=a0b) (new:=[.int .u32 ((D % 4294967296:Nat):Int)]) (c:=1) (bytes:=4) (ho.mono hx2) rfl rfl (by omega) (by omega) (by omega) (by have:=hx.1;have:=hx2.1;omega)
    simp [-Int.natCast_emod,-Int.natCast_add,h1,g1,g5,g6,g14,g15,g16,e9]
    refine ⟨k - 1,by omega,i + 1,by omega,D / 9223372036854775808,rfl,rfl,h4 _ (Q0W _) (hx.trans hx2),out ++ [D % 4294967296],by simpa [b0r] using h2,?_,by simp [hol],by omega,?_⟩
    ·intro x hx
     rcases R0v.1 hx with hx | hx
     ·exact hok x hx
     ·simp at hx;omega
    ·rw [b0z,hol,hA2,hB2,R0m]
     have e3:4294967296 ^ i * 4294967296 * (D / 9223372036854775808)=4294967296 ^ i * (4294967296 * (D / 9223372036854775808)):=R0i ..
     have e4:D % 4294967296 + c + B=A + 4294967296 * (D / 9223372036854775808):=by omega
     have e5:4294967296 ^ i * (D % 4294967296) + 4294967296 ^ i * c + 4294967296 ^ i * B=4294967296 ^ i * A + 4294967296 ^ i * (4294967296 * (D / 9223372036854775808)):=by
      rw [← R0b,← R0b,← R0b,e4]
     omega
   ·have hB2:a0l (b.take (i + 1))=a0l (b.take i) + 4294967296 ^ i * 0:=by rw [R0j (by omega),R0j (by omega)];simp
    have hB3:(0:Nat) < 4294967296:=by omega
    have e3:IntKind.u64.wrap (IntKind.u64.wrap (A:Int) - (c:Int))=(((A + 18446744073709551616 - (c + 0)) % 18446744073709551616:Nat):Int):=by rw [a0m,a0m];omega
    generalize hB:(0:Nat)=B at hB2 hB3 e3
    simp [-Int.natCast_add,-Int.natCast_emod,k0V,n0f,n0g,n0h,n0i,n0j,k0S,k0T,k0U,g1,g5,g6,g14,g15,g16,hi,ha.ia hi,hla,hb.slen,hib,e3]
    generalize hD:(A + 18446744073709551616 - (c + B)) % 18446744073709551616=D
    refine (a0g hx.1).mono ?_
    rintro _ G2 ⟨rfl,hx2⟩
    obtain ⟨s',G3,h1,h2,h3,h4⟩:=c0E (e2:=a0b) (new:=[.int .u32 ((D % 4294967296:Nat):Int)]) (c:=1) (bytes:=4) (ho.mono hx2) rfl rfl (by omega) (by omega) (by omega) (by have:=hx.1;have:=hx2.1;omega)
    simp [-Int.natCast_emod,-Int.natCast_add,h1,g1,g5,g6,g14,g15,g16,e9]
    refine ⟨k - 1,by omega,i + 1,by omega,D / 9223372036854775808,rfl,rfl,h4 _ (Q0W _) (hx.trans hx2),out ++ [D % 4294967296],by simpa [b0r] using h2,?_,by simp [hol],by omega,?_⟩
    ·intro x hx
     rcases R0v.1 hx with hx | hx
     ·exact hok x hx
     ·simp at hx;omega
    ·rw [b0z,hol,hA2,hB2,R0m]
     have e3:4294967296 ^ i * 4294967296 * (D / 9223372036854775808)=4294967296 ^ i * (4294967296 * (D / 9223372036854775808)):=R0i ..
     have e4:D % 4294967296 + c + B=A + 4294967296 * (D / 9223372036854775808):=by omega
     have e5:4294967296 ^ i * (D % 4294967296) + 4294967296 ^ i * c + 4294967296 ^ i * B=4294967296 ^ i * A + 4294967296 ^ i * (4294967296 * (D / 9223372036854775808)):=by
      rw [← R0b,← R0b,← R0b,e4]
     omega
  ·simp [k0V,g1,g5,g6,g14,g15,g16,hi]
   have:i=a.length:=by omega
   subst this
   refine ⟨hx,c,out,ho,hok,hol,hc,?_⟩
   rw [R0j (Q0W _),R0j hle] at hs
   exact hs
 ·clear hm h0 ρ
  rintro t G' ⟨c,out,s,ht,g5,hx,ho,hok,hol,hc,hs⟩
  obtain ⟨ρ,rfl⟩:=toT ht
  simp only [b0o,Nat.reduceLT] at g5
  simp [o0A,g5]
  refine fun _=>⟨out,⟨by simpa [hol] using ho.sl,hok⟩,?_,hol⟩
  have h2:=e0S out hok
  rw [hol] at h2
  have:c=0:=by
   refine Decidable.byContradiction fun hc0=>?_
   have:c=1:=by omega
   subst this
   omega
  subst this
  omega
def p0r (a b:List Nat):Int:=if a.length ≠ b.length then e0C a.length b.length else e0C (a0l a) (a0l b)
theorem b0w {x y:Nat}:e0C (x:Int) (y:Int)=if x < y then -1 else if y < x then 1 else 0:=by
 unfold e0C;(repeat' split) <;> omega
theorem l0Q {i:Nat} (hab:a.length=b.length) (ha:a0U a) (hb:a0U b) (hi:i < a.length) (he:a.drop (i + 1)=b.drop (i + 1)) (hne:a.getD i 0 ≠ b.getD i 0) :
  e0C (a0l a:Int) (a0l b:Int)=e0C (a.getD i 0:Int) (b.getD i 0:Int):=by
 have h1:a0l a=a0l (a.take i) + 4294967296 ^ i * a.getD i 0 + 4294967296 ^ (i + 1) * a0l (a.drop (i + 1)):=by
  have:=e0h (a.take (i + 1)) (a.drop (i + 1))
  rw [List.take_append_drop,S0c,R0I (by omega)] at this
  rw [this,a0z hi]
 have h2:a0l b=a0l (b.take i) + 4294967296 ^ i * b.getD i 0 + 4294967296 ^ (i + 1) * a0l (b.drop (i + 1)):=by
  have:=e0h (b.take (i + 1)) (b.drop (i + 1))
  rw [List.take_append_drop,S0c,R0I (by omega)] at this
  rw [this,a0z (by omega)]
 have h3:=e0S (a.take i) (fun x hx=>ha x (S0T hx))
 have h4:=e0S (b.take i) (fun x hx=>hb x (S0T hx))
 rw [S0c,R0I (by omega)] at h3 h4
 rw [he] at h1
 generalize 4294967296 ^ (i + 1) * a0l (b.drop (i + 1))=Z at h1 h2
 generalize a.getD i 0=x at *
 generalize b.getD i 0=y at *
 generalize 4294967296 ^ i=P at *
 rw [b0w,b0w]
 by_cases hxy:x < y
 ·have:P * (x + 1)≤P * y:=R0y P hxy
  rw [R0b] at this
  rw [R0k (by omega),R0k hxy]
 ·have:P * (y + 1)≤P * x:=R0y P (by omega)
  rw [R0b] at this
  rw [R0c (by omega),R0k (by omega),R0c hxy,R0k (by omega)]
theorem d0C (ha:Lim H v a) (hb:Lim H w b) (hf:fl≤H.size) (hna:a.length < 4611686018427387904) :
  a0N env fl x0W [v,w] H (fun r H'=>r=.int .i64 (p0r a b)∧Ext H H') R:=by
 refine a0d Q0x hf (h:=?_)
 intro ρ h0
 simp only [M0W]
 have w1:IntKind.i64.wrap ((a.length:Int) - 1)=(a.length:Int) - 1:=a0S (by omega) (by omega)
 simp [D0J,D0K,D0L,D0M,h0,ha.slen,hb.slen,w1]
 refine ⟨fun h=>?_,fun hab=>?_⟩
 ·refine (g0D (Q0W _)).mono ?_
  rintro _ G ⟨rfl,hx⟩
  simp [p0r,h]
 have hcl:p0r a b=e0C (a0l a) (a0l b):=by simp [p0r,hab]
 rw [hcl]
 refine b0A (fun k t G'=>t.length=41∧get t 0=v∧get t 1=w∧get t 5=.int .i64 ((k:Int) - 1)∧G' = H∧k≤a.length∧a.drop k=b.drop k)
  (fun t G'=>t.length=41∧G' = H∧a=b) a.length (by simp [h0,hab]) ?_ ?_
 ·clear h0 ρ
  rintro k t G' ⟨ht,g0,g1,g5,rfl,hk,hd⟩
  obtain ⟨ρ,rfl⟩:=toT ht
  simp only [b0o,Nat.reduceLT] at g0 g1 g5
  by_cases hk0:k=0
  ·subst hk0
   simp [v0v,g0,g1,g5]
   simpa using hd
  ·have e0:(k:Int) - 1=((k - 1:Nat):Int):=by omega
   have hka:k - 1 < a.length:=by omega
   have hkb:k - 1 < b.length:=by omega
   have hla:=ha.load hka (Ext.refl _)
   have hlb:=hb.load hkb (Ext.refl _)
   have w2:IntKind.i64.wrap (((k - 1:Nat):Int) - 1)=((k - 1:Nat):Int) - 1:=a0S (by omega) (by omega)
   rw [e0] at g5
   have hla':=ha.ia (k:=.i64) hka
   have hlb':=hb.ia (k:=.i64) hkb
   have hh:=l0Q hab ha.ok hb.ok hka (by rw [show k - 1 + 1=k by omega];exact hd)
   generalize hA:a.getD (k - 1) 0=A at hla hh
   generalize hB:b.getD (k - 1) 0=B at hlb hh
   simp [v0v,g0,g1,g5]
   refine a0Y ?_
   simp [D0N,g0,g1,g5,hla,hla',hlb,hlb']
   refine ⟨fun hne=>?_,fun heq=>?_⟩
   ·refine a0Y ?_
    simp [D0O,g0,g1,g5,hla,hla',hlb,hlb']
    refine (e0U (Q0W _)).mono ?_
    rintro _ G ⟨rfl,hx⟩
    simp [hh hne]
   ·simp [D0P,g0,g1,g5,w2]
    refine ⟨k - 1,by omega,rfl,by omega,?_⟩
    rw [R0L hka,R0L hkb,show k - 1 + 1=k by omega,hd]
    congr 1
    rw [Q0T,R0a hka] at hA
    rw [Q0T,R0a hkb] at hB
    simp at hA hB;omega
 ·clear h0 ρ
  rintro t G' ⟨ht,rfl,rfl⟩
  obtain ⟨ρ,rfl⟩:=toT ht
  simp [D0Q,e0C]
end
section
open Go
variable {fl:Nat} {H:a0c} {R:a0E} {v:Value} {i:Bool × List Nat} {a b:List Nat}
theorem b0j.ok (h:b0j H v i):a0U i.2:=by obtain ⟨s,_,hs⟩:=h;exact hs.ok
theorem v0R {l:List Nat} (h:l.length=0 ∨ l.getD (l.length - 1) 0 ≠ 0):c0t l=l:=by
 rcases List.eq_nil_or_concat l with rfl | ⟨l',x,rfl⟩
 ·rfl
 ·have:x ≠ 0:=by
   rcases h with h | h
   ·simp at h
   ·simpa [Q0T] using h
  rw [List.concat_eq_append];exact h0x this
theorem i0I (i:Bool × List Nat):c0t (d0o i)=d0o i:=by
 unfold d0o
 by_cases h:c0V i=true
 ·rw [R0k h]
  refine v0R ?_
  unfold c0V at h
  by_cases h0:i.2.length=0
  ·exact .inl h0
  ·rw [R0c h0] at h;exact .inr (by simpa using h)
 ·rw [R0c h];rfl
theorem q0V (h:a0U i.2):a0U (d0o i):=by
 unfold d0o;split
 ·exact h
 ·intro x hx;simp at hx
theorem x0M (i:Bool × List Nat):(a0p i).natAbs=a0l (d0o i):=by
 unfold a0p d0o
 by_cases h:c0V i=true
 ·rw [R0k h,R0k h];split <;> omega
 ·rw [R0c h,R0c h];rfl
theorem g0y (h:a0U i.2):d0o i=a0e (a0p i).natAbs:=by
 rw [x0M,← b0n _ (q0V h),i0I]
theorem r0d (i:Bool × List Nat):J0c i=decide (a0p i < 0):=by
 unfold J0c a0p
 by_cases h:c0V i=true
 ·rw [R0k h,h,Bool.true_and]
  by_cases hn:i.1=true
  ·have h0:a0l i.2 ≠ 0:=by
    intro h0
    have h1:=(g0B i.2).1 h0
    have h2:=i0I i
    unfold d0o at h2
    rw [R0k h,h1] at h2
    unfold c0V at h
    rw [← h2] at h
    simp [hn] at h
   rw [R0k hn,hn];simp;omega
  ·rw [R0c hn];simp [hn]
 ·rw [R0c h];simp [h]
theorem p0x (i:Bool × List Nat):(d0o i).length≤i.2.length:=by unfold d0o;split <;> simp
theorem a0o (h:a0U i.2):(a0e (a0p i).natAbs).length≤i.2.length:=by rw [← g0y h];exact p0x i
theorem b0g {m n:Nat} (h:m≤n):(a0e m).length≤(a0e n).length:=d0k (T0d h (d0q n))
theorem c0r (m n:Nat):p0r (a0e m) (a0e n)=e0C m n:=by
 unfold p0r
 rw [a0f,a0f]
 split
 ·rename_i h
  rw [b0w,b0w]
  by_cases hmn:m < n
  ·have:=b0g (T0g hmn)
   rw [R0k hmn,R0k (by omega)]
  ·have:=b0g (show n≤m by omega)
   have hne:m ≠ n:=fun h2=>h (by rw [h2])
   rw [R0c hmn,R0k (by omega:n < m),R0c (by omega),R0k (by omega)]
 ·rfl
theorem b0p (h:b0j H v i) (hf:fl≤H.size) (hn:i.2.length < 4611686018427387904) :
  a0N env fl l0s [v] H (fun r H'=>Lim H' r (a0e (a0p i).natAbs)∧Ext H H') R:=by
 rw [← g0y h.ok];exact j0z h hf hn
theorem b0e (h:b0j H v i) (hf:fl≤H.size) (hn:i.2.length < 4611686018427387904) :
  a0N env fl h0X [v] H (fun r H'=>r=.bool (decide (a0p i < 0))∧Ext H H') R:=by
 rw [← r0d];exact l0T h hf hn
theorem b0G {l:List Nat} {b:Bool} (z:Int) (h:Lim H v l) (hf:fl≤H.size) (hn:l.length≤1073741824) (hz:(if b then -(a0l l:Int) else a0l l)=z) :
  a0N env fl l0t [.bool b,v] H (fun r H'=>b0j H' r (a0n z)∧Ext H H') R:=by
 rw [← hz,← y0c h.ok];exact k0A h hf hn
theorem b0j.setT (h:b0j H v i) {p:Nat} {ro:Bool} {e':TypeId} {cs':List Value} {r:Blk} (hb:H.blk p=.row ro e' cs') (hne:e' ≠ a0b):b0j (H.setIfInBounds p r) v i:=by
 obtain ⟨s,h1,h2⟩:=h;exact ⟨s,h1,h2.setT hb hne⟩
end
section
open Go
set_option maxHeartbeats 4000000
variable {fl:Nat} {H:a0c} {R:a0E} {v w:Value} {i j:Bool × List Nat}
theorem l0S (h:b0j H v i) (hf:fl≤H.size) (hn:i.2.length≤1073741824) :
  a0N env fl q0H [v] H (fun r H'=>b0j H' r (a0n (-a0p i))∧Ext H H') R:=by
 have hh:=h
 obtain ⟨s,rfl,hs⟩:=h
 refine a0d O0s hf (h:=?_)
 intro ρ h0
 simp [x0t,t0y,h0]
 generalize hG:Array.push (Array.push H _) _=G
 have hx:Ext H G:=by rw [← hG];simp
 have b0:a0c.blk G H.size=.row false a0a [.bool i.1,s]:=by rw [← hG];simp
 have b1:a0c.blk G (H.size + 1)=.row false a0a [.bool false,.slice none 0 0]:=by rw [← hG];simp
 have hz:H.size + 1 < G.size:=a0k b1
 refine a0Y ?_
 simp [t0z,h0,b0,b1]
 refine (b0e (hh.mono hx) (by omega) (by omega)).mono ?_
 rintro _ G2 ⟨rfl,hx2⟩
 replace b0:=hx2.blk b0
 replace b1:=hx2.blk b1
 replace hx:=hx.trans hx2
 simp [h0,b0,b1]
 refine (b0p (hh.mono hx) hx.1 (by omega)).mono ?_
 rintro l G3 ⟨hl,hx3⟩
 replace b1:=hx3.blk b1
 replace hx:=hx.trans hx3
 try simp [h0]
 have:=a0o hh.ok
 refine (b0G (-a0p i) hl hx.1 (by omega) (by rw [a0f];simp;split <;> omega)).mono ?_
 rintro _ G4 ⟨⟨s',rfl,hs'⟩,hx4⟩
 replace b1:=hx4.blk b1
 have hz:=a0k b1
 simp [b1,hs'.cells,hs'.plain,hz]
 exact fun _=>⟨s',rfl,hs'.setT b1 (by decide)⟩
theorem e0T (h:b0j H v i) (k:b0j H w j) (hf:fl≤H.size) (hn:i.2.length < 536870912) (hm:j.2.length < 536870912) :
  a0N env fl w0B [v,w] H (fun r H'=>b0j H' r (a0n (a0p i + a0p j))∧Ext H H') R:=by
 have hh:=h
 have kk:=k
 obtain ⟨s,rfl,hs⟩:=h
 obtain ⟨u,rfl,hu⟩:=k
 refine a0d Q0v hf (h:=?_)
 intro ρ h0
 simp [M0U,D0A,h0]
 generalize hG:Array.push (Array.push (Array.push H _) _) _=G
 have hx:Ext H G:=by rw [← hG];exact (Ext.refl H).push.push.push
 have b0:a0c.blk G H.size=.row false a0a [.bool i.1,s]:=by rw [← hG];simp
 have b1:a0c.blk G (H.size + 1)=.row false a0a [.bool j.1,u]:=by rw [← hG];simp
 have b2:a0c.blk G (H.size + 2)=.row false a0a [.bool false,.slice none 0 0]:=by rw [← hG];simp
 have hz:H.size + 1 < G.size:=a0k b1
 clear hG
 refine a0Y ?_
 simp [D0B,h0,b0,b1]
 refine (b0p (hh.mono hx) (by omega) (by omega)).mono ?_
 rintro x G2 ⟨hl,hx2⟩
 replace b0:=hx2.blk b0
 replace b1:=hx2.blk b1
 replace b2:=hx2.blk b2
 replace hx:=hx.trans hx2
 try simp [h0,b0,b1]
 refine (b0p (kk.mono hx) hx.1 (by omega)).mono ?_
 rintro y G3 ⟨hl2,hx3⟩
 replace b0:=hx3.blk b0
 replace b1:=hx3.blk b1
 replace b2:=hx3.blk b2
 replace hx:=hx.trans hx3
 replace hl:=hl.mono hx3
 try simp [h0]
 refine a0Y ?_
 simp [D0C,h0,b0,b1]
 refine (b0e (hh.mono hx) (by have:=hx.1;omega) (by omega)).mono ?_
 rintro _ G2 ⟨rfl,hx2⟩
 replace b0:=hx2.blk b0
 replace b1:=hx2.blk b1
 replace b2:=hx2.blk b2
 replace hx:=hx.trans hx2
 replace hl:=hl.mono hx2
 replace hl2:=hl2.mono hx2
 try simp [h0,b0,b1]
 refine (b0e (kk.mono hx) hx.1 (by omega)).mono ?_
 rintro _ G2 ⟨rfl,hx2⟩
 replace b0:=hx2.blk b0
 replace b1:=hx2.blk b1
 replace b2:=hx2.blk b2
 replace hx:=hx.trans hx2
 replace hl:=hl.mono hx2
 replace hl2:=hl2.mono hx2
 clear hs hu hz hx2
 have l1:=a0o hh.ok
 have l2:=a0o kk.ok
 simp [h0]
 refine ⟨fun hsame=>?_,fun hdiff=>?_⟩
 ·simp [D0D,h0,b0]
  refine (b0e (hh.mono hx) hx.1 (by omega)).mono ?_
  rintro _ G2 ⟨rfl,hx2⟩
  replace b0:=hx2.blk b0
  replace b1:=hx2.blk b1
  replace b2:=hx2.blk b2
  replace hx:=hx.trans hx2
  replace hl:=hl.mono hx2
  replace hl2:=hl2.mono hx2
  try simp [h0]
  refine (k0B hl hl2 hx.1 (by omega) (by omega)).mono ?_
  rintro r G2 ⟨⟨o,ho,hon,hol⟩,hx2⟩
  replace b0:=hx2.blk b0
  replace b1:=hx2.blk b1
  replace b2:=hx2.blk b2
  replace hx:=hx.trans hx2
  replace hl:=hl.mono hx2
  replace hl2:=hl2.mono hx2
  try simp [h0]
  rw [a0f,a0f] at hon
  refine (b0G (a0p i + a0p j) ho hx.1 (by omega) (by rw [hon];simp;split <;> omega)).mono ?_
  rintro _ G2 ⟨⟨s',rfl,hs'⟩,hx2⟩
  replace b0:=hx2.blk b0
  replace b1:=hx2.blk b1
  replace b2:=hx2.blk b2
  replace hx:=hx.trans hx2
  replace hl:=hl.mono hx2
  replace hl2:=hl2.mono hx2
  have hz:=a0k b2
  simp [b2,hs'.cells,hs'.plain,hz]
  exact fun _=>⟨s',rfl,hs'.setT b2 (by decide)⟩
 ·simp [D0E,h0]
  refine (d0C hl hl2 hx.1 (by omega)).mono ?_
  rintro _ G2 ⟨rfl,hx2⟩
  replace b0:=hx2.blk b0
  replace b1:=hx2.blk b1
  replace b2:=hx2.blk b2
  replace hx:=hx.trans hx2
  replace hl:=hl.mono hx2
  replace hl2:=hl2.mono hx2
  rw [c0r,b0w]
  try simp [h0]
  refine ⟨fun hge=>?_,fun hlt=>?_⟩
  ·have hab:(a0p j).natAbs≤(a0p i).natAbs:=by
    (repeat' split at hge) <;> omega
   simp [D0F,h0,b0]
   refine (b0e (hh.mono hx) hx.1 (by omega)).mono ?_
   rintro _ G2 ⟨rfl,hx2⟩
   replace b0:=hx2.blk b0
   replace b1:=hx2.blk b1
   replace b2:=hx2.blk b2
   replace hx:=hx.trans hx2
   replace hl:=hl.mono hx2
   replace hl2:=hl2.mono hx2
   try simp [h0]
   refine (f0R hl hl2 hx.1 (by omega) (b0g hab) (by rw [a0f,a0f];exact hab)).mono ?_
   rintro r G2 ⟨⟨o,ho,hon,hol⟩,hx2⟩
   replace b0:=hx2.blk b0
   replace b1:=hx2.blk b1
   replace b2:=hx2.blk b2
   replace hx:=hx.trans hx2
   replace hl:=hl.mono hx2
   replace hl2:=hl2.mono hx2
   try simp [h0]
   rw [a0f,a0f] at hon
   refine (b0G (a0p i + a0p j) ho hx.1 (by omega) (by rw [hon];simp;split <;> omega)).mono ?_
   rintro _ G2 ⟨⟨s',rfl,hs'⟩,hx2⟩
   replace b0:=hx2.blk b0
   replace b1:=hx2.blk b1
   replace b2:=hx2.blk b2
   replace hx:=hx.trans hx2
   replace hl:=hl.mono hx2
   replace hl2:=hl2.mono hx2
   have hz:=a0k b2
   simp [b2,hs'.cells,hs'.plain,hz]
   exact fun _=>⟨s',rfl,hs'.setT b2 (by decide)⟩
  ·have hab:(a0p i).natAbs≤(a0p j).natAbs:=by
    (repeat' split at hlt) <;> omega
   simp [D0G,h0,b1]
   refine (b0e (kk.mono hx) hx.1 (by omega)).mono ?_
   rintro _ G2 ⟨rfl,hx2⟩
   replace b0:=hx2.blk b0
   replace b1:=hx2.blk b1
   replace b2:=hx2.blk b2
   replace hx:=hx.trans hx2
   replace hl:=hl.mono hx2
   replace hl2:=hl2.mono hx2
   try simp [h0]
   refine (f0R hl2 hl hx.1 (by omega) (b0g hab) (by rw [a0f,a0f];exact hab)).mono ?_
   rintro r G2 ⟨⟨o,ho,hon,hol⟩,hx2⟩
   replace b0:=hx2.blk b0
   replace b1:=hx2.blk b1
   replace b2:=hx2.blk b2
   replace hx:=hx.trans hx2
   replace hl:=hl.mono hx2
   replace hl2:=hl2.mono hx2
   try simp [h0]
   rw [a0f,a0f] at hon
   refine (b0G (a0p i + a0p j) ho hx.1 (by omega) (by rw [hon];simp;split <;> omega)).mono ?_
   rintro _ G2 ⟨⟨s',rfl,hs'⟩,hx2⟩
   replace b0:=hx2.blk b0
   replace b1:=hx2.blk b1
   replace b2:=hx2.blk b2
   replace hx:=hx.trans hx2
   replace hl:=hl.mono hx2
   replace hl2:=hl2.mono hx2
   have hz:=a0k b2
   simp [b2,hs'.cells,hs'.plain,hz]
   exact fun _=>⟨s',rfl,hs'.setT b2 (by decide)⟩
theorem q0T (z:Int):(a0n z).2.length=(a0e z.natAbs).length:=rfl
theorem d0B (h:b0j H v i) (k:b0j H w j) (hf:fl≤H.size) (hn:i.2.length < 536870912) (hm:j.2.length < 536870912) :
  a0N env fl x0V [v,w] H (fun r H'=>r=.int .i64 (e0C (a0p i) (a0p j))∧Ext H H') R:=by
 have hh:=h
 have kk:=k
 obtain ⟨s,rfl,hs⟩:=h
 obtain ⟨u,rfl,hu⟩:=k
 refine a0d P0X hf (h:=?_)
 intro ρ h0
 simp [M0x,B0T,h0]
 generalize hG:Array.push (Array.push H _) _=G
 have hx:Ext H G:=by rw [← hG];exact (Ext.refl H).push.push
 have b0:a0c.blk G H.size=.row false a0a [.bool i.1,s]:=by rw [← hG];simp
 have b1:a0c.blk G (H.size + 1)=.row false a0a [.bool j.1,u]:=by rw [← hG];simp
 clear hG
 simp [B0U,h0,b0,b1]
 have l1:=a0o hh.ok
 have l2:=a0o kk.ok
 refine (b0e (hh.mono hx) hx.1 (by omega)).mono ?_
 rintro _ G2 ⟨rfl,hx2⟩
 replace b0:=hx2.blk b0
 replace b1:=hx2.blk b1
 replace hx:=hx.trans hx2
 by_cases hI:a0p i < 0
 ·simp [hI,b1]
  refine (b0e (kk.mono hx) hx.1 (by omega)).mono ?_
  rintro _ G2 ⟨rfl,hx2⟩
  replace b0:=hx2.blk b0
  replace b1:=hx2.blk b1
  replace hx:=hx.trans hx2
  by_cases hJ:a0p j < 0
  ·simp [hJ,v0a,h0,b0,b1]
   refine (b0e (hh.mono hx) hx.1 (by omega)).mono ?_
   rintro _ G2 ⟨rfl,hx2⟩
   replace b0:=hx2.blk b0
   replace b1:=hx2.blk b1
   replace hx:=hx.trans hx2
   simp [hI,v0b,h0,b0,b1]
   refine (b0e (hh.mono hx) hx.1 (by omega)).mono ?_
   rintro _ G2 ⟨rfl,hx2⟩
   replace b0:=hx2.blk b0
   replace b1:=hx2.blk b1
   replace hx:=hx.trans hx2
   simp [hI,h0]
   refine a0Y ?_
   simp [B0X,h0,b0,b1]
   refine (b0p (kk.mono hx) (by have:=hx.1;omega) (by omega)).mono ?_
   rintro x G2 ⟨hl,hx2⟩
   replace b0:=hx2.blk b0
   replace b1:=hx2.blk b1
   replace hx:=hx.trans hx2
   try simp [h0,b0]
   refine (b0p (hh.mono hx) hx.1 (by omega)).mono ?_
   rintro y G2 ⟨hl2,hx2⟩
   replace hl:=hl.mono hx2
   replace b0:=hx2.blk b0
   replace b1:=hx2.blk b1
   replace hx:=hx.trans hx2
   try simp [h0,b0]
   refine (d0C hl hl2 hx.1 (by omega)).mono ?_
   rintro _ G2 ⟨rfl,hx2⟩
   rw [c0r,b0w]
   have:(if (a0p j).natAbs < (a0p i).natAbs then (-1:Int) else if (a0p i).natAbs < (a0p j).natAbs then 1 else 0)=e0C (a0p i) (a0p j):=by
    unfold e0C;(repeat' split) <;> omega
   simp [this]
  ·simp [hJ,B0V,h0]
   have:e0C (a0p i) (a0p j) = -1:=by unfold e0C;rw [R0k (by omega)]
   simp [this]
 ·simp [hI,v0a,h0,b0,b1]
  refine (b0e (hh.mono hx) hx.1 (by omega)).mono ?_
  rintro _ G2 ⟨rfl,hx2⟩
  replace b0:=hx2.blk b0
  replace b1:=hx2.blk b1
  replace hx:=hx.trans hx2
  simp [hI,h0,b1]
  refine (b0e (kk.mono hx) hx.1 (by omega)).mono ?_
  rintro _ G2 ⟨rfl,hx2⟩
  replace b0:=hx2.blk b0
  replace b1:=hx2.blk b1
  replace hx:=hx.trans hx2
  by_cases hJ:a0p j < 0
  ·simp [hJ,B0W,h0]
   have:e0C (a0p i) (a0p j)=1:=by unfold e0C;rw [R0c (by omega),R0k (by omega)]
   simp [this]
  ·simp [hJ,v0b,h0,b0]
   refine (b0e (hh.mono hx) hx.1 (by omega)).mono ?_
   rintro _ G2 ⟨rfl,hx2⟩
   replace b0:=hx2.blk b0
   replace b1:=hx2.blk b1
   replace hx:=hx.trans hx2
   simp [hI,h0]
   refine a0Y ?_
   simp [B0Y,h0,b0,b1]
   refine (b0p (hh.mono hx) (by have:=hx.1;omega) (by omega)).mono ?_
   rintro x G2 ⟨hl,hx2⟩
   replace b0:=hx2.blk b0
   replace b1:=hx2.blk b1
   replace hx:=hx.trans hx2
   try simp [h0,b1]
   refine (b0p (kk.mono hx) hx.1 (by omega)).mono ?_
   rintro y G2 ⟨hl2,hx2⟩
   replace hl:=hl.mono hx2
   replace b0:=hx2.blk b0
   replace b1:=hx2.blk b1
   replace hx:=hx.trans hx2
   try simp [h0,b0]
   refine (d0C hl hl2 hx.1 (by omega)).mono ?_
   rintro _ G2 ⟨rfl,hx2⟩
   rw [c0r,b0w]
   have:(if (a0p i).natAbs < (a0p j).natAbs then (-1:Int) else if (a0p j).natAbs < (a0p i).natAbs then 1 else 0)=e0C (a0p i) (a0p j):=by
    unfold e0C;(repeat' split) <;> omega
   simp [this]
theorem m0H {n:Int} (hf:fl≤H.size) (h1:-9223372036854775808≤n) (h2:n < 9223372036854775808) :
  a0N env fl I0J [.int .i64 n] H (fun r H'=>b0j H' r (a0n n)∧Ext H H') R:=by
 refine a0d Q0I hf (h:=?_)
 intro ρ h0
 simp only [N0h]
 refine e0c (i0q ?_)
 simp [-o0f,E0N,h0]
 generalize hG:Array.push H _=G
 have hx:Ext H G:=by rw [← hG];exact (Ext.refl H).push
 have b2:a0c.blk G H.size=.row false a0a [.bool false,.slice none 0 0]:=by rw [← hG];simp
 clear hG
 refine e0c (i0q ?_)
 simp [-o0f,E0O,h0]
 refine e0c (H0A (fun t G'=>G' = G∧t.length=19∧get t 0=.int .i64 n∧get t 2=.pointer (some ⟨H.size,0,none⟩)∧get t 3=.int .u64 ((n.natAbs:Nat):Int)) ?_ ?_)
 ·have e1:0≤n→IntKind.u64.wrap n=((n.natAbs:Nat):Int):=fun _=>by rw [a0m];omega
  have e2:n < 0→IntKind.u64.wrap (-IntKind.u64.wrap n)=((n.natAbs:Nat):Int):=fun _=>by rw [a0m,a0m];omega
  simp [E0P,E0Q,h0]
  exact ⟨e2,e1⟩
 clear h0 ρ
 rintro t G' ⟨rfl,ht,g0,g2,g3⟩
 obtain ⟨ρ,rfl⟩:=toT ht
 simp only [b0o,Nat.reduceLT] at g0 g2 g3
 simp [E0R,g0,g2,g3]
 refine (a0g hx.1).mono ?_
 rintro _ G2 ⟨rfl,hx2⟩
 replace b2:=hx2.blk b2
 replace hx:=hx.trans hx2
 try simp [g0,g2,g3]
 rw [show ((n.natAbs:Nat):Int) / 4294967296=((n.natAbs / 4294967296:Nat):Int) by omega]
 refine (a0g hx.1).mono ?_
 rintro _ G2 ⟨rfl,hx2⟩
 replace b2:=hx2.blk b2
 replace hx:=hx.trans hx2
 simp
 have hl:Lim (Array.push G2 (.row false a0b [.int .u32 (((n.natAbs:Nat):Int) % 4294967296),.int .u32 (((n.natAbs:Nat):Int) / 4294967296 % 4294967296)]))
   (.slice (some ⟨Array.size G2,0,none⟩) 2 2) [n.natAbs % 4294967296,n.natAbs / 4294967296 % 4294967296]:=by
  refine ⟨(Own.mk (fl:=0) (n:=2) (sz:=1) (cs:=b0r [n.natAbs % 4294967296,n.natAbs / 4294967296 % 4294967296]) ?_ rfl (R0H _)).sl,?_⟩
  ·rw [a0u];simp [b0r]
  ·intro x hx;simp at hx;omega
 have hx2:Ext G2 (Array.push G2 (.row false a0b [.int .u32 (((n.natAbs:Nat):Int) % 4294967296),.int .u32 (((n.natAbs:Nat):Int) / 4294967296 % 4294967296)])):=(Ext.refl G2).push
 replace b2:=hx2.blk b2
 replace hx:=hx.trans hx2
 refine (b0G n hl hx.1 (by simp) (by simp [a0l];split <;> omega)).mono ?_
 rintro _ G2 ⟨⟨s',rfl,hs'⟩,hx2⟩
 replace b2:=hx2.blk b2
 replace hx:=hx.trans hx2
 have hz:=a0k b2
 simp [b2,hs'.cells,hs'.plain,hz]
 exact fun _=>⟨s',rfl,hs'.setT b2 (by decide)⟩
theorem f0q:∀ (l:List Nat) (j z:Nat),j < l.length→a0l (l.set j z) + 4294967296 ^ j * l.getD j 0=a0l l + 4294967296 ^ j * z
 | [],j,z,h=>by simp at h
 | x :: l,0,z,_=>by simp [a0l];omega
 | x :: l,j + 1,z,h=>by
  have ih:=f0q l j z (by simpa using h)
  rw [List.set_cons_succ,List.getD_cons_succ,a0l,a0l,R0m]
  have e1:4294967296 ^ j * 4294967296 * l.getD j 0=4294967296 * (4294967296 ^ j * l.getD j 0):=by rw [R0u (4294967296 ^ j),R0i]
  have e2:4294967296 ^ j * 4294967296 * z=4294967296 * (4294967296 ^ j * z):=by rw [R0u (4294967296 ^ j),R0i]
  rw [e1,e2];omega
theorem c0p (l:List Nat) (j z:Nat):b0r (l.set j z)=(b0r l).set j (.int .u32 (z:Nat)):=by simp [b0r,List.map_set]
theorem b0q {l:List Nat} {j z:Nat} (h:a0U l) (hz:z < 4294967296):a0U (l.set j z):=by
 intro x hx
 rcases List.mem_or_eq_of_mem_set hx with hx | rfl
 ·exact h x hx
 ·exact hz
theorem d0E {G:a0c} {e n p cap:Nat} {l:List Nat} (hb:G.blk p=.row false e (b0r l)) {k:IntKind} {z:Nat} (hz:z < l.length) (hn:l.length=n) :
  iaV 1 (.slice (some ⟨p,0,none⟩) n cap) (.int k (z:Int))=some (.pointer (some ⟨p,z,none⟩))∧rd (G.blk p) z=some (.int .u32 ((l.getD z 0:Nat):Int)):=by
 refine ⟨?_,?_⟩
 ·simp only [iaV];rw [R0k (by omega)];simp
 ·rw [hb];simp [b0r,Q0T,hz]
theorem b0i {l:List Nat} {a b z:Nat} (h:a ≠ b):(l.set a z).getD b 0=l.getD b 0:=by
 rw [Q0T,Q0T,List.getElem?_set_ne h]
theorem c0X (h:b0j H v i) (k:b0j H w j) (hf:fl≤H.size) (hn:i.2.length < 268435456) (hm:j.2.length < 268435456) :
  a0N env fl w0z [v,w] H (fun r H'=>b0j H' r (a0n (a0p i * a0p j))∧Ext H H') R:=by
 have hh:=h
 have kk:=k
 obtain ⟨s,rfl,hs⟩:=h
 obtain ⟨u,rfl,hu⟩:=k
 refine a0d P0Y hf (h:=?_)
 intro ρ h0
 simp [M0y,B0Z,h0]
 generalize hG:Array.push (Array.push (Array.push H _) _) _=G
 have hx:Ext H G:=by rw [← hG];exact (Ext.refl H).push.push.push
 have b0:a0c.blk G H.size=.row false a0a [.bool i.1,s]:=by rw [← hG];simp
 have b1:a0c.blk G (H.size + 1)=.row false a0a [.bool j.1,u]:=by rw [← hG];simp
 have b2:a0c.blk G (H.size + 2)=.row false a0a [.bool false,.slice none 0 0]:=by rw [← hG];simp
 clear hG
 have l1:=a0o hh.ok
 have l2:=a0o kk.ok
 refine a0Y ?_
 simp [C0a,h0,b0,b1]
 refine (b0p (hh.mono hx) (by have:=hx.1;omega) (by omega)).mono ?_
 rintro x G2 ⟨hl,hx2⟩
 replace b0:=hx2.blk b0
 replace b1:=hx2.blk b1
 replace b2:=hx2.blk b2
 replace hx:=hx.trans hx2
 try simp [h0,b1]
 refine (b0p (kk.mono hx) hx.1 (by omega)).mono ?_
 rintro y G2 ⟨hl2,hx2⟩
 replace hl:=hl.mono hx2
 replace b0:=hx2.blk b0
 replace b1:=hx2.blk b1
 replace b2:=hx2.blk b2
 replace hx:=hx.trans hx2
 generalize hA:a0e (a0p i).natAbs=A at hl l1
 generalize hB:a0e (a0p j).natAbs=B at hl2 l2
 have w1:IntKind.i64.wrap ((A.length:Int) + (B.length:Int))=((A.length + B.length:Nat):Int):=by rw [a0S (by omega) (by omega)];omega
 have hmk:=k0x (bytes:=4) (k:=.i64) (k':=.i64) (l:=A.length + B.length) (c:=A.length + B.length) (Q0W _) (by omega) (by omega)
 simp [-Int.natCast_add,C0b,C0c,h0,hl.slen,hl2.slen,w1,hmk]
 have hP:H.size≤G2.size:=hx.1
 generalize hPd:G2.size=P at hP
 generalize hSL:Value.slice (some ⟨P,0,none⟩) (A.length + B.length) (A.length + B.length)=SL
 refine b0A (fun k t G'=>∃ a o,a + k=A.length∧t.length=78∧get t 2=.pointer (some ⟨H.size,0,none⟩)∧get t 3=.pointer (some ⟨H.size + 1,0,none⟩)∧get t 4=.pointer (some ⟨H.size + 2,0,none⟩) ∧
   get t 6=y∧get t 7=SL∧get t 23=x∧get t 24=.int .i64 A.length∧get t 25=.int .i64 ((a:Nat):Int) ∧
   Ext G2 G'∧a0c.blk G' P=.row false a0b (b0r o)∧o.length=A.length + B.length∧a0U o∧a0l o=a0l (A.take a) * a0l B∧∀ q,a + B.length≤q→o.getD q 0=0)
  (fun t G'=>∃ o,t.length=78∧get t 2=.pointer (some ⟨H.size,0,none⟩)∧get t 3=.pointer (some ⟨H.size + 1,0,none⟩)∧get t 4=.pointer (some ⟨H.size + 2,0,none⟩)∧get t 7=SL ∧
   Ext G2 G'∧a0c.blk G' P=.row false a0b (b0r o)∧o.length=A.length + B.length∧a0U o∧a0l o=a0l A * a0l B) A.length ?_ ?_ ?_
 ·refine ⟨0,List.replicate (A.length + B.length) 0,by omega,by simp,by simp,by simp,by simp,by simp,by simp,by simp,by simp,by simp,Ext.push (Ext.refl _),?_,by simp,?_,?_,?_⟩
  ·rw [← hPd,a0u]
   congr 1
   generalize A.length + B.length=n
   induction n with
   | zero=>rfl
   | succ n ih=>rw [b0Q,ih];rfl
  ·intro z hz;rw [T0c] at hz;omega
  ·simp only [S0B,a0l,Nat.zero_mul]
   generalize A.length + B.length=n
   induction n with
   | zero=>rfl
   | succ n ih=>rw [List.replicate_succ,a0l,ih]
  ·intro q _;rw [Q0T,S0K];split <;> rfl
 ·clear h0 ρ w1 hmk
  rintro k t G' ⟨a,o,hak,ht,g2,g3,g4,g6,g7,g23,g24,g25,hx2,hb,hol,hok,hs,hz⟩
  obtain ⟨ρ,rfl⟩:=toT ht
  simp only [b0o,Nat.reduceLT] at g2 g3 g4 g6 g7 g23 g24 g25
  by_cases ha:a < A.length
  ·have hla:=hl.load ha hx2
   have hia:=hl.ia (k:=.i64) ha
   have hA2:=a0z ha
   have hA3:A.getD a 0 < 4294967296:=hl.2 _ (by rw [Q0T,R0a ha];exact R0g ha)
   generalize A.getD a 0=U at hla hA2 hA3
   simp [v0j,C0d,C0e,C0f,g2,g3,g4,g6,g7,g23,g24,g25,ha,hla,hia,hl2.slen]
   refine b0A (fun k2 t G'=>∃ q c o,q + k2=B.length∧t.length=78∧get t 2=.pointer (some ⟨H.size,0,none⟩)∧get t 3=.pointer (some ⟨H.size + 1,0,none⟩)∧get t 4=.pointer (some ⟨H.size + 2,0,none⟩) ∧
     get t 6=y∧get t 7=SL∧get t 23=x∧get t 24=.int .i64 A.length∧get t 25=.int .i64 ((a:Nat):Int)∧get t 8=.int .i64 ((a:Nat):Int)∧get t 9=.int .u32 ((U:Nat):Int) ∧
     get t 10=.int .u64 ((c:Nat):Int)∧get t 30=y∧get t 31=.int .i64 B.length∧get t 32=.int .i64 ((q:Nat):Int) ∧
     Ext G2 G'∧a0c.blk G' P=.row false a0b (b0r o)∧o.length=A.length + B.length∧a0U o∧c < 4294967296 ∧
     a0l o + 4294967296 ^ (a + q) * c=a0l (A.take a) * a0l B + 4294967296 ^ a * (U * a0l (B.take q))∧∀ q,a + B.length≤q→o.getD q 0=0)
    (fun t G'=>∃ c o,t.length=78∧get t 2=.pointer (some ⟨H.size,0,none⟩)∧get t 3=.pointer (some ⟨H.size + 1,0,none⟩)∧get t 4=.pointer (some ⟨H.size + 2,0,none⟩) ∧
     get t 6=y∧get t 7=SL∧get t 23=x∧get t 24=.int .i64 A.length∧get t 25=.int .i64 ((a:Nat):Int)∧get t 8=.int .i64 ((a:Nat):Int) ∧
     get t 10=.int .u64 ((c:Nat):Int) ∧
     Ext G2 G'∧a0c.blk G' P=.row false a0b (b0r o)∧o.length=A.length + B.length∧a0U o∧c < 4294967296 ∧
     a0l o + 4294967296 ^ (a + B.length) * c=a0l (A.take (a + 1)) * a0l B∧∀ q,a + B.length≤q→o.getD q 0=0) B.length ?_ ?_ ?_
   ·exact ⟨0,0,o,by omega,by simp,by simp [g2],by simp [g3],by simp [g4],by simp [g6],by simp [g7],by simp [g23],by simp [g24],by simp [g25],by simp,by simp,by simp,by simp,by simp,by simp,
     hx2,hb,hol,hok,by omega,by simp [hs,a0l],hz⟩
   ·clear hs hz hok hol hb hx2 hla o g2 g3 g4 g6 g7 g23 g24 g25 ht ρ G'
    rintro k2 t G' ⟨q,c,o,hqk,ht,g2,g3,g4,g6,g7,g23,g24,g25,g8,g9,g10,g30,g31,g32,hx2,hb,hol,hok,hc,hs,hz⟩
    obtain ⟨ρ,rfl⟩:=toT ht
    simp only [b0o,Nat.reduceLT] at g2 g3 g4 g6 g7 g23 g24 g25 g8 g9 g10 g30 g31 g32
    by_cases hq:q < B.length
    ·have hlb:=hl2.load hq hx2
     have hib:=hl2.ia (k:=.i64) hq
     have hB2:=a0z hq
     have hB3:B.getD q 0 < 4294967296:=hl2.2 _ (by rw [Q0T,R0a hq];exact R0g hq)
     generalize B.getD q 0=V at hlb hB2 hB3
     have hlo:a + q < o.length:=by omega
     obtain ⟨hio,hro⟩:=d0E (k:=.i64) (cap:=A.length + B.length) hb hlo hol
     rw [hSL] at hio
     have hset:=f0q o (a + q) ((c + (U * V + o.getD (a + q) 0)) % 4294967296) hlo
     have hW3:o.getD (a + q) 0 < 4294967296:=hok _ (by rw [Q0T,R0a hlo];exact R0g hlo)
     generalize o.getD (a + q) 0=Wd at hro hset hW3
     have hUV:U * V≤4294967295 * 4294967295:=S0k (by omega) (by omega)
     have e1:IntKind.u64.wrap (U:Int)=(U:Int):=by rw [a0m];omega
     have e2:IntKind.u64.wrap (V:Int)=(V:Int):=by rw [a0m];omega
     have e3:IntKind.u64.wrap (Wd:Int)=(Wd:Int):=by rw [a0m];omega
     have e4:IntKind.u64.wrap ((U:Int) * (V:Int))=((U * V:Nat):Int):=by rw [a0m,← S0F];omega
     have e5:IntKind.u64.wrap (((U * V:Nat):Int) + (Wd:Int))=((U * V + Wd:Nat):Int):=by rw [a0m];omega
     have e6:IntKind.u64.wrap ((c:Int) + ((U * V + Wd:Nat):Int))=((c + (U * V + Wd):Nat):Int):=by rw [a0m];omega
     have e7:IntKind.i64.wrap ((a:Int) + (q:Int))=((a + q:Nat):Int):=by rw [a0S (by omega) (by omega)];omega
     have e8:IntKind.i64.wrap ((q:Int) + 1)=((q + 1:Nat):Int):=by rw [a0S (by omega) (by omega)];omega
     simp [-Int.natCast_add,-Int.natCast_mul,v0k,C0g,v0c,v0d,v0e,v0f,g2,g3,g4,g6,g7,g23,g24,g25,g8,g9,g10,g30,g31,g32,hq,hlb,hib,e1,e2,e3,e4,e5,e6,e7,e8,hio,hro]
     refine (a0g (by have:=hx2.1;omega)).mono ?_
     rintro _ G3 ⟨rfl,hx3⟩
     replace hb:=hx3.blk hb
     have hxx:=hx2.trans hx3
     have hPl:=a0k hb
     have hle:a + q + 1≤o.length:=hlo
     generalize hc1:c + (U * V + Wd)=c1 at *
     simp [-Int.natCast_emod,-Int.natCast_ediv,-Int.natCast_add,hb,hP,hle]
     refine ⟨k2 - 1,by omega,q + 1,by omega,c1 / 4294967296,by omega,rfl,hxx.set (by omega),o.set (a + q) (c1 % 4294967296),by rw [a0r hPl,c0p],by simp [hol],b0q hok (by omega),by omega,?_,?_⟩
     ·have f1:4294967296 ^ (a + (q + 1)) * (c1 / 4294967296)=4294967296 ^ (a + q) * (4294967296 * (c1 / 4294967296)):=by
       rw [show a + (q + 1)=a + q + 1 by omega,R0m,R0i]
      have f2:4294967296 ^ (a + q) * (c1 % 4294967296) + 4294967296 ^ (a + q) * (4294967296 * (c1 / 4294967296))=4294967296 ^ (a + q) * c1:=by rw [← R0b,S0P]
      have f3:4294967296 ^ (a + q) * c1=4294967296 ^ (a + q) * c + (4294967296 ^ (a + q) * (U * V) + 4294967296 ^ (a + q) * Wd):=by rw [← hc1,R0b,R0b]
      have f4:4294967296 ^ a * (U * (a0l (List.take q B) + 4294967296 ^ q * V))=4294967296 ^ a * (U * a0l (List.take q B)) + 4294967296 ^ (a + q) * (U * V):=by
       rw [R0b,R0b,S0C]
       congr 1
       rw [R0i,S0r U]
      rw [hB2,f4,f1]
      omega
     ·intro r hr
      have:=hz r hr
      rw [← Q0T,b0i (by omega)];exact this
    ·simp [v0k,g2,g3,g4,g6,g7,g23,g24,g25,g8,g9,g10,g30,g31,g32,hq]
     have:q=B.length:=by omega
     subst this
     refine ⟨c,rfl,hx2,o,hb,hol,hok,hc,?_,by simpa using hz⟩
     rw [hs,R0j (Q0W _),hA2,R0o,R0i]
   ·clear hs hz hok hol hb hx2 hla o g2 g3 g4 g6 g7 g23 g24 g25 ht ρ G'
    rintro t G' ⟨c,o,ht,g2,g3,g4,g6,g7,g23,g24,g25,g8,g10,hx2,hb,hol,hok,hc,hs,hz⟩
    obtain ⟨ρ,rfl⟩:=toT ht
    simp only [b0o,Nat.reduceLT] at g2 g3 g4 g6 g7 g23 g24 g25 g8 g10
    have hlo:a + B.length < o.length:=by omega
    obtain ⟨hio,hro⟩:=d0E (k:=.i64) (cap:=A.length + B.length) hb hlo hol
    rw [hSL] at hio
    have hset:=f0q o (a + B.length) (c % 4294967296) hlo
    rw [hz _ (Q0W _)] at hset
    have e7:IntKind.i64.wrap ((a:Int) + (B.length:Int))=((a + B.length:Nat):Int):=by rw [a0S (by omega) (by omega)];omega
    have e8:IntKind.i64.wrap ((a:Int) + 1)=((a + 1:Nat):Int):=by rw [a0S (by omega) (by omega)];omega
    simp [-Int.natCast_add,v0g,g2,g3,g4,g6,g7,g23,g24,g25,g8,g10,hl2.slen,e7,hio]
    refine (a0g (by have:=hx2.1;omega)).mono ?_
    rintro _ G3 ⟨rfl,hx3⟩
    replace hb:=hx3.blk hb
    have hxx:=hx2.trans hx3
    have hPl:=a0k hb
    have hle:a + B.length + 1≤o.length:=hlo
    simp [-Int.natCast_emod,-Int.natCast_ediv,-Int.natCast_add,v0h,g2,g3,g4,g6,g7,g23,g24,g25,hb,hP,hle,e8]
    refine ⟨k - 1,by omega,a + 1,by omega,rfl,hxx.set (by omega),o.set (a + B.length) (c % 4294967296),by rw [a0r hPl,c0p],by simp [hol],b0q hok (by omega),?_,?_⟩
    ·rw [R0s hc] at hset ⊢
     omega
    ·intro r hr
     have:=hz r (by omega)
     rw [← Q0T,b0i (by omega)];exact this
  ·simp [v0j,g2,g3,g4,g6,g7,g23,g24,g25,ha]
   have:a=A.length:=by omega
   subst this
   exact ⟨hx2,o,hb,hol,hok,by rw [hs,R0j (Q0W _)]⟩
 ·clear h0 ρ w1 hmk
  rintro t G' ⟨o,ht,g2,g3,g4,g7,hx2,hb,hol,hok,hs⟩
  obtain ⟨ρ,rfl⟩:=toT ht
  simp only [b0o,Nat.reduceLT] at g2 g3 g4 g7
  replace b0:=hx2.blk b0
  replace b1:=hx2.blk b1
  replace b2:=hx2.blk b2
  replace hx:=hx.trans hx2
  have hy:Lim G' SL o:=by
   rw [← hSL,← hol]
   exact ⟨(Own.mk (fl:=0) hb (by simp) (R0H _)).sl,hok⟩
  refine a0Y ?_
  simp [v0i,g2,g3,g4,g7,b0,b1]
  refine (b0e (hh.mono hx) (by have:=hx.1;omega) (by omega)).mono ?_
  rintro _ G2 ⟨rfl,hx2⟩
  replace b0:=hx2.blk b0
  replace b1:=hx2.blk b1
  replace b2:=hx2.blk b2
  replace hx:=hx.trans hx2
  replace hy:=hy.mono hx2
  try simp [g2,g3,g4,g7,b1]
  refine (b0e (kk.mono hx) hx.1 (by omega)).mono ?_
  rintro _ G2 ⟨rfl,hx2⟩
  replace b0:=hx2.blk b0
  replace b1:=hx2.blk b1
  replace b2:=hx2.blk b2
  replace hx:=hx.trans hx2
  replace hy:=hy.mono hx2
  try simp [g2,g3,g4,g7,b1]
  have hAn:a0l A=(a0p i).natAbs:=by rw [← hA,a0f]
  have hBn:a0l B=(a0p j).natAbs:=by rw [← hB,a0f]
  rw [hAn,hBn,← Int.natAbs_mul] at hs
  have hsgn:(if (decide (a0p i < 0) != decide (a0p j < 0))=true then -((a0p i * a0p j).natAbs:Int) else ((a0p i * a0p j).natAbs:Int))=a0p i * a0p j:=by
   by_cases hi:a0p i < 0 <;> by_cases hj:a0p j < 0
   ·have:=Int.mul_pos_of_neg_of_neg hi hj
    simp [hi,hj];omega
   ·have:=S0w (Int.le_of_lt hi) (show 0≤a0p j by omega)
    simp [hi,hj];omega
   ·have:=Int.mul_nonpos_of_nonneg_of_nonpos (show 0≤a0p i by omega) (Int.le_of_lt hj)
    simp [hi,hj];omega
   ·have:=Int.mul_nonneg (show 0≤a0p i by omega) (show 0≤a0p j by omega)
    simp [hi,hj];omega
  refine (b0G (a0p i * a0p j) hy hx.1 (by omega) (by rw [hs];exact hsgn)).mono ?_
  rintro _ G2 ⟨⟨s',rfl,hs'⟩,hx2⟩
  replace b0:=hx2.blk b0
  replace b1:=hx2.blk b1
  replace b2:=hx2.blk b2
  replace hx:=hx.trans hx2
  have hz:=a0k b2
  simp [b2,hs'.cells,hs'.plain,hz,g4]
  exact fun _=>⟨s',rfl,hs'.setT b2 (by decide)⟩
end
section
open Go
section
variable {tag:Nat}
theorem l0q (n:Nat):IntKind.u64.wrap (n:Int)=((n % 18446744073709551616:Nat):Int):=by rw [a0m];omega
theorem l0p (n:Nat):IntKind.u32.wrap (n:Int)=((n % 4294967296:Nat):Int):=by rw [d0t];omega
theorem x0C {n s:Nat} {k':IntKind} (hs:s≤64):b0X tag .shl (.int .u64 (n:Int)) (.int k' (s:Int))=some (.int .u64 ((n * 2 ^ s % 18446744073709551616:Nat):Int)):=by
 rw [o0h (by omega)]
 have:min (s:Int).toNat IntKind.u64.bits=s:=by show min (s:Int).toNat 64=s;omega
 rw [this]
 have e:(n:Int) * 2 ^ s=((n * 2 ^ s:Nat):Int):=by simp
 rw [e,l0q]
theorem l0m {n s:Nat} {k':IntKind} (hs:s≤32):b0X tag .shl (.int .u32 (n:Int)) (.int k' (s:Int))=some (.int .u32 ((n * 2 ^ s % 4294967296:Nat):Int)):=by
 rw [o0h (by omega)]
 have:min (s:Int).toNat IntKind.u32.bits=s:=by show min (s:Int).toNat 32=s;omega
 rw [this]
 have e:(n:Int) * 2 ^ s=((n * 2 ^ s:Nat):Int):=by simp
 rw [e,l0p]
theorem G0s {n s:Nat} {k':IntKind} (hs:s≤64):b0X tag .shr (.int .u64 (n:Int)) (.int k' (s:Int))=some (.int .u64 ((n / 2 ^ s:Nat):Int)):=by
 rw [i0f (by omega)]
 have:min (s:Int).toNat IntKind.u64.bits=s:=by show min (s:Int).toNat 64=s;omega
 rw [this]
 have e:(2:Int) ^ s=((2 ^ s:Nat):Int):=by simp
 rw [e,w0C]
theorem l0n {n s:Nat} {k':IntKind} (hs:s≤32):b0X tag .shr (.int .u32 (n:Int)) (.int k' (s:Int))=some (.int .u32 ((n / 2 ^ s:Nat):Int)):=by
 rw [i0f (by omega)]
 have:min (s:Int).toNat IntKind.u32.bits=s:=by show min (s:Int).toNat 32=s;omega
 rw [this]
 have e:(2:Int) ^ s=((2 ^ s:Nat):Int):=by simp
 rw [e,w0C]
theorem L0F {a b:Nat} (ha:a < 18446744073709551616) (hb:b < 18446744073709551616):b0X tag .or (.int .u64 (a:Int)) (.int .u64 (b:Int))=some (.int .u64 ((a ||| b:Nat):Int)):=by
 rw [h0d]
 have e1:(BitVec.ofInt IntKind.u64.bits (a:Int) ||| BitVec.ofInt IntKind.u64.bits (b:Int)).toNat=a ||| b:=by
  show (BitVec.ofInt 64 (a:Int) ||| BitVec.ofInt 64 (b:Int)).toNat=a ||| b
  rw [BitVec.toNat_or]
  simp only [BitVec.ofInt_natCast,BitVec.toNat_ofNat]
  rw [R0s (by omega),R0s (by omega)]
 rw [e1,l0q]
 have:a ||| b < 2 ^ 64:=Nat.or_lt_two_pow (by omega) (by omega)
 rw [R0s (by omega)]
theorem H0E {a:Nat}:b0X tag .and (.int .u64 (a:Int)) (.int .u64 4294967295)=some (.int .u64 ((a % 4294967296:Nat):Int)):=by
 rw [w0n]
 have e1:(BitVec.ofInt IntKind.u64.bits (a:Int) &&& BitVec.ofInt IntKind.u64.bits (4294967295:Int)).toNat=a % 4294967296:=by
  show (BitVec.ofInt 64 (a:Int) &&& BitVec.ofInt 64 (4294967295:Int)).toNat=a % 4294967296
  rw [BitVec.toNat_and]
  have:(BitVec.ofInt 64 (4294967295:Int)).toNat=2 ^ 32 - 1:=rfl
  rw [this,Nat.and_two_pow_sub_one_eq_mod]
  simp only [BitVec.ofInt_natCast,BitVec.toNat_ofNat]
  omega
 rw [e1,l0q,R0s (by omega)]
theorem o0t {x y:Nat} (h:y < 4294967296):x * 4294967296 ||| y=x * 4294967296 + y:=by
 have:=S0t (i:=32) (b:=y) (by omega) x
 rw [R0u] at this
 exact this.symm
theorem J0h {a b:Nat} (ha:a < 18446744073709551616) (hb:b ≠ 0):b0X tag .quo (.int .u64 (a:Int)) (.int .u64 (b:Int))=some (.int .u64 ((a / b:Nat):Int)):=by
 rw [w0p (by omega),S0d (by omega)]
 have:(a:Int) / (b:Int)=((a / b:Nat):Int):=rfl
 rw [this,l0q,R0s (T0d (Nat.div_le_self a b) ha)]
theorem K0Q {a b:Nat} (hb:b ≠ 0):b0X tag .rem (.int .u64 (a:Int)) (.int .u64 (b:Int))=some (.int .u64 ((a % b:Nat):Int)):=by
 rw [w0q (by omega),Int.tmod_eq_emod_of_nonneg (by omega)]
 rfl
end
end
section
open Go
set_option maxHeartbeats 4000000
variable {fl:Nat} {H:a0c} {R:a0E} {v w:Value} {a:List Nat}
theorem d0P {l:List Nat} {n:Nat} (h:n < l.length):a0l (l.drop n)=l.getD n 0 + 4294967296 * a0l (l.drop (n + 1)):=by
 rw [R0L h,a0l,Q0T,R0a h];rfl
theorem j0A {d:Nat} (ha:Lim H v a) (hf:fl≤H.size) (hna:a.length≤1073741824) (hd:0 < d) (hd2:d < 4294967296) :
  a0N env fl q0E [v,.int .u32 (d:Int)] H (fun r H'=>(∃ q o,r=.tuple #[q,.int .u32 ((a0l a % d:Nat):Int)]∧Lim H' q o∧a0l o=a0l a / d∧o.length=a.length)∧Ext H H') R:=by
 refine a0d O0n hf (h:=?_)
 intro ρ h0
 simp only [x0p]
 have hm:=k0x (bytes:=4) (k:=.i64) (k':=.i64) (l:=a.length) (c:=a.length) (Q0W _) (by omega) (by omega)
 have w1:IntKind.i64.wrap ((a.length:Int) - 1)=(a.length:Int) - 1:=a0S (by omega) (by omega)
 simp [s0R,s0S,s0T,s0U,h0,ha.slen,hm,w1]
 generalize hPd:H.size=P
 have hP:H.size≤P:=by omega
 generalize hSL:Value.slice (some ⟨P,0,none⟩) a.length a.length=SL
 refine b0A (fun k t G'=>∃ r o,t.length=42∧get t 0=v∧get t 1=.int .u32 (d:Int)∧get t 6=SL∧get t 7=.int .u64 ((r:Nat):Int)∧get t 8=.int .i64 ((k:Int) - 1)∧k≤a.length ∧
   Ext H G'∧a0c.blk G' P=.row false a0b (b0r o)∧o.length=a.length∧a0U o∧r < d∧a0l (o.drop k) * d + r=a0l (a.drop k))
  (fun t G'=>∃ r o,t.length=42∧get t 6=SL∧get t 7=.int .u64 ((r:Nat):Int) ∧
   Ext H G'∧a0c.blk G' P=.row false a0b (b0r o)∧o.length=a.length∧a0U o∧r < d∧a0l o * d + r=a0l a) a.length ?_ ?_ ?_
 ·refine ⟨0,List.replicate a.length 0,by simp,by simp [h0],by simp [h0],by simp,by simp,by simp,by omega,Ext.push (Ext.refl _),?_,by simp,?_,hd,?_⟩
  ·rw [← hPd,a0u]
   congr 1
   generalize a.length=n
   induction n with
   | zero=>rfl
   | succ n ih=>rw [b0Q,ih];rfl
  ·intro z hz;rw [T0c] at hz;omega
  ·simp [a0l]
 ·clear h0 ρ hm w1
  rintro k t G' ⟨r,o,ht,g0,g1,g6,g7,g8,hk,hx2,hb,hol,hok,hr,hs⟩
  obtain ⟨ρ,rfl⟩:=toT ht
  simp only [b0o,Nat.reduceLT] at g0 g1 g6 g7 g8
  by_cases hk0:k=0
  ·subst hk0
   simp [n0l,g0,g1,g6,g7,g8]
   exact ⟨r,rfl,hx2,o,hb,hol,hok,hr,by simpa using hs⟩
  ·have e0:(k:Int) - 1=((k - 1:Nat):Int):=by omega
   have hka:k - 1 < a.length:=by omega
   rw [e0] at g8
   have hla:=ha.load hka hx2
   have hia:=ha.ia (k:=.i64) hka
   have hA2:=d0P hka
   have hA3:a.getD (k - 1) 0 < 4294967296:=ha.2 _ (by rw [Q0T,R0a hka];exact R0g hka)
   generalize a.getD (k - 1) 0=A at hla hA2 hA3
   have hlo:k - 1 < o.length:=by omega
   obtain ⟨hio,hro⟩:=d0E (k:=.i64) (cap:=a.length) hb hlo hol
   rw [hSL] at hio
   have s2:r * 2 ^ 32 % 18446744073709551616=r * 4294967296:=by omega
   have s1:b0X 0 .shl (.int .u64 (r:Int)) (.int .u64 32)=some (.int .u64 ((r * 4294967296:Nat):Int)):=by
    have:=x0C (tag:=0) (n:=r) (s:=32) (k':=.u64) (by omega)
    rw [s2] at this;exact this
   have s3:=L0F (tag:=0) (a:=r * 4294967296) (b:=A) (by omega) (by omega)
   rw [o0t hA3] at s3
   have eA:IntKind.u64.wrap (A:Int)=(A:Int):=by rw [a0m];omega
   have eD:IntKind.u64.wrap (d:Int)=(d:Int):=by rw [a0m];omega
   have s4:=J0h (tag:=0) (a:=r * 4294967296 + A) (b:=d) (by omega) (by omega)
   have s5:=K0Q (tag:=0) (a:=r * 4294967296 + A) (b:=d) (by omega)
   have w2:IntKind.i64.wrap (((k - 1:Nat):Int) - 1)=((k - 1:Nat):Int) - 1:=a0S (by omega) (by omega)
   simp [-Int.natCast_add,-Int.natCast_mul,-Int.natCast_ediv,-Int.natCast_emod,n0l,s0V,s0W,s0X,s0Y,g0,g1,g6,g7,g8,hla,hia,s1,s3,eA,eD,s4,s5,hio,w2]
   have hq1:(r * 4294967296 + A) / d < 4294967296:=by
    rw [S0l hd]
    have:(r + 1) * 4294967296≤d * 4294967296:=R0h _ hr
    rw [R0u 4294967296 d];omega
   have hq2:=S0H (r * 4294967296 + A) d
   have hq3:=R0V (r * 4294967296 + A) hd
   clear s4 s5
   generalize (r * 4294967296 + A) / d=Q at hq1 hq2 ⊢
   generalize (r * 4294967296 + A) % d=r2 at hq2 hq3 ⊢
   refine (a0g (by have:=hx2.1;omega)).mono ?_
   rintro _ G3 ⟨rfl,hx3⟩
   replace hb:=hx3.blk hb
   have hxx:=hx2.trans hx3
   have hPl:=a0k hb
   have hle:k - 1 + 1≤o.length:=hlo
   rw [R0s hq1]
   simp [-Int.natCast_emod,-Int.natCast_ediv,-Int.natCast_add,hb,hle]
   refine ⟨k - 1,by omega,r2,rfl,rfl,by omega,hxx.set (by omega),o.set (k - 1) Q,by rw [a0r hPl,c0p],by simp [hol],b0q hok hq1,hq3,?_⟩
   have hdr:a0l ((o.set (k - 1) Q).drop (k - 1))=Q + 4294967296 * a0l (o.drop k):=by
    rw [d0P (by simpa using hlo),Q0T,S0g hlo,show k - 1 + 1=k by omega,List.drop_set_of_lt (by omega)];rfl
   rw [hdr,hA2,show k - 1 + 1=k by omega,← hs,R0o,R0i,R0u Q d]
   generalize a0l (List.drop k o) * d=Z
   omega
 ·clear h0 ρ hm w1
  rintro t G' ⟨r,o,ht,g6,g7,hx2,hb,hol,hok,hr,hs⟩
  obtain ⟨ρ,rfl⟩:=toT ht
  simp only [b0o,Nat.reduceLT] at g6 g7
  have hy:Lim G' SL o:=by
   rw [← hSL,← hol]
   exact ⟨(Own.mk (fl:=0) hb (by simp) (R0H _)).sl,hok⟩
  simp [s0Z,g6,g7]
  refine (a0g (by have:=hx2.1;omega)).mono ?_
  rintro _ G3 ⟨rfl,hx3⟩
  have e1:a0l a % d=r:=by rw [← hs,R0u,Nat.mul_add_mod,R0s hr]
  have e2:a0l a / d=a0l o:=by rw [← hs,R0u,Nat.mul_add_div hd,S0p hr];rfl
  have e3:((a0l a:Nat):Int) % (d:Int)=((r:Nat):Int):=by rw [← e1];rfl
  rw [R0s (by omega),e3,e2]
  simp
  exact fun _=>⟨o,hy.mono hx3,rfl,hol⟩
end
section
open Go
set_option maxHeartbeats 4000000
variable {fl:Nat} {H:a0c} {R:a0E} {v w:Value} {a b:List Nat}
theorem r0k {x y s:Nat} (h:y < 2 ^ s):y ||| x * 2 ^ s=y + x * 2 ^ s:=by
 have:=S0t (i:=s) (b:=y) h x
 rw [Nat.or_comm,R0u x,← this,Nat.add_comm]
theorem e0z {n:Nat} (ha:Lim H v a) (hf:fl≤H.size) (hna:a.length < 1073741824) (hn:n < 32) :
  a0N env fl p0v [v,.int .i64 (n:Int)] H (fun r H'=>(∃ o,Own H.size H' a0b 1 r (a.length + 1) (b0r o)∧a0U o∧a0l o=a0l a * 2 ^ n∧o.length=a.length + 1)∧Ext H H') R:=by
 refine a0d O0v hf (h:=?_)
 intro ρ h0
 simp only [x0w]
 have hm:=J0b (bytes:=4) (k:=.i64) (k':=.i64) (l:=0) (c:=(a.length:Int) + 1) (by omega) (by omega) (by omega) (by omega)
 have w1:IntKind.i64.wrap ((a.length:Int) + 1)=(a.length:Int) + 1:=a0S (by omega) (by omega)
 simp [t0O,t0P,t0Q,t0R,h0,ha.slen,hm,w1]
 have hp:2 ^ n≤2147483648:=S0q (n:=2) (by omega) (show n≤31 by omega)
 have hp0:0 < 2 ^ n:=S0Q n
 refine b0A (fun k t G'=>∃ i c out s,i + k=a.length∧t.length=38∧get t 1=.int .i64 (n:Int)∧get t 5=s∧get t 6=.int .u64 ((c:Nat):Int)∧get t 13=v∧get t 14=.int .i64 a.length∧get t 15=.int .i64 ((i:Nat):Int) ∧
   Ext H G'∧Own H.size G' a0b 1 s i (b0r out)∧a0U out∧out.length=i∧c < 2 ^ n∧a0l out + 4294967296 ^ i * c=a0l (a.take i) * 2 ^ n)
  (fun t G'=>∃ c out s,t.length=38∧get t 5=s∧get t 6=.int .u64 ((c:Nat):Int) ∧
   Ext H G'∧Own H.size G' a0b 1 s a.length (b0r out)∧a0U out∧out.length=a.length∧c < 2 ^ n∧a0l out + 4294967296 ^ a.length * c=a0l a * 2 ^ n) a.length ?_ ?_ ?_
 ·exact ⟨0,0,[],.slice (some ⟨H.size,0,none⟩) 0 (a.length + 1),by omega,by simp,by simp [h0],by simp,by simp,by simp [h0],by simp,by simp,by simp,
   Own.mk (by simp [b0r]) rfl (Q0W _),by intro x hx;simp at hx,rfl,hp0,by simp [a0l]⟩
 ·clear hm w1 h0 ρ
  rintro k t G' ⟨i,c,out,s,hik,ht,g1,g5,g6,g13,g14,g15,hx,ho,hok,hol,hc,hs⟩
  obtain ⟨ρ,rfl⟩:=toT ht
  simp only [b0o,Nat.reduceLT] at g1 g5 g6 g13 g14 g15
  by_cases hi:i < a.length
  ·have hla:=ha.load hi hx
   have hia:=ha.ia (k:=.i64) hi
   have hA2:=a0z hi
   have hA3:a.getD i 0 < 4294967296:=ha.2 _ (by rw [Q0T,R0a hi];exact R0g hi)
   generalize a.getD i 0=A at hla hA2 hA3
   have eA:IntKind.u64.wrap (A:Int)=(A:Int):=by rw [a0m];omega
   have hAn:A * 2 ^ n≤4294967295 * 2147483648:=S0k (by omega) hp
   have s1:=x0C (tag:=0) (n:=A) (s:=n) (k':=.i64) (by omega)
   rw [R0s (by omega)] at s1
   have s2:=L0F (tag:=0) (a:=c) (b:=A * 2 ^ n) (by omega) (by omega)
   rw [r0k hc] at s2
   have e9:IntKind.i64.wrap ((i:Int) + 1)=((i + 1:Nat):Int):=by rw [a0S (by omega) (by omega)];omega
   simp [-Int.natCast_add,-Int.natCast_mul,-Int.natCast_pow,n0A,t0S,t0T,t0U,t0V,t0W,g1,g5,g6,g13,g14,g15,hi,hia,hla,eA,s1,s2]
   generalize hD:c + A * 2 ^ n=D
   refine (a0g hx.1).mono ?_
   rintro _ G2 ⟨rfl,hx2⟩
   obtain ⟨s',G3,h1,h2,h3,h4⟩:=c0E (e2:=a0b) (new:=[.int .u32 ((D % 4294967296:Nat):Int)]) (c:=1) (bytes:=4) (ho.mono hx2) rfl rfl (by omega) (by omega) (by omega) (by have:=hx.1;have:=hx2.1;omega)
   simp [-Int.natCast_emod,-Int.natCast_add,h1,g1,g5,g6,g13,g14,g15,e9]
   have hDq:D / 4294967296 < 2 ^ n:=by
    rw [S0l (by omega),← hD]
    have:(A + 1) * 2 ^ n≤4294967296 * 2 ^ n:=R0h _ hA3
    rw [R0o] at this
    rw [R0u (2 ^ n)];omega
   refine ⟨k - 1,by omega,i + 1,by omega,D / 4294967296,rfl,rfl,h4 _ (Q0W _) (hx.trans hx2),out ++ [D % 4294967296],by simpa [b0r] using h2,?_,by simp [hol],hDq,?_⟩
   ·intro x hx
    rcases R0v.1 hx with hx | hx
    ·exact hok x hx
    ·simp at hx;omega
   ·rw [b0z,hol,hA2,R0m,R0o,← hs]
    have e3:4294967296 ^ i * 4294967296 * (D / 4294967296)=4294967296 ^ i * (4294967296 * (D / 4294967296)):=R0i ..
    have e4:4294967296 ^ i * (D % 4294967296) + 4294967296 ^ i * (4294967296 * (D / 4294967296))=4294967296 ^ i * D:=by rw [← R0b,S0P]
    have e5:4294967296 ^ i * D=4294967296 ^ i * c + 4294967296 ^ i * A * 2 ^ n:=by rw [← hD,R0b,R0i]
    omega
  ·simp [n0A,g1,g5,g6,g13,g14,g15,hi]
   have:i=a.length:=by omega
   subst this
   refine ⟨c,rfl,hx,out,ho,hok,hol,hc,?_⟩
   rw [hs,R0j (Q0W _)]
 ·clear hm w1 h0 ρ
  rintro t G' ⟨c,out,s,ht,g5,g6,hx,ho,hok,hol,hc,hs⟩
  obtain ⟨ρ,rfl⟩:=toT ht
  simp only [b0o,Nat.reduceLT] at g5 g6
  simp [o0P,g5,g6]
  refine (a0g hx.1).mono ?_
  rintro _ G2 ⟨rfl,hx2⟩
  obtain ⟨s',G3,h1,h2,h3,h4⟩:=c0E (e2:=a0b) (new:=[.int .u32 ((c % 4294967296:Nat):Int)]) (c:=1) (bytes:=4) (ho.mono hx2) rfl rfl (by omega) (by omega) (by omega) (by have:=hx.1;have:=hx2.1;omega)
  simp [-Int.natCast_emod,-Int.natCast_add,h1]
  refine fun _=>⟨out ++ [c % 4294967296],by simpa [hol,b0r] using h2,?_,?_,by simp [hol]⟩
  ·intro x hx
   rcases R0v.1 hx with hx | hx
   ·exact hok x hx
   ·simp at hx;omega
  ·rw [b0z,hol,R0s (by omega)];exact hs
theorem l0B {n A N A1 M:Nat} (hn:n < 32) (hA:A < 4294967296) (hN:N=A1 + 4294967296 * M) :
  (A + 4294967296 * N) / 2 ^ n=(A + A1 * 4294967296) / 2 ^ n % 4294967296 + 4294967296 * (N / 2 ^ n):=by
 have hB:(4294967296:Nat)=2 ^ n * 2 ^ (32 - n):=by rw [← S0C,show n + (32 - n)=32 by omega]
 have hP:=S0Q n
 have hQ:=S0Q (32 - n)
 generalize 2 ^ n=P at *
 generalize 2 ^ (32 - n)=Q at *
 have e1:(A + 4294967296 * N) / P=A / P + Q * N:=by rw [hB,R0i,Nat.add_mul_div_left _ _ hP]
 have e2:(A + A1 * 4294967296) / P=A / P + Q * A1:=by rw [R0u A1,hB,R0i,Nat.add_mul_div_left _ _ hP]
 have e3:N % P=A1 % P:=by rw [hN,hB,R0i,Nat.add_mul_mod_self_left]
 have e4:Q * N=4294967296 * (N / P) + Q * (A1 % P):=by
  have:=S0H N P
  rw [e3] at this
  calc Q * N=Q * (P * (N / P) + A1 % P):=by rw [this]
   _=_:=by rw [R0b,← R0i,R0u Q P,← hB]
 have e5:Q * A1=4294967296 * (A1 / P) + Q * (A1 % P):=by
  have:=S0H A1 P
  calc Q * A1=Q * (P * (A1 / P) + A1 % P):=by rw [this]
   _=_:=by rw [R0b,← R0i,R0u Q P,← hB]
 have h1:A / P < Q:=by rw [S0l hP,R0u,← hB];exact hA
 have h2:Q * (A1 % P) + Q≤4294967296:=by
  have:=R0V A1 hP
  have:Q * (A1 % P + 1)≤Q * P:=R0y Q this
  rw [R0b,R0u Q P,← hB] at this
  omega
 rw [e1,e2,e4,e5]
 clear e1 e2 e3 e4 e5 hN
 generalize A / P=x at *
 generalize N / P=y at *
 generalize A1 / P=z at *
 generalize Q * (A1 % P)=q at *
 omega
theorem b0Z {o:List Nat} {i z:Nat} (hlo:i < o.length):a0l (List.take (i + 1) (o.set i z))=a0l (List.take i o) + 4294967296 ^ i * z:=by
 rw [c0Q (by simpa using hlo),b0z,S0c,List.length_set,R0I (by omega),List.take_set_of_le (by omega),Q0T,S0g hlo,R0G]
theorem o0g {x y z s i q:Nat} (h:x=y + 4294967296 ^ i * z) (hs:y + 4294967296 ^ i * (z + 4294967296 * q)=s):x + 4294967296 ^ (i + 1) * q=s:=by
 rw [h,← hs,R0m,R0b,R0i,R0R]
theorem k0y {n:Nat} (ha:Lim H v a) (hf:fl≤H.size) (hna:a.length < 1073741824) (hn:n < 32) :
  a0N env fl q0M [v,.int .i64 (n:Int)] H (fun r H'=>(∃ o,Lim H' r o∧a0l o=a0l a / 2 ^ n∧o.length=a.length)∧Ext H H') R:=by
 refine a0d O0y hf (h:=?_)
 intro ρ h0
 simp only [x0z]
 have hm:=k0x (bytes:=4) (k:=.i64) (k':=.i64) (l:=a.length) (c:=a.length) (Q0W _) (by omega) (by omega)
 simp [u0d,u0e,u0f,h0,ha.slen,hm]
 generalize hPd:H.size=P
 generalize hSL:Value.slice (some ⟨P,0,none⟩) a.length a.length=SL
 refine b0A (fun k t G'=>∃ i o,i + k=a.length∧t.length=44∧get t 0=v∧get t 1=.int .i64 (n:Int)∧get t 5=SL∧get t 12=.int .i64 a.length∧get t 13=.int .i64 ((i:Nat):Int) ∧
   Ext H G'∧a0c.blk G' P=.row false a0b (b0r o)∧o.length=a.length∧a0U o∧a0l (o.take i) + 4294967296 ^ i * (a0l (a.drop i) / 2 ^ n)=a0l a / 2 ^ n)
  (fun t G'=>∃ o,t.length=44∧get t 5=SL ∧
   Ext H G'∧a0c.blk G' P=.row false a0b (b0r o)∧o.length=a.length∧a0U o∧a0l o=a0l a / 2 ^ n) a.length ?_ ?_ ?_
 ·refine ⟨0,List.replicate a.length 0,by omega,by simp,by simp [h0],by simp [h0],by simp,by simp,by simp,Ext.push (Ext.refl _),?_,by simp,?_,by simp [a0l]⟩
  ·rw [← hPd,a0u]
   congr 1
   generalize a.length=n
   induction n with
   | zero=>rfl
   | succ n ih=>rw [b0Q,ih];rfl
  ·intro z hz;rw [T0c] at hz;omega
 ·clear h0 ρ hm
  rintro k t G' ⟨i,o,hik,ht,g0,g1,g5,g12,g13,hx2,hb,hol,hok,hs⟩
  obtain ⟨ρ,rfl⟩:=toT ht
  simp only [b0o,Nat.reduceLT] at g0 g1 g5 g12 g13
  by_cases hi:i < a.length
  ·have hla:=ha.load hi hx2
   have hia:=ha.ia (k:=.i64) hi
   have hA2:=d0P hi
   have hA3:a.getD i 0 < 4294967296:=ha.2 _ (by rw [Q0T,R0a hi];exact R0g hi)
   generalize a.getD i 0=A at hla hA2 hA3
   have hlo:i < o.length:=by omega
   obtain ⟨hio,hro⟩:=d0E (k:=.i64) (cap:=a.length) hb hlo hol
   rw [hSL] at hio
   have eA:IntKind.u64.wrap (A:Int)=(A:Int):=by rw [a0m];omega
   have e9:IntKind.i64.wrap ((i:Int) + 1)=((i + 1:Nat):Int):=by rw [a0S (by omega) (by omega)];omega
   by_cases hi1:i + 1 < a.length
   ·have hla1:=ha.load hi1 hx2
    have hia1:=ha.ia (k:=.i64) hi1
    have hN:=d0P hi1
    have hA13:a.getD (i + 1) 0 < 4294967296:=ha.2 _ (by rw [Q0T,R0a hi1];exact R0g hi1)
    generalize a.getD (i + 1) 0=A1 at hla1 hN hA13
    have eA1:IntKind.u64.wrap (A1:Int)=(A1:Int):=by rw [a0m];omega
    have s1:b0X 0 .shl (.int .u64 (A1:Int)) (.int .u64 32)=some (.int .u64 ((A1 * 4294967296:Nat):Int)):=by
     have:=x0C (tag:=0) (n:=A1) (s:=32) (k':=.u64) (by omega)
     rw [show A1 * 2 ^ 32 % 18446744073709551616=A1 * 4294967296 by omega] at this;exact this
    have s2:=L0F (tag:=0) (a:=A) (b:=A1 * 4294967296) (by omega) (by omega)
    rw [show A ||| A1 * 4294967296=A + A1 * 4294967296 from r0k (s:=32) hA3] at s2
    have s3:=G0s (tag:=0) (n:=A + A1 * 4294967296) (s:=n) (k':=.i64) (by omega)
    simp [-Int.natCast_add,-Int.natCast_mul,-Int.natCast_pow,-Int.natCast_ediv,l0i,n0O,n0P,n0Q,n0R,n0S,n0T,g0,g1,g5,g12,g13,hi,hi1,hia,hla,hia1,hla1,eA,eA1,e9,s1,s2,s3,ha.slen,hio]
    refine (a0g (by have:=hx2.1;omega)).mono ?_
    rintro _ G3 ⟨rfl,hx3⟩
    replace hb:=hx3.blk hb
    have hxx:=hx2.trans hx3
    have hPl:=a0k hb
    have hle:i + 1≤o.length:=hlo
    have hbl:=l0B hn hA3 hN
    simp [-Int.natCast_emod,-Int.natCast_ediv,-Int.natCast_add,hb,hle]
    have hz:(A + A1 * 4294967296) / 2 ^ n % 4294967296 < 4294967296:=R0V _ (by omega)
    rw [hA2,hbl] at hs
    generalize (A + A1 * 4294967296) / 2 ^ n % 4294967296=z at hs hz ⊢
    have hset:a0l (List.take (i + 1) (o.set i z))=a0l (List.take i o) + 4294967296 ^ i * z:=b0Z hlo
    refine ⟨k - 1,by omega,i + 1,by omega,rfl,hxx.set (by omega),o.set i z,by rw [a0r hPl,c0p],by simp [hol],b0q hok hz,?_⟩
    exact o0g hset hs
   ·obtain ⟨A1,hA1⟩:∃ x:Nat,x=0:=⟨0,rfl⟩
    have hN:a0l (List.drop (i + 1) a)=A1 + 4294967296 * 0:=by rw [S0f (by omega),hA1];simp [a0l]
    have s3:b0X 0 .shr (.int .u64 (A:Int)) (.int .i64 (n:Int))=some (.int .u64 (((A + A1 * 4294967296) / 2 ^ n:Nat):Int)):=by
     rw [G0s (by omega),show A + A1 * 4294967296=A by rw [hA1];omega]
    clear hA1
    simp [-Int.natCast_add,-Int.natCast_mul,-Int.natCast_pow,-Int.natCast_ediv,l0i,n0O,n0P,n0Q,n0R,n0S,n0T,g0,g1,g5,g12,g13,hi,hi1,hia,hla,eA,e9,s3,ha.slen,hio]
    refine (a0g (by have:=hx2.1;omega)).mono ?_
    rintro _ G3 ⟨rfl,hx3⟩
    replace hb:=hx3.blk hb
    have hxx:=hx2.trans hx3
    have hPl:=a0k hb
    have hle:i + 1≤o.length:=hlo
    have hbl:=l0B hn hA3 hN
    simp [-Int.natCast_emod,-Int.natCast_ediv,-Int.natCast_add,hb,hle]
    have hz:(A + A1 * 4294967296) / 2 ^ n % 4294967296 < 4294967296:=R0V _ (by omega)
    rw [hA2,hbl] at hs
    generalize (A + A1 * 4294967296) / 2 ^ n % 4294967296=z at hs hz ⊢
    have hset:a0l (List.take (i + 1) (o.set i z))=a0l (List.take i o) + 4294967296 ^ i * z:=b0Z hlo
    refine ⟨k - 1,by omega,i + 1,by omega,rfl,hxx.set (by omega),o.set i z,by rw [a0r hPl,c0p],by simp [hol],b0q hok hz,?_⟩
    exact o0g hset hs
  ·simp [l0i,g0,g1,g5,g12,g13,hi]
   have:i=a.length:=by omega
   subst this
   refine ⟨hx2,o,hb,hol,hok,?_⟩
   rw [R0j (by omega),S0f (Q0W _)] at hs
   simpa [a0l] using hs
 ·clear h0 ρ hm
  rintro t G' ⟨o,ht,g5,hx2,hb,hol,hok,hs⟩
  obtain ⟨ρ,rfl⟩:=toT ht
  simp only [b0o,Nat.reduceLT] at g5
  have hy:Lim G' SL o:=by
   rw [← hSL,← hol]
   exact ⟨(Own.mk (fl:=0) hb (by simp) (R0H _)).sl,hok⟩
  simp [o0R,g5]
  exact fun _=>⟨o,hy,hs,hol⟩
end
section
open Go
set_option maxHeartbeats 4000000
variable {fl:Nat} {H G:a0c} {R:a0E} {v w:Value} {a b:List Nat} {K:l0v}
theorem q0u {E:Env} {f:FuncId} {args:List Value} {sf:q0b} (hc:E.code f=some sf) (hl:args.length=sf.np:=by rfl) (hnt:args.length≤sf.nt:=by exact of_decide_eq_true rfl)
  (h:∀ ρ:Nat→Value,(∀ i,ρ i=args.getD i undef)→W E fl sf.body (T sf.nt ρ) H (L0A (fun t' H'=>q0e H' t' sf.res fun v=>K v H')) R) :
  a0N E fl f args H K R :=
 o0k (K:=K) hc hl hnt (fun t h1 h2=>by
  have h3:=h (get t) h2
  rw [← E0Z h1] at h3
  refine h3.mono fun e t' H' hq=>?_
  cases e with
  | exit i=>exact R0q hq id
  | normal=>exact ⟨trivial,hq⟩
  | ret=>exact ⟨trivial,hq⟩)
@[simp] theorem K0R {t:a0Q} {P:Value→Prop}:q0e H t [] P=P (.tuple #[]):=by simp [q0e,d0V,d0c]
theorem d0Z.refl {o:Option Nat}:d0Z o H H:=(Ext.refl H).extB
theorem d0Z.trans {o:Option Nat} {H1 H2 H3:a0c} (h:d0Z o H1 H2) (k:d0Z o H2 H3):d0Z o H1 H3 :=
 ⟨R0z h.1 k.1,fun b hb hne=>(k.2 b (R0r hb h.1) hne).trans (h.2 b hb hne)⟩
theorem d0Z.set {p:Nat} {r:Blk} (h:d0Z (some p) H G):d0Z (some p) H (G.setIfInBounds p r) :=
 ⟨by have:=h.1;simpa using this,fun b hb hne=>by rw [a0L (by simpa using hne)];exact h.2 b hb hne⟩
theorem d0Z.ext {p:Nat} {H0:a0c} (h:d0Z (some p) H G) (hp:H0.size≤p) (h0:Ext H0 H):Ext H0 G :=
 ⟨R0z h0.1 h.1,fun b hb=>(h.2 b (R0r hb h0.1) (by simp;omega)).trans (h0.2 b hb)⟩
theorem Sl.off {e sz n p:Nat} {cs:List Value} (h:Sl H e sz v n cs) (hx:d0Z (some p) H G) (hne:slB v ≠ some p):Sl G e sz v n cs:=by
 obtain ⟨hl,h | ⟨b,off,cap,ro,cells,rfl,hb,ho,hcs⟩⟩:=h
 ·exact ⟨hl,.inl h⟩
 ·exact ⟨hl,.inr ⟨b,off,cap,ro,cells,rfl,by rw [hx.2 b (a0k hb) (fun h=>hne (by simp only [slB];exact h.symm))];exact hb,ho,hcs⟩⟩
theorem Lim.off {p:Nat} (h:Lim H v a) (hx:d0Z (some p) H G) (hne:slB v ≠ some p):Lim G v a:=⟨h.1.off hx hne,h.2⟩
def win (L:List Nat) (o:Nat):Nat→Nat
 | 0=>0
 | i + 1=>win L o i + 4294967296 ^ i * L.getD (o + i) 0
theorem g0X {L L':List Nat} {o:Nat}:∀ {i:Nat},(∀ j,j < i→L.getD (o + j) 0=L'.getD (o + j) 0)→win L o i=win L' o i
 | 0,_=>rfl
 | i + 1,h=>by rw [win,win,g0X (fun j hj=>h j (by omega)),h i (by omega)]
theorem G0H {L:List Nat} {o i j z:Nat} (h:o + i≤j):win (L.set j z) o i=win L o i :=
 g0X fun k hk=>b0i (by omega)
theorem b0t {L:List Nat} (h:a0U L) (i:Nat):L.getD i 0 < 4294967296:=by
 rw [Q0T]
 by_cases hi:i < L.length
 ·rw [R0a hi];exact h _ (R0g hi)
 ·rw [R0d (by omega)];simp
theorem h0O {L:List Nat} (h:a0U L) (o:Nat):∀ i,win L o i < 4294967296 ^ i
 | 0=>by simp [win]
 | i + 1=>by
  rw [win,R0m]
  have h1:=h0O h o i
  have h2:=b0t h (o + i)
  have:4294967296 ^ i * (L.getD (o + i) 0 + 1)≤4294967296 ^ i * 4294967296:=R0y _ h2
  rw [R0b,R0O] at this
  omega
theorem f0r {L:List Nat}:∀ {i:Nat},i≤L.length→a0l (L.take i)=win L 0 i
 | 0,_=>by simp [a0l,win]
 | i + 1,h=>by rw [a0z (by omega),f0r (by omega),win,R0B]
theorem h0A {L:List Nat} {n:Nat} (h:L.length≤n):win L 0 n=a0l L:=by
 obtain ⟨k,rfl⟩:∃ k,n=L.length + k:=⟨n - L.length,by omega⟩
 clear h
 induction k with
 | zero=>rw [R0N,← f0r (Q0W _),Q0Z]
 | succ k ih=>rw [← R0R,win,ih,Q0T,R0d (by omega)];simp
theorem i0P {e p o n cap:Nat} {L:List Nat} (hb:G.blk p=.row false e (b0r L)) (hL:o + n≤L.length) {k:IntKind} {z:Nat} (hz:z < n) :
  iaV 1 (.slice (some ⟨p,o,none⟩) n cap) (.int k (z:Int))=some (.pointer (some ⟨p,o + z,none⟩))∧rd (G.blk p) (o + z)=some (.int .u32 ((L.getD (o + z) 0:Nat):Int)):=by
 refine ⟨?_,?_⟩
 ·simp only [iaV];rw [R0k (by omega)];simp
 ·rw [hb];simp [b0r,Q0T,show o + z < L.length by omega]
theorem m0q {x y u v g c t ch cm bo B P:Nat} (h:x + g * y=u + c * P) (ht:t=c + v * g) (hc:t=ch * B + cm) {z w:Nat} (hz:z + cm=w + bo * B) :
  (x + P * z) + g * (y + P * v)=(u + P * w) + (ch + bo) * (P * B):=by
 have h1:P * z + P * cm=P * w + P * (bo * B):=by rw [← R0b,hz,R0b]
 have h2:P * (c + v * g)=P * (ch * B) + P * cm:=by rw [← ht,hc,R0b]
 rw [R0b] at h2 ⊢
 rw [R0o]
 have e1:g * (P * v)=P * (v * g):=by grind
 have e2:ch * (P * B)=P * (ch * B):=by grind
 have e3:bo * (P * B)=P * (bo * B):=by grind
 have e4:c * P=P * c:=by grind
 omega
theorem l0K {x y u v c t ch cm B P w:Nat} (h:x + c * P=u + y) (ht:t=c + w + v) (hc:t=ch * B + cm) :
  (x + P * cm) + ch * (P * B)=(u + P * w) + (y + P * v):=by
 have h2:P * (c + w + v)=P * (ch * B) + P * cm:=by rw [← ht,hc,R0b]
 rw [R0b,R0b] at h2
 have e2:ch * (P * B)=P * (ch * B):=by grind
 have e4:c * P=P * c:=by grind
 omega
def Won (L X:List Nat) (o i:Nat):Prop:=X.length=L.length∧a0U X∧∀ j,j < o ∨ o + i≤j→X.getD j 0=L.getD j 0
theorem Won.zero {L:List Nat} {o:Nat} (h:a0U L):Won L L o 0:=⟨rfl,h,fun _ _=>rfl⟩
theorem Won.step {L X:List Nat} {o i z:Nat} (h:Won L X o i) (hz:z < 4294967296):Won L (X.set (o + i) z) o (i + 1) :=
 ⟨by simp [h.1],b0q h.2.1 hz,fun j hj=>by rw [b0i (by omega)];exact h.2.2 j (by omega)⟩
theorem Won.win {L X:List Nat} {o i z:Nat} (h:Won L X o i) (hi:o + i < L.length):AI.win (X.set (o + i) z) o (i + 1)=AI.win X o i + 4294967296 ^ i * z:=by
 rw [AI.win,G0H (by omega),Q0T,S0g (by rw [h.1];exact hi)];rfl
theorem k0C {L:List Nat} {p o n cap g:Nat} (hb:H.blk p=.row false a0b (b0r L)) (hok:a0U L) (hL:o + n≤L.length) (hv:Lim H v a) (hne:slB v ≠ some p) (hf:fl≤p) (hg:g < 4294967296) (hn:n < 1073741824) (ha:a.length≤n) :
  a0N env fl q0K [.slice (some ⟨p,o,none⟩) n cap,v,.int .u64 (g:Int)] H (fun r G=>∃ X c,r=.bool (c != 0)∧G.blk p=.row false a0b (b0r X)∧d0Z (some p) H G∧Won L X o n∧win X o n + g * a0l a=win L o n + c * 4294967296 ^ n) R:=by
 refine q0u O0w (h:=?_)
 intro ρ h0
 simp only [x0x]
 simp [t0X,t0Y,t0Z,h0,d0j]
 generalize hSL:Value.slice (some ⟨p,o,none⟩) n cap=SL
 refine b0A (fun k t G=>∃ i c X,i + k=n∧t.length=49∧get t 0=SL∧get t 1=v∧get t 2=.int .u64 ((g:Nat):Int)∧get t 7=.int .u64 ((c:Nat):Int)∧get t 11=.int .i64 n∧get t 12=.int .i64 ((i:Nat):Int) ∧
   G.blk p=.row false a0b (b0r X)∧d0Z (some p) H G∧Won L X o i∧c≤4294967296∧win X o i + g * win a 0 i=win L o i + c * 4294967296 ^ i)
  (fun t G=>∃ c X,t.length=49∧get t 7=.int .u64 ((c:Nat):Int)∧G.blk p=.row false a0b (b0r X)∧d0Z (some p) H G∧Won L X o n∧win X o n + g * win a 0 n=win L o n + c * 4294967296 ^ n) n ?_ ?_ ?_
 ·exact ⟨0,0,L,by omega,by simp,by simp [h0,hSL],by simp [h0],by simp [h0],by simp,by simp,by simp,hb,d0Z.refl,Won.zero hok,by omega,by simp [win]⟩
 ·clear h0 ρ
  rintro k t G ⟨i,c,X,hik,ht,g0,g1,g2,g7,g11,g12,hX,hx,hw,hc,hs⟩
  obtain ⟨ρ,rfl⟩:=toT ht
  simp only [b0o,Nat.reduceLT] at g0 g1 g2 g7 g11 g12
  by_cases hi:i < n
  ·have e9:IntKind.i64.wrap ((i:Int) + 1)=((i + 1:Nat):Int):=by rw [a0S (by omega) (by omega)];omega
   obtain ⟨hi1,hi2⟩:=i0P (k:=.i64) (cap:=cap) hX (by rw [hw.1];exact hL) hi
   rw [hSL] at hi1
   have hXl:X.getD (o + i) 0=L.getD (o + i) 0:=hw.2.2 _ (by omega)
   have hA:=b0t hok (o + i)
   rw [hXl] at hi2
   have hLw:win L o (i + 1)=win L o i + 4294967296 ^ i * L.getD (o + i) 0:=rfl
   have haw:win a 0 (i + 1)=win a 0 i + 4294967296 ^ i * a.getD i 0:=by rw [win,R0B]
   generalize L.getD (o + i) 0=A at hi2 hA hLw
   have eA:IntKind.u64.wrap (A:Int)=(A:Int):=by rw [a0m];omega
   have hv':=hv.off hx hne
   have hV:=b0t hv.ok i
   by_cases hia:i < a.length
   ·have hla:=hv'.load hia (Ext.refl _)
    have hia2:=hv'.ia (k:=.i64) hia
    generalize a.getD i 0=V at hla haw hV
    have eV:IntKind.u64.wrap (V:Int)=(V:Int):=by rw [a0m];omega
    have hVg:V * g≤4294967295 * 4294967295:=S0k (by omega) (by omega)
    have e1:IntKind.u64.wrap ((V:Int) * (g:Int))=((V * g:Nat):Int):=by rw [a0m,← S0F];omega
    have e2:IntKind.u64.wrap ((c:Int) + ((V * g:Nat):Int))=((c + V * g:Nat):Int):=by rw [a0m,← Int.natCast_add];omega
    have e3:=H0E (tag:=0) (a:=c + V * g)
    simp [-Int.natCast_add,-Int.natCast_mul,-Int.natCast_ediv,-Int.natCast_emod,l0g,n0B,n0C,n0D,n0E,n0F,n0G,l0f,g0,g1,g2,g7,g11,g12,hi,hv'.slen,hia,hia2,hla,eV,e1,e2,hi1,hi2,e3,eA]
    generalize hD:c + V * g=D at *
    have hDD:D=(D / 4294967296) * 4294967296 + D % 4294967296:=(S0U D 4294967296).symm
    have hcm:=R0V D (show 0 < 4294967296 by omega)
    generalize D / 4294967296=ch at *
    generalize D % 4294967296=cm at *
    have hbo:IntKind.u64.wrap ((A:Int) - (cm:Int))=((if cm≤A then A - cm else A + 18446744073709551616 - cm:Nat):Int):=by rw [a0m];split <;> omega
    have hchb:ch≤4294967295:=by omega
    obtain ⟨bo,z,q,hbq,hz1,hz2,hq1,hq2,hq3⟩:∃ bo z q:Nat,(if cm≤A then A - cm else A + 18446744073709551616 - cm:Nat)=q∧z + cm=A + bo * 4294967296∧z < 4294967296∧q % 4294967296=z∧q / 9223372036854775808=bo∧bo≤1:=by
     by_cases h:cm≤A
     ·exact ⟨0,A - cm,A - cm,by rw [R0k h],by omega,by omega,by omega,by omega,by omega⟩
     ·exact ⟨1,A + 4294967296 - cm,A + 18446744073709551616 - cm,by rw [R0c h],by omega,by omega,by omega,by omega,by omega⟩
    have e8:IntKind.u64.wrap ((ch:Int) + (bo:Int))=((ch + bo:Nat):Int):=by rw [a0m];omega
    rw [hbq] at hbo
    simp [-Int.natCast_add,-Int.natCast_mul,-Int.natCast_ediv,-Int.natCast_emod,hbo,g0,g7,g11,g12]
    refine (a0g (by have:=a0k hX;omega)).mono ?_
    rintro _ G3 ⟨rfl,hx3⟩
    rw [hq1,hq2]
    have hX3:=hx3.blk hX
    have hpl:=a0k hX3
    have hle:o + i + 1≤X.length:=by rw [hw.1];omega
    simp [-Int.natCast_add,-Int.natCast_mul,-Int.natCast_ediv,-Int.natCast_emod,hi1,hX3,hle,hf,e8,e9]
    refine ⟨k - 1,by omega,i + 1,by omega,ch + bo,rfl,rfl,X.set (o + i) z,by rw [a0r hpl,c0p],(hx.trans hx3.extB).set,hw.step hz2,by omega,?_⟩
    rw [hw.win (by omega),haw,hLw,R0m]
    exact m0q hs hD.symm hDD hz1
   ·have hV0:a.getD i 0=0:=by rw [Q0T,R0d (by omega)];rfl
    rw [hV0] at haw
    obtain ⟨V,hV⟩:∃ V,V=0:=⟨0,rfl⟩
    replace haw:win a 0 (i + 1)=win a 0 i + 4294967296 ^ i * V:=by rw [haw,hV]
    have hVg:V * g=0:=by rw [hV,Nat.zero_mul]
    have e3:=H0E (tag:=0) (a:=c)
    have ec:c=c + V * g:=by omega
    rw [ec] at e3 g7
    have hDb:c + V * g≤4294967296:=by omega
    simp [-Int.natCast_add,-Int.natCast_mul,-Int.natCast_ediv,-Int.natCast_emod,l0g,n0B,n0C,n0D,n0E,n0F,n0G,l0f,g0,g1,g2,g7,g11,g12,hi,hv'.slen,hia,hi1,hi2,e3,eA]
    generalize hD:c + V * g=D at *
    have hDD:D=(D / 4294967296) * 4294967296 + D % 4294967296:=(S0U D 4294967296).symm
    have hcm:=R0V D (show 0 < 4294967296 by omega)
    generalize D / 4294967296=ch at *
    generalize D % 4294967296=cm at *
    have hbo:IntKind.u64.wrap ((A:Int) - (cm:Int))=((if cm≤A then A - cm else A + 18446744073709551616 - cm:Nat):Int):=by rw [a0m];split <;> omega
    have hchb:ch≤4294967295:=by omega
    obtain ⟨bo,z,q,hbq,hz1,hz2,hq1,hq2,hq3⟩:∃ bo z q:Nat,(if cm≤A then A - cm else A + 18446744073709551616 - cm:Nat)=q∧z + cm=A + bo * 4294967296∧z < 4294967296∧q % 4294967296=z∧q / 9223372036854775808=bo∧bo≤1:=by
     by_cases h:cm≤A
     ·exact ⟨0,A - cm,A - cm,by rw [R0k h],by omega,by omega,by omega,by omega,by omega⟩
     ·exact ⟨1,A + 4294967296 - cm,A + 18446744073709551616 - cm,by rw [R0c h],by omega,by omega,by omega,by omega,by omega⟩
    have e8:IntKind.u64.wrap ((ch:Int) + (bo:Int))=((ch + bo:Nat):Int):=by rw [a0m];omega
    rw [hbq] at hbo
    simp [-Int.natCast_add,-Int.natCast_mul,-Int.natCast_ediv,-Int.natCast_emod,hbo,g0,g7,g11,g12]
    refine (a0g (by have:=a0k hX;omega)).mono ?_
    rintro _ G3 ⟨rfl,hx3⟩
    rw [hq1,hq2]
    have hX3:=hx3.blk hX
    have hpl:=a0k hX3
    have hle:o + i + 1≤X.length:=by rw [hw.1];omega
    simp [-Int.natCast_add,-Int.natCast_mul,-Int.natCast_ediv,-Int.natCast_emod,hi1,hX3,hle,hf,e8,e9]
    refine ⟨k - 1,by omega,i + 1,by omega,ch + bo,rfl,rfl,X.set (o + i) z,by rw [a0r hpl,c0p],(hx.trans hx3.extB).set,hw.step hz2,by omega,?_⟩
    rw [hw.win (by omega),haw,hLw,R0m]
    exact m0q hs hD.symm hDD hz1
  ·simp [l0g,g0,g1,g2,g7,g11,g12,hi]
   have:i=n:=by omega
   subst this
   exact ⟨c,rfl,X,hX,hx,hw,hs⟩
 ·clear h0 ρ
  rintro t G ⟨c,X,ht,g7,hX,hx,hw,hs⟩
  obtain ⟨ρ,rfl⟩:=toT ht
  simp only [b0o,Nat.reduceLT] at g7
  simp [o0Q,g7]
  refine ⟨X,c,rfl,hX,hx,hw,?_⟩
  rw [← hs]
  congr 2
  rw [h0A ha]
theorem k0z {L:List Nat} {p o n cap:Nat} (hb:H.blk p=.row false a0b (b0r L)) (hok:a0U L) (hL:o + n≤L.length) (hv:Lim H v a) (hne:slB v ≠ some p) (hf:fl≤p) (hn:n < 1073741824) (ha:a.length≤n) :
  a0N env fl q0L [.slice (some ⟨p,o,none⟩) n cap,v] H (fun _ G=>∃ X c,G.blk p=.row false a0b (b0r X)∧d0Z (some p) H G∧Won L X o n∧win X o n + c * 4294967296 ^ n=win L o n + a0l a) R:=by
 refine q0u O0x (h:=?_)
 intro ρ h0
 simp only [x0y]
 simp [u0a,u0b,h0,d0j]
 generalize hSL:Value.slice (some ⟨p,o,none⟩) n cap=SL
 refine x0Q (fun k t G=>∃ i c X,i + k=n∧t.length=37∧get t 0=SL∧get t 1=v∧get t 4=.int .u64 ((c:Nat):Int)∧get t 7=.int .i64 n∧get t 8=.int .i64 ((i:Nat):Int) ∧
   G.blk p=.row false a0b (b0r X)∧d0Z (some p) H G∧Won L X o i∧c≤1∧win X o i + c * 4294967296 ^ i=win L o i + win a 0 i) ?_ n ?_
 ·clear h0 ρ
  rintro k t G ⟨i,c,X,hik,ht,g0,g1,g4,g7,g8,hX,hx,hw,hc,hs⟩
  obtain ⟨ρ,rfl⟩:=toT ht
  simp only [b0o,Nat.reduceLT] at g0 g1 g4 g7 g8
  by_cases hi:i < n
  ·have e9:IntKind.i64.wrap ((i:Int) + 1)=((i + 1:Nat):Int):=by rw [a0S (by omega) (by omega)];omega
   obtain ⟨hi1,hi2⟩:=i0P (k:=.i64) (cap:=cap) hX (by rw [hw.1];exact hL) hi
   rw [hSL] at hi1
   have hXl:X.getD (o + i) 0=L.getD (o + i) 0:=hw.2.2 _ (by omega)
   have hA:=b0t hok (o + i)
   rw [hXl] at hi2
   have hLw:win L o (i + 1)=win L o i + 4294967296 ^ i * L.getD (o + i) 0:=rfl
   have haw:win a 0 (i + 1)=win a 0 i + 4294967296 ^ i * a.getD i 0:=by rw [win,R0B]
   generalize L.getD (o + i) 0=A at hi2 hA hLw
   have eA:IntKind.u64.wrap (A:Int)=(A:Int):=by rw [a0m];omega
   have e1:IntKind.u64.wrap ((c:Int) + (A:Int))=((c + A:Nat):Int):=by rw [a0m];omega
   have hv':=hv.off hx hne
   have hV:=b0t hv.ok i
   by_cases hia:i < a.length
   ·have hla:=hv'.load hia (Ext.refl _)
    have hia2:=hv'.ia (k:=.i64) hia
    generalize a.getD i 0=V at hla haw hV
    have eV:IntKind.u64.wrap (V:Int)=(V:Int):=by rw [a0m];omega
    have e2:IntKind.u64.wrap (((c + A:Nat):Int) + (V:Int))=((c + A + V:Nat):Int):=by rw [a0m];omega
    simp [-Int.natCast_add,-Int.natCast_mul,-Int.natCast_ediv,-Int.natCast_emod,l0h,n0H,n0I,n0J,n0K,n0L,n0M,n0N,g0,g1,g4,g7,g8,hi,hv'.slen,hia,hia2,hla,eV,e1,e2,hi1,hi2,eA]
    generalize hD:c + A + V=D at *
    have hDD:D=(D / 4294967296) * 4294967296 + D % 4294967296:=(S0U D 4294967296).symm
    have hcm:=R0V D (show 0 < 4294967296 by omega)
    refine (a0g (by have:=a0k hX;omega)).mono ?_
    rintro _ G3 ⟨rfl,hx3⟩
    generalize D / 4294967296=ch at *
    generalize D % 4294967296=cm at *
    have hX3:=hx3.blk hX
    have hpl:=a0k hX3
    have hle:o + i + 1≤X.length:=by rw [hw.1];omega
    simp [-Int.natCast_add,-Int.natCast_mul,-Int.natCast_ediv,-Int.natCast_emod,hi1,hX3,hle,hf,e9]
    refine ⟨k - 1,by omega,i + 1,by omega,ch,rfl,rfl,X.set (o + i) cm,by rw [a0r hpl,c0p],(hx.trans hx3.extB).set,hw.step hcm,by omega,?_⟩
    rw [hw.win (by omega),haw,hLw,R0m]
    exact l0K hs hD.symm hDD
   ·have hV0:a.getD i 0=0:=by rw [Q0T,R0d (by omega)];rfl
    rw [hV0] at haw
    obtain ⟨V,hV⟩:∃ V,V=0:=⟨0,rfl⟩
    replace haw:win a 0 (i + 1)=win a 0 i + 4294967296 ^ i * V:=by rw [haw,hV]
    have e1':IntKind.u64.wrap ((c:Int) + (A:Int))=((c + A + V:Nat):Int):=by rw [e1,hV];rfl
    simp [-Int.natCast_add,-Int.natCast_mul,-Int.natCast_ediv,-Int.natCast_emod,l0h,n0H,n0I,n0J,n0K,n0L,n0M,n0N,g0,g1,g4,g7,g8,hi,hv'.slen,hia,hi1,hi2,e1',eA]
    generalize hD:c + A + V=D at *
    have hDD:D=(D / 4294967296) * 4294967296 + D % 4294967296:=(S0U D 4294967296).symm
    have hcm:=R0V D (show 0 < 4294967296 by omega)
    refine (a0g (by have:=a0k hX;omega)).mono ?_
    rintro _ G3 ⟨rfl,hx3⟩
    generalize D / 4294967296=ch at *
    generalize D % 4294967296=cm at *
    have hX3:=hx3.blk hX
    have hpl:=a0k hX3
    have hle:o + i + 1≤X.length:=by rw [hw.1];omega
    simp [-Int.natCast_add,-Int.natCast_mul,-Int.natCast_ediv,-Int.natCast_emod,hi1,hX3,hle,hf,e9]
    refine ⟨k - 1,by omega,i + 1,by omega,ch,rfl,rfl,X.set (o + i) cm,by rw [a0r hpl,c0p],(hx.trans hx3.extB).set,hw.step hcm,by omega,?_⟩
    rw [hw.win (by omega),haw,hLw,R0m]
    exact l0K hs hD.symm hDD
  ·simp [l0h,g0,g1,g4,g7,g8,hi]
   have:i=n:=by omega
   subst this
   exact ⟨X,hX,hx,hw,c,by rw [hs,h0A ha]⟩
 ·exact ⟨0,0,L,by omega,by simp,by simp [h0,hSL],by simp [h0],by simp,by simp,by simp,hb,d0Z.refl,Won.zero hok,by omega,by simp [win]⟩
end
section
open Go
theorem c0l {L:List Nat} {o i:Nat}:∀ {j:Nat},win L o (i + j)=win L o i + 4294967296 ^ i * win L (o + i) j
 | 0=>by simp [win]
 | j + 1=>by
  rw [← R0R,win,c0l,win,R0b,← R0i,← S0C,R0R o i j,R0R]
theorem G0I {L:List Nat} {o k:Nat} (hk:2≤k):win L o (k + 1)=win L o (k - 2) + 4294967296 ^ (k - 2) * ((L.getD (o + k) 0 * 4294967296 + L.getD (o + (k - 1)) 0) * 4294967296 + L.getD (o + (k - 2)) 0):=by
 obtain ⟨j,rfl⟩:∃ j,k=j + 2:=⟨k - 2,by omega⟩
 rw [show j + 2 - 2=j by omega,show j + 2 + 1=j + 3 by omega,c0l,show j + 2 - 1=j + 1 by omega]
 congr 2
 simp only [win]
 rw [show o + j + 0=o + j by omega,show o + j + 1=o + (j + 1) by omega,show o + j + 2=o + (j + 2) by omega]
 omega
theorem x0N {L:List Nat} {o k:Nat} (hk:2≤k):win L o k=win L o (k - 2) + 4294967296 ^ (k - 2) * (L.getD (o + (k - 1)) 0 * 4294967296 + L.getD (o + (k - 2)) 0):=by
 obtain ⟨j,rfl⟩:∃ j,k=j + 2:=⟨k - 2,by omega⟩
 rw [show j + 2 - 2=j by omega,c0l,show j + 2 - 1=j + 1 by omega]
 congr 2
 simp only [win]
 rw [show o + j + 0=o + j by omega,show o + j + 1=o + (j + 1) by omega]
 omega
structure Gs (W low lowV Uw V x u3 top next B:Nat):Prop where
 W0:0 < W
 hlow:low < W
 hlowV:lowV < W
 hU:Uw=low + W * (x * B + u3)
 hV:V=lowV + W * (top * B + next)
 hB:B≤2 * top
 htop:top < B
 hnext:next < B
 hu3:u3 < B
 lt:Uw < V * B
variable {W low lowV Uw V x u3 top next B g rest q:Nat}
theorem Gs.V0 (h:Gs W low lowV Uw V x u3 top next B):0 < V:=by
 rw [h.hV]
 have h1:0 < top:=by have:=h.hB;have:=h.htop;omega
 have h2:0 < B:=by have:=h.htop;omega
 have:=Nat.mul_pos h.W0 (show 0 < top * B + next by have:=Nat.mul_pos h1 h2;omega)
 omega
theorem Gs.V_lt (h:Gs W low lowV Uw V x u3 top next B):V < W * (top * B + next + 1):=by
 rw [h.hV,R0b W (top * B + next) 1,R0O];have:=h.hlowV;omega
theorem Gs.U_lt (h:Gs W low lowV Uw V x u3 top next B):Uw < W * (x * B + u3 + 1):=by
 rw [h.hU,R0b W (x * B + u3) 1,R0O];have:=h.hlow;omega
theorem Gs.V_ge (h:Gs W low lowV Uw V x u3 top next B):W * (top * B + next)≤V:=by rw [h.hV];omega
theorem Gs.U_ge (h:Gs W low lowV Uw V x u3 top next B):W * (x * B + u3)≤Uw:=by rw [h.hU];omega
theorem Gs.q_lt (h:Gs W low lowV Uw V x u3 top next B):Uw / V < B:=by
 rw [S0l h.V0,R0u];exact h.lt
theorem Gs.q_le (h:Gs W low lowV Uw V x u3 top next B):Uw / V≤x / top:=by
 have h1:0 < top:=by have:=h.hB;have:=h.htop;omega
 rw [Nat.le_div_iff_mul_le h1]
 have h2:=Nat.div_mul_le_self Uw V
 generalize Uw / V=q at *
 have h3:W * (q * (top * B))≤q * V:=by
  calc W * (q * (top * B))≤W * (q * (top * B + next)):=R0y _ (R0y _ (by omega))
   _=q * (W * (top * B + next)):=by grind
   _≤q * V:=R0y _ h.V_ge
 have h4:=h.U_lt
 have h5:q * (top * B) < x * B + u3 + 1:=R0W (a:=W) (by omega)
 have h6:=h.hu3
 have h7:q * top * B < (x + 1) * B:=by rw [R0i,R0o];omega
 have:=S0S h7
 omega
theorem Gs.x_lt (h:Gs W low lowV Uw V x u3 top next B):x < top * B + B:=by
 have h1:=h.U_ge
 have h2:=h.lt
 have h3:=h.V_lt
 have hB:0 < B:=by have:=h.htop;omega
 have h4:W * (x * B + u3) < W * ((top * B + next + 1) * B):=by
  have:V * B≤W * (top * B + next + 1) * B:=R0h _ (by omega)
  rw [R0i] at this;omega
 have h5:=R0W h4
 have h6:x * B < (top * B + next + 1) * B:=by omega
 have:=S0S h6
 have:=h.hnext
 omega
theorem Gs.down (h:Gs W low lowV Uw V x u3 top next B) (hx:g * top + rest=x) (hq:Uw / V≤g) (hc:B≤g ∨ rest * B + u3 < g * next):Uw / V≤g - 1∧0 < g:=by
 have h1:=h.q_lt
 have hB:0 < B:=by have:=h.htop;omega
 rcases hc with hc | hc
 ·omega
 ·have hne:Uw / V ≠ g:=by
   intro he
   have h2:=Nat.div_mul_le_self Uw V
   rw [he] at h2
   have h3:W * (g * (top * B + next))≤g * V:=by
    calc W * (g * (top * B + next))=g * (W * (top * B + next)):=by grind
     _≤g * V:=R0y _ h.V_ge
   have h4:=h.U_lt
   have h5:g * (top * B + next) < x * B + u3 + 1:=R0W (a:=W) (by omega)
   rw [← hx,R0o,R0b,← R0i] at h5
   omega
  generalize Uw / V=q at *
  omega
theorem Gs.fine (h:Gs W low lowV Uw V x u3 top next B) (hx:g * top + rest=x) (hg:g < B) (hc:g * next≤rest * B + u3):g≤Uw / V + 1:=by
 by_cases hgq:g≤Uw / V + 1
 ·exact hgq
 ·exfalso
  have hgq2:Uw / V + 1≤g - 1:=by generalize Uw / V=q at *;omega
  have h1:Uw < (Uw / V + 1) * V:=by
   have:=S0H Uw V
   have h2:=R0V Uw h.V0
   rw [R0o,R0u (Uw / V)];omega
  have h2:(Uw / V + 1) * V≤(g - 1) * V:=R0h _ hgq2
  have h3:(g - 1) * V≤(g - 1) * (W * (top * B + next + 1)):=R0y _ (by have:=h.V_lt;omega)
  have h4:=h.U_ge
  have h5:W * (x * B + u3) < W * ((g - 1) * (top * B + next + 1)):=by
   have:(g - 1) * (W * (top * B + next + 1))=W * ((g - 1) * (top * B + next + 1)):=by grind
   omega
  have h6:=R0W h5
  obtain ⟨g1,rfl⟩:∃ g1,g=g1 + 1:=⟨g - 1,by generalize Uw / V=q at *;omega⟩
  rw [show g1 + 1 - 1=g1 by omega] at h6
  have h7:(g1 + 1) * (top * B + next)≤x * B + u3:=by
   rw [← hx,R0o ((g1 + 1) * top),R0b (g1 + 1),← R0i];omega
  have h8:top * B + next < g1:=by
   rw [R0o,R0S] at h7
   rw [R0b,R0O] at h6
   omega
  have h9:B≤top * B:=Nat.le_mul_of_pos_left _ (by have:=h.hB;have:=h.htop;omega)
  omega
theorem v0Q {X c P:Nat} (h:Gs W low lowV Uw V x u3 top next B) (h1:Uw / V≤g) (h2:g≤Uw / V + 1) (hs:X + g * V=Uw + c * P) (hX:X < P) (hP:V < P) :
  (c=0→g=Uw / V∧X=Uw % V)∧(c ≠ 0→g=Uw / V + 1∧∀ X' c',X' + c' * P=X + V→X' < P→X' = Uw % V):=by
 have hd:=S0H Uw V
 have hm:=R0V Uw h.V0
 generalize Uw / V=q at *
 generalize Uw % V=r at *
 refine ⟨fun hc=>?_,fun hc=>?_⟩
 ·subst hc
  rw [Nat.zero_mul,R0N] at hs
  by_cases hg:g=q
  ·subst hg;refine ⟨rfl,?_⟩;rw [R0u g V] at hs;omega
  ·have:g=q + 1:=by omega
   subst this
   rw [R0o,R0S,R0u q V] at hs;omega
 ·have hcP:P≤c * P:=Nat.le_mul_of_pos_left _ (by omega)
  by_cases hg:g=q
  ·subst hg;rw [R0u g V] at hs;omega
  ·have hg:g=q + 1:=by omega
   subst hg
   refine ⟨rfl,fun X' c' h3 h4=>?_⟩
   rw [R0o,R0S,R0u q V] at hs
   have hc1:c=1:=by
    by_cases hc2:2≤c
    ·have:2 * P≤c * P:=R0h _ hc2
     omega
    ·omega
   subst hc1
   have hc'1:c' = 1:=by
    by_cases h5:c' = 0
    ·subst h5;omega
    ·by_cases h6:2≤c'
     ·have:2 * P≤c' * P:=R0h _ h6
      omega
     ·omega
   subst hc'1
   omega
theorem o0j {BB i k n q r V U0:Nat} {L X Q:List Nat} (hBB:BB=4294967296) (hL:L.length=n) (hw:Won L X i (k + 1)) (hn:i + (k + 1)≤n) (hQ:i < Q.length) (hU:U0=a0l (Q.drop (i + 1)) * BB ^ (i + 1) * V + a0l L) (hV:V < BB ^ k) (hlt:a0l L < V * BB ^ (i + 1))
  (hq:win L i (k + 1)=V * q + r) (hr:r < V) (hX:win X i (k + 1)=r) :
  a0l X < V * BB ^ i∧U0=a0l ((Q.set i q).drop i) * BB ^ i * V + a0l X:=by
 obtain ⟨j,rfl⟩:∃ j,n=i + (k + 1) + j:=⟨n - (i + (k + 1)),by omega⟩
 have e1:a0l L=win L 0 i + BB ^ i * (win L i (k + 1) + BB ^ (k + 1) * win L (i + (k + 1)) j):=by
  have h1:=f0r (L:=L) (Q0W _)
  rw [Q0Z,hL,R0R,c0l,c0l,R0B] at h1
  rw [h1,hBB]
 have e2:a0l X=win X 0 i + BB ^ i * (win X i (k + 1) + BB ^ (k + 1) * win X (i + (k + 1)) j):=by
  have h1:=f0r (L:=X) (Q0W _)
  rw [Q0Z,hw.1,hL,R0R,c0l,c0l,R0B] at h1
  rw [h1,hBB]
 have e3:win X 0 i=win L 0 i:=g0X fun j hj=>hw.2.2 _ (by omega)
 have e4:win X (i + (k + 1)) j=win L (i + (k + 1)) j:=g0X fun j hj=>hw.2.2 _ (by omega)
 have hP:0 < BB ^ i:=Nat.pow_pos (by omega)
 have e5:win L (i + (k + 1)) j=0:=by
  by_cases h0:win L (i + (k + 1)) j=0
  ·exact h0
  ·exfalso
   have h1:BB ^ i * BB ^ (k + 1)≤a0l L:=by
    rw [e1]
    have:BB ^ i * BB ^ (k + 1)≤BB ^ i * (win L i (k + 1) + BB ^ (k + 1) * win L (i + (k + 1)) j):=R0y _ (by
     have:=Nat.le_mul_of_pos_right (BB ^ (k + 1)) (by omega:0 < win L (i + (k + 1)) j);omega)
    omega
   have h2:V * BB ^ (i + 1)≤BB ^ k * BB ^ (i + 1):=R0h _ (by omega)
   have h3:BB ^ k * BB ^ (i + 1)=BB ^ i * BB ^ (k + 1):=by rw [← S0C,← S0C];congr 1;omega
   omega
 rw [e5,Nat.mul_zero,R0N] at e1
 rw [e3,e4,e5,Nat.mul_zero,R0N,hX] at e2
 have hlow:win L 0 i < BB ^ i:=by
  rw [← e3,hBB];exact h0O hw.2.1 0 i
 refine ⟨?_,?_⟩
 ·rw [e2]
  have:BB ^ i * (r + 1)≤BB ^ i * V:=R0y _ hr
  rw [R0b,R0O] at this
  rw [R0u V];omega
 ·have h5:=d0P (l:=Q.set i q) (n:=i) (by simpa using hQ)
  rw [Q0T,S0g hQ,R0G,List.drop_set_of_lt (show i < i + 1 by omega),← hBB] at h5
  rw [hU,e1,e2,hq,h5,R0m]
  grind
end
end Go.Proofs.YtacninhfdfhgjaaGreat.AI
