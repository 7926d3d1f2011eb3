/- Part 7 of the proof: AiCall, AiRat1, AiMath3, AiRat2, AiRat3, AiExt1, AiFor, AiVec1, AiDom1, AiDom2, AiDom3, AiDom4, AiFor2, AiSame, AiGreat, AiRow3, AiLat, AiGreat4, AiRefA1, AiRefA2. -/
import Derived.Test.YtjlohmnnldbjoaaGreatRows
import Derived.Test.YtjlohmnnldbjoaaGreatM02
import Derived.Test.YtjlohmnnldbjoaaGreatM05
set_option linter.unusedVariables false
set_option linter.unusedSimpArgs false
set_option linter.unusedSectionVars false
namespace Go.Proofs.YtjlohmnnldbjoaaGreat.AI
section
open Go
def z0g (E:Env) (fl fl':Nat) (f:FuncId) (args:List Value) (H:a0f) (d:Option Nat) (r:List a0L) (t:b0c) (Z:b0c→a0f→Prop) (R:a0E):Prop :=
 a0U E fl' f args H (fun v H'=>WR E fl r (put t d v) H' Z R) R
@[simp ↓ high] theorem Z0o {E:Env} {fl:Nat} {t:b0c} {H:a0f} {R:a0E} {d:Option Nat} {r:List a0L} {Z:b0c→a0f→Prop} {f:FuncId} {az:List Opd} {lone:Bool} :
  WS E fl t H (.call f az lone) (fun v H'=>WR E fl r (put t d v) H' Z R) R=z0g E fl (if lone then fl else max fl H.size) f (az.map (ev t)) H d r t Z R:=nr rfl
def z0e (E:Env) (fl fl':Nat) (x:Value) (args:List Value) (H:a0f) (d:Option Nat) (r:List a0L) (t:b0c) (Z:b0c→a0f→Prop) (R:a0E):Prop :=
 match x with
 | .func (.func f) p q=>z0g E fl fl' f (p.toList ++ args ++ q.toList) H d r t Z R
 | _=>False
@[simp ↓ high] theorem W0t {E:Env} {fl:Nat} {t:b0c} {H:a0f} {R:a0E} {d:Option Nat} {r:List a0L} {Z:b0c→a0f→Prop} {x:Opd} {az:List Opd} {lone:Bool} :
  WS E fl t H (.callv x az lone) (fun v H'=>WR E fl r (put t d v) H' Z R) R=z0e E fl (if lone then fl else max fl H.size) (ev t x) (az.map (ev t)) H d r t Z R:=by
 simp only [WS,opA,z0e];generalize ev t x=y
 cases y <;> try rfl
 rename_i g _ _;cases g <;> rfl
@[simp] theorem W0f {E:Env} {fl fl':Nat} {t:b0c} {H:a0f} {R:a0E} {d:Option Nat} {r:List a0L} {Z:b0c→a0f→Prop} {f:FuncId} {p q:Array Value} {az:List Value} :
  z0e E fl fl' (.func (.func f) p q) az H d r t Z R=z0g E fl fl' f (p.toList ++ az ++ q.toList) H d r t Z R:=nr rfl
theorem s0T {E:Env} {fl fl' fl2:Nat} {t t':b0c} {H:a0f} {R:a0E} {d:Option Nat} {r:List a0L} {Z:b0c→a0f→Prop} {f:FuncId} {az az':List Value} (h:az=az') (ht:t=t') (hf:fl' = fl2) :
  z0g E fl fl' f az H d r t Z R=z0g E fl fl2 f az' H d r t' Z R:=by rw [h,ht,hf]
attribute [congr] s0T
section
variable {E:Env} {fl:Nat} {t:b0c} {H:a0f} {Z:b0c→a0f→Log→Prop} {lg:Log} {d:Option Nat} {r:List a0L}
def a1W (E:Env) (fl fl':Nat) (f:FuncId) (args:List Value) (H:a0f) (d:Option Nat) (r:List a0L) (t:b0c) (lg:Log) (Z:b0c→a0f→Log→Prop):Prop :=
 a0U E fl' f args H (fun v H'=>WRL E fl r (put t d v) H' lg Z) (fun _=>False)
@[simp ↓ high] theorem Z0p {f:FuncId} {az:List Opd} {lone:Bool} :
  WS E fl t H (.call f az lone) (fun v H'=>WRL E fl r (put t d v) H' lg Z) (fun _=>False)=a1W E fl (if lone then fl else max fl H.size) f (az.map (ev t)) H d r t lg Z:=nr rfl
end
section
variable {H G G3:a0f} {q p:Nat} {X r0:Blk} {ro:Bool} {e:TypeId} {cs:List Value}
theorem a0o (hS:Array.setIfInBounds G q X=G3) (hb:a0f.blk G p=r0) (h:q ≠ p):a0f.blk G3 p=r0:=by rw [← hS,b0h h];exact hb
theorem a0u (hS:Array.setIfInBounds G q X=G3) (hb:a0f.blk G q=.row ro e cs):a0f.blk G3 q=X:=by rw [← hS,a0B (a0l hb)]
theorem a0J (hS:Array.setIfInBounds G q X=G3) (hx:Ext H G) (h:H.size≤q):Ext H G3:=by rw [← hS];exact hx.set h
theorem Lim.setS {v:Value} {l:List Nat} (k:Lim G v l) (hS:Array.setIfInBounds G q X=G3) (hb:a0f.blk G q=.row ro e cs) (hne:e ≠ a0j):Lim G3 v l:=by rw [← hS];exact k.setT hb hne
theorem b0f.setS {v:Value} {i:Bool × List Nat} (k:b0f G v i) (hS:Array.setIfInBounds G q X=G3) (hb:a0f.blk G q=.row ro e cs) (hne:e ≠ a0j):b0f G3 v i:=by rw [← hS];exact k.setT hb hne
theorem new1 {z r:Blk} (hN:Array.setIfInBounds (Array.push G z) G.size r=G3):Ext G G3∧a0f.blk G3 G.size=r:=by
 rw [← hN];exact ⟨((Ext.refl G).push).set (by omega),by rw [a0B (by simp)]⟩
theorem g0B {z:Blk} (hN:Array.push G z=G3):Ext G G3∧a0f.blk G3 G.size=z:=by
 rw [← hN];exact ⟨(Ext.refl G).push,a0D⟩
end
def lz (z:Int):Nat:=(a0p z.natAbs).length
theorem r0R {z:Int} {k:Nat} (h:z.natAbs < 4294967296 ^ k):lz z≤k:=e0d h
theorem A0x (z:Int):z.natAbs < 4294967296 ^ lz z:=e0q _
theorem l0Z {x y:Int} (h:x.natAbs≤y.natAbs):lz x≤lz y:=a0X h
theorem c0f (x y:Int):lz (x * y)≤lz x + lz y:=by
 refine r0R ?_
 rw [h1n,h1F]
 exact Nat.mul_lt_mul'' (A0x x) (A0x y)
theorem o0g (x y:Int):lz (x + y)≤max (lz x) (lz y) + 1:=by
 refine r0R ?_
 have h1:=A0x x
 have h2:=A0x y
 have h3:(4294967296:Nat) ^ lz x≤4294967296 ^ max (lz x) (lz y):=g1W (by omega) (by omega)
 have h4:(4294967296:Nat) ^ lz y≤4294967296 ^ max (lz x) (lz y):=g1W (by omega) (by omega)
 have:=Int.natAbs_add_le x y
 rw [g1f]
 omega
theorem g0P (x:Int):lz (-x)=lz x:=by unfold lz;rw [Int.natAbs_neg]
theorem g0e:lz 1=1:=by unfold lz;rw [e0e (by decide),show (1:Int).natAbs / 4294967296=0 from rfl,a0Y];rfl
theorem d0y:lz 0=0:=by unfold lz;rw [show (0:Int).natAbs=0 from rfl,a0Y];rfl
theorem a0g (z:Int):(a0k z).2.length=lz z:=rfl
theorem N0c {i:Bool × List Nat} (h:b0s i.2):lz (a0z i)≤i.2.length:=a0v h
end
section
open Go
set_option maxHeartbeats 4000000
variable {fl:Nat} {H:a0f} {R:a0E} {v w:Value} {i j:Bool × List Nat}
abbrev b0x:=(Bool × List Nat) × (Bool × List Nat)
def b0X (H:a0f) (v:Value) (a:b0x):Prop:=∃ s u,v=.agg #[.bool a.1.1,s,.bool a.2.1,u]∧Lim H s a.1.2∧Lim H u a.2.2
variable {a b:b0x}
theorem b0X.mono {G:a0f} (h:b0X H v a) (hx:Ext H G):b0X G v a:=by obtain ⟨s,u,h1,h2,h3⟩:=h;exact ⟨s,u,h1,h2.mono hx,h3.mono hx⟩
theorem b0X.setT (h:b0X H v a) {p:Nat} {ro:Bool} {e':TypeId} {cs':List Value} {r:Blk} (hb:H.blk p=.row ro e' cs') (hne:e' ≠ a0j):b0X (H.setIfInBounds p r) v a:=by
 obtain ⟨s,u,h1,h2,h3⟩:=h;exact ⟨s,u,h1,h2.setT hb hne,h3.setT hb hne⟩
theorem b0X.setS {G3:a0f} {q:Nat} {X:Blk} {ro:Bool} {e:TypeId} {cs:List Value} (k:b0X H v a) (hS:Array.setIfInBounds H q X=G3) (hb:a0f.blk H q=.row ro e cs) (hne:e ≠ a0j):b0X G3 v a:=by rw [← hS];exact k.setT hb hne
def e0F (a:b0x):Nat:=max a.1.2.length a.2.2.length
def d0C (a:b0x):Bool:=!a.1.1 && a.1.2.length == 0 && !a.2.1 && a.2.2.length == 0
def l0t (a:b0x):Bool:=d0C a || (f0H a.1 && f0H a.2 && !a.2.1 && a0z a.2 != 0 && Int.gcd (a0z a.1) (a0z a.2) == 1)
def b0u (a:b0x):Rat:=if d0C a then 0 else if l0t a then Rat.divInt (a0z a.1) (a0z a.2) else 0
def a0e (x:Rat):b0x:=(a0k x.num,a0k x.den)
theorem J0B (a:b0x):d0C a=true ↔ a=((false,[]),(false,[])):=by
 obtain ⟨⟨b1,l1⟩,⟨b2,l2⟩⟩:=a
 unfold d0C;cases b1 <;> cases b2 <;> simp
theorem k0y (hz:d0C a=false) (hm:l0t a=true):a0e (b0u a)=(a0k (a0z a.1),a0k (a0z a.2)):=by
 unfold b0u
 rw [hz,hm]
 unfold l0t at hm
 rw [hz,Bool.false_or] at hm
 simp only [g1b,h1D,bne_iff_ne,ne_eq,beq_iff_eq] at hm
 obtain ⟨⟨⟨⟨h1,h2⟩,h3⟩,h4⟩,h5⟩:=hm
 have hq:0 < a0z a.2:=by
  unfold a0z at h4 ⊢;rw [h2,h3] at h4 ⊢;simp at h4 ⊢;omega
 have hd:((a0z a.2).toNat:Int)=a0z a.2:=i1u (by omega)
 have h6:Rat.divInt (a0z a.1) (a0z a.2) = ⟨a0z a.1,(a0z a.2).toNat,by omega,by rw [Nat.Coprime,← h5,Int.gcd];congr 1;omega⟩:=by
  rw [Rat.mk_eq_divInt,hd]
 simp only [g1h,g1L,g1y]
 rw [h6];unfold a0e;simp only [hd]
theorem l0H:a0e 0=((false,[]),a0k 1):=by
 show (a0k 0,a0k 1)=_;rw [e0b]
theorem n0o (x:Rat):d0C (a0e x)=false:=by
 have:=x.den_nz
 unfold d0C a0e
 have h:a0p (x.den:Int).natAbs ≠ []:=by rw [Ne,b0I];omega
 have h2:(a0p x.den).length ≠ 0:=by intro h3;exact h (g1p.1 h3)
 simp [a0k];intro _ _;simpa using h2
theorem f0r (x:Rat):l0t (a0e x)=true:=by
 have h1:=x.den_nz
 have h2:=x.reduced
 unfold l0t
 rw [n0o,Bool.false_or]
 unfold a0e
 simp only [r0U,a0h,g1b,h1D,bne_iff_ne,beq_iff_eq]
 refine ⟨⟨⟨⟨trivial,trivial⟩,by simp [a0k]⟩,by omega⟩,?_⟩
 rw [Int.gcd,Int.natAbs_natCast];exact h2
theorem a0H (x:Rat):b0u (a0e x)=x:=by
 unfold b0u
 rw [n0o,f0r]
 simp only [g1h,g1L,g1y]
 unfold a0e
 rw [a0h,a0h,i1K]
theorem j0B (h:b0X H v a) (hf:fl≤H.size):a0U env fl x0R [v] H (fun r H'=>r=.bool (d0C a)∧Ext H H') R:=by
 obtain ⟨s,u,rfl,hs,hu⟩:=h
 refine a0i c1f hf (h:=?_)
 intro ρ h0
 simp [L0r,C0B,h0]
 have hsl:=hs.slen
 have hul:=hu.slen
 cases h1:a.1.1
 ·by_cases h2:a.1.2=[]
  ·cases h3:a.2.1
   ·simp [m0P,h0,h1,h2,h3,hsl,hul,d0C]
   ·simp [m0P,h0,h1,h2,h3,hsl,hul,d0C]
  ·simp [m0P,h0,h1,h2,hsl,hul,d0C]
 ·simp [m0P,h0,h1,hsl,hul,d0C]
theorem j0A (h:b0f H v i) (hf:fl≤H.size) (hn:i.2.length < 536870912):a0U env fl x0U [v] H (fun r H'=>r=.bool (a0z i == 0)∧Ext H H') R:=by
 have k0:=h
 obtain ⟨s,rfl,hs⟩:=h
 refine a0i c1u hf (h:=?_)
 intro ρ h0
 simp [L0G,D0M,D0N,h0]
 refine (d0E (k0.mono (by simp)) (j:=(false,[])) ⟨_,rfl,Lim.nil⟩ (by simp) hn (by simp)).mono ?_
 rintro _ G2 ⟨rfl,hx2⟩
 have:a0z (false,[])=0:=by unfold a0z f0H;simp [a0w]
 rw [this]
 simp [c0x]
 intro _
 by_cases h1:a0z i < 0
 ·simp [h1];omega
 ·by_cases h2:0 < a0z i
  ·simp [h1,h2];omega
  ·simp [h1,h2];omega
theorem f0b (hf:fl≤H.size):a0U env fl t0k [] H (fun r H'=>b0f H' r (a0k 1)∧Ext H H') R:=by
 refine a0i c1g hf (h:=?_)
 intro ρ h0
 simp [L0s,C0C,C0D,h0]
 refine (c0S (by simp) (by omega) (by omega)).mono ?_
 rintro _ G2 ⟨⟨s,rfl,hs⟩,hx2⟩
 have b0:=hx2.blk a0D
 have hz:=a0l b0
 simp [b0,hs.cells,hs.plain,hz]
 exact fun _=>⟨s,rfl,hs.setT b0 (by decide)⟩
theorem h0k (h:b0X H v a) (hf:fl≤H.size) (hn:e0F a < 536870912):a0U env fl T0W [v] H (fun r H'=>r=.bool (l0t a)∧Ext H H') R:=by
 have k0:=h
 have hn1:a.1.2.length < 536870912:=by unfold e0F at hn;omega
 have hn2:a.2.2.length < 536870912:=by unfold e0F at hn;omega
 obtain ⟨s,u,rfl,hs,hu⟩:=h
 have k1:b0f H (.agg #[.bool a.1.1,s]) a.1:=⟨s,rfl,hs⟩
 have k2:b0f H (.agg #[.bool a.2.1,u]) a.2:=⟨u,rfl,hu⟩
 refine a0i f1t hf (h:=?_)
 intro ρ h0
 simp [a1S,S0A,h0]
 generalize hG:Array.push H _=G
 have hx2:Ext H G:=by rw [← hG];simp
 have b0:a0f.blk G H.size=.row false a0b [.bool a.1.1,s,.bool a.2.1,u]:=by rw [← hG];simp
 have hx:=Ext.refl H
 clear hG
 replace hx:=hx.trans hx2;replace k0:=k0.mono hx2;replace k1:=k1.mono hx2;replace k2:=k2.mono hx2
 simp [S0B,h0,b0]
 refine (j0B k0 hx.1).mono ?_
 rintro _ G2 ⟨rfl,hx2⟩
 replace b0:=hx2.blk b0;replace hx:=hx.trans hx2;replace k1:=k1.mono hx2;replace k2:=k2.mono hx2
 unfold l0t
 cases hz:d0C a
 case true=>simp [S0C]
 simp [S0D,h0,b0]
 refine (e0V k1 hx.1 (by omega)).mono ?_
 rintro _ G2 ⟨rfl,hx2⟩
 replace b0:=hx2.blk b0;replace hx:=hx.trans hx2;replace k1:=k1.mono hx2;replace k2:=k2.mono hx2
 cases h1:f0H a.1
 case false=>simp
 simp [h0,b0]
 refine (e0V k2 hx.1 (by omega)).mono ?_
 rintro _ G2 ⟨rfl,hx2⟩
 replace b0:=hx2.blk b0;replace hx:=hx.trans hx2;replace k1:=k1.mono hx2;replace k2:=k2.mono hx2
 cases h2:f0H a.2
 case false=>simp
 cases h3:a.2.1
 case true=>simp [h0,b0,h3]
 simp [h0,b0,h3]
 rw [← h3]
 refine (j0A k2 hx.1 hn2).mono ?_
 rintro _ G2 ⟨rfl,hx2⟩
 replace b0:=hx2.blk b0;replace hx:=hx.trans hx2;replace k1:=k1.mono hx2;replace k2:=k2.mono hx2
 by_cases h4:a0z a.2=0
 ·simp [h4]
  exact fun _=>h3
 have h4':(a0z a.2 == 0)=false:=by simp [h4]
 simp [h0,b0,h4,h4',h3]
 rw [← h3]
 refine (e0U k1 k2 hx.1 hn1 hn2).mono ?_
 rintro x G2 ⟨k3,hx2⟩
 replace hx:=hx.trans hx2;replace k2:=k2.mono hx2
 try simp [h0]
 refine (f0b hx.1).mono ?_
 rintro y G2 ⟨k4,hx2⟩
 replace hx:=hx.trans hx2;replace k2:=k2.mono hx2;replace k3:=k3.mono hx2
 try simp [h0]
 have hgl:(a0k ((Int.gcd (a0z a.1) (a0z a.2):Nat):Int)).2.length < 536870912:=by
  rw [a0s]
  show (a0p _).length < _
  have h5:Int.gcd (a0z a.1) (a0z a.2)≤(a0z a.2).natAbs:=h1X _ h4
  have:=a0X h5
  have:=a0v k2.ok
  omega
 refine (d0E k3 k4 hx.1 hgl (by rw [a0g,g0e];decide)).mono ?_
 rintro _ G2 ⟨rfl,hx2⟩
 rw [a0h,a0h]
 simp
 intro _
 generalize Int.gcd (a0z a.1) (a0z a.2)=g
 have h6:(c0x (g:Int) 1 == 0)=(g == 1):=by
  unfold c0x
  by_cases hg:g=1
  ·subst hg;rfl
  ·have e:(g == 1)=false:=by simp [hg]
   rw [e];split
   ·rfl
   ·rename_i h7;split
    ·rfl
    ·omega
 simp [h3,h4,h6]
theorem c0j (h:b0X H v a) (hf:fl≤H.size) (hn:e0F a < 536870912):a0U env fl A0f [v] H (fun r H'=>b0X H' r (a0e (b0u a))∧Ext H H') R:=by
 have k0:=h
 have hn1:a.1.2.length < 536870912:=by unfold e0F at hn;omega
 have hn2:a.2.2.length < 536870912:=by unfold e0F at hn;omega
 obtain ⟨s,u,rfl,hs,hu⟩:=h
 have k1:b0f H (.agg #[.bool a.1.1,s]) a.1:=⟨s,rfl,hs⟩
 have k2:b0f H (.agg #[.bool a.2.1,u]) a.2:=⟨u,rfl,hu⟩
 refine a0i f1k hf (h:=?_)
 intro ρ h0
 simp [a1J,R0S,h0]
 generalize hG:Array.push (Array.push H _) _=G
 have hx2:Ext H G:=by rw [← hG];simp
 have b0:a0f.blk G H.size=.row false a0b [.bool a.1.1,s,.bool a.2.1,u]:=by rw [← hG];simp
 have b1:a0f.blk G (H.size + 1)=.row false a0b [.bool false,.slice none 0 0,.bool false,.slice none 0 0]:=by rw [← hG];simp
 have hx:=Ext.refl H
 clear hG
 replace hx:=hx.trans hx2;replace k0:=k0.mono hx2;replace k1:=k1.mono hx2;replace k2:=k2.mono hx2
 simp [R0T,h0,b0]
 refine (j0B k0 hx.1).mono ?_
 rintro _ G2 ⟨rfl,hx2⟩
 replace b0:=hx2.blk b0;replace b1:=hx2.blk b1;replace hx:=hx.trans hx2;replace k0:=k0.mono hx2;replace k1:=k1.mono hx2;replace k2:=k2.mono hx2
 cases hz0:d0C a
 case true =>
  have hval:b0u a=0:=by unfold b0u;rw [hz0];rfl
  simp [I0M,h0]
  refine (f0b hx.1).mono ?_
  rintro _ G2 ⟨⟨s1,rfl,hs1⟩,hx2⟩
  replace b0:=hx2.blk b0;replace b1:=hx2.blk b1;replace hx:=hx.trans hx2;replace k0:=k0.mono hx2;replace k1:=k1.mono hx2;replace k2:=k2.mono hx2
  have hz:=a0l b1
  simp [h0,b1,hs1.cells,hs1.plain,hz]
  refine fun _=>?_
  rw [hval,l0H]
  exact ⟨_,s1,rfl,Lim.nil,hs1.setT b1 (by decide)⟩
 simp [h0,b0]
 refine (h0k k0 hx.1 hn).mono ?_
 rintro _ G2 ⟨rfl,hx2⟩
 replace b0:=hx2.blk b0;replace b1:=hx2.blk b1;replace hx:=hx.trans hx2;replace k1:=k1.mono hx2;replace k2:=k2.mono hx2
 cases hm:l0t a
 case false =>
  have hval:b0u a=0:=by unfold b0u;rw [hz0,hm];rfl
  simp [I0M,h0]
  refine (f0b hx.1).mono ?_
  rintro _ G2 ⟨⟨s1,rfl,hs1⟩,hx2⟩
  replace b0:=hx2.blk b0;replace b1:=hx2.blk b1;replace hx:=hx.trans hx2;replace k1:=k1.mono hx2;replace k2:=k2.mono hx2
  have hz:=a0l b1
  simp [h0,b1,hs1.cells,hs1.plain,hz]
  refine fun _=>?_
  rw [hval,l0H]
  exact ⟨_,s1,rfl,Lim.nil,hs1.setT b1 (by decide)⟩
 rw [k0y hz0 hm]
 simp [h0]
 refine a0G ?_
 simp [R0U,h0,b0]
 have hv0:a0z (false,[])=0:=by unfold a0z f0H;simp [a0w]
 refine (e0T k1 (j:=(false,[])) ⟨_,rfl,Lim.nil⟩ (by have:=hx.1;omega) hn1 (by simp)).mono ?_
 rintro _ G2 ⟨⟨s1,rfl,k3⟩,hx2⟩
 replace b0:=hx2.blk b0;replace b1:=hx2.blk b1;replace hx:=hx.trans hx2;replace k2:=k2.mono hx2
 rw [hv0,h1m] at k3 ⊢
 try simp [h0,b0]
 refine (e0T k2 (j:=(false,[])) ⟨_,rfl,Lim.nil⟩ hx.1 hn2 (by simp)).mono ?_
 rintro _ G2 ⟨⟨s2,rfl,k4⟩,hx2⟩
 replace b1:=hx2.blk b1;replace hx:=hx.trans hx2;replace k3:=k3.mono hx2
 rw [hv0,h1m] at k4 ⊢
 have hz:=a0l b1
 simp [h0,b1,k3.cells,k3.plain,k4.cells,k4.plain,hz]
 exact fun _=>⟨s1,s2,rfl,k3.setT b1 (by decide),k4.setT b1 (by decide)⟩
end
section
open Go
def szR (x:Rat):Nat:=max (lz x.num) (lz x.den)
theorem a0V (x:Rat):e0F (a0e x)=szR x:=rfl
theorem J0u (x:Rat):1≤szR x:=by
 unfold szR
 have:lz x.den ≠ 0:=by
  unfold lz
  intro h
  have:=b0I.1 (g1p.1 h)
  have:=x.den_nz
  omega
 omega
theorem e0o:szR 0=1:=by show max (lz 0) (lz 1)=1;rw [d0y,g0e];rfl
theorem J0t:szR 1=1:=by show max (lz 1) (lz 1)=1;rw [g0e];rfl
theorem v0e (z:Int):szR (z:Rat)=max (lz z) 1:=by
 unfold szR;rw [i1L,i1J];show max (lz z) (lz 1)=_;rw [g0e]
theorem b0W (p q:Int):szR (Rat.divInt p q)≤max (max (lz p) (lz q)) 1:=by
 unfold szR
 rw [Rat.num_divInt,Rat.den_divInt]
 have h1:lz (q.sign * p / ↑(q.gcd p))≤lz p:=by
  refine l0Z ?_
  rw [Int.natAbs_ediv_of_dvd]
  ·refine f1Y (g1Q _ _) ?_
   rw [h1n]
   have : q.sign.natAbs ≤ 1 := by rcases Int.lt_trichotomy q 0 with h | h | h
                                  ·rw [Int.sign_eq_neg_one_of_neg h];decide
                                  ·rw [h];decide
                                  ·rw [Int.sign_eq_one_of_pos h];decide
   calc _≤1 * p.natAbs:=f1S _ this
    _=_:=g1A _
  ·exact Int.dvd_mul_of_dvd_right (i1k ..)
 have h2:lz ((if q=0 then 1 else q.natAbs / q.gcd p:Nat):Int)≤max (lz q) 1:=by
  split
  ·show lz 1≤_;rw [g0e];omega
  ·have:lz ((q.natAbs / q.gcd p:Nat):Int)≤lz q:=l0Z (by rw [Int.natAbs_natCast];exact g1Q _ _)
   omega
 omega
theorem k0I (n:Int) (d:Nat):mkRat n d=Rat.divInt n d:=rfl
theorem j0P (x y:Rat):x + y=Rat.divInt (x.num * y.den + y.num * x.den) (x.den * y.den):=by rw [Rat.add_def',k0I,g1a]
theorem k0b (x y:Rat):x * y=Rat.divInt (x.num * y.num) (x.den * y.den):=by rw [Rat.mul_def',k0I,g1a]
theorem n0X (x y:Rat):x / y=Rat.divInt (x.num * y.den) (x.den * y.num):=by
 rw [Rat.div_def,Rat.inv_def]
 conv=>lhs;lhs;rw [← i1K x]
 rw [Rat.divInt_mul_divInt]
theorem J0s (x y:Rat):szR (x + y)≤szR x + szR y + 1:=by
 rw [j0P]
 refine f1Y (b0W _ _) ?_
 have h1:=o0g (x.num * y.den) (y.num * x.den)
 have h2:=c0f x.num y.den
 have h3:=c0f y.num x.den
 have h4:=c0f (x.den:Int) y.den
 unfold szR;omega
theorem i0J (x y:Rat):szR (x * y)≤szR x + szR y:=by
 rw [k0b]
 refine f1Y (b0W _ _) ?_
 have h2:=c0f x.num y.num
 have h4:=c0f (x.den:Int) y.den
 have:=J0u x
 unfold szR at *;omega
theorem V0n (x:Rat):szR (-x)=szR x:=by unfold szR;rw [Rat.neg_num,Rat.neg_den,g0P]
theorem V0m (x y:Rat):szR (x / y)≤szR x + szR y:=by
 rw [n0X]
 refine f1Y (b0W _ _) ?_
 have h2:=c0f x.num y.den
 have h4:=c0f (x.den:Int) y.num
 have:=J0u x
 unfold szR at *;omega
theorem b0N {a:b0x} (h1:b0s a.1.2) (h2:b0s a.2.2):szR (b0u a)≤max (e0F a) 1:=by
 by_cases hz:d0C a=true
 ·have:b0u a=0:=by unfold b0u;rw [hz];rfl
  rw [this,e0o];omega
 ·by_cases hm:l0t a=true
  ·have h3:=k0y (by simpa using hz) hm
   have h4:=a0V (b0u a)
   rw [h3] at h4
   rw [← h4]
   have:=N0c h1
   have:=N0c h2
   unfold e0F;simp only [a0g];omega
  ·have:b0u a=0:=by unfold b0u;simp [hz,hm]
   rw [this,e0o];omega
theorem s0f {p q g:Int} (hq:q ≠ 0) (hg:g=if q < 0 then -(Int.gcd p q:Int) else (Int.gcd p q:Int)):a0e (Rat.divInt p q)=(a0k (p.tdiv g),a0k (q.tdiv g))∧g ≠ 0:=by
 have hgp:0 < Int.gcd p q:=Int.gcd_pos_of_ne_zero_right _ hq
 have hg0:g ≠ 0:=by rw [hg];split <;> omega
 refine ⟨?_,hg0⟩
 have hdp : g ∣ p := by rw [hg]; split
                        ·exact Int.neg_dvd.2 (Int.gcd_dvd_left ..)
                        ·exact Int.gcd_dvd_left ..
 have hdq : g ∣ q := by rw [hg]; split
                        ·exact Int.neg_dvd.2 (i1k ..)
                        ·exact i1k ..
 have hna:g.natAbs=Int.gcd p q:=by rw [hg];split <;> simp
 have e1:=Int.tdiv_mul_cancel hdp
 have e2:=Int.tdiv_mul_cancel hdq
 have hcop:Int.gcd (p.tdiv g) (q.tdiv g)=1:=by
  have h1:Int.gcd (p.tdiv g * g) (q.tdiv g * g)=Int.gcd (p.tdiv g) (q.tdiv g) * g.natAbs:=Int.gcd_mul_right ..
  rw [e1,e2,hna] at h1
  have h2:1 * Int.gcd p q=Int.gcd (p.tdiv g) (q.tdiv g) * Int.gcd p q:=by rw [g1A];exact h1
  exact (Nat.eq_of_mul_eq_mul_right hgp h2).symm
 have hpos:0 < q.tdiv g:=by
  by_cases hq0:q < 0
  ·have:g < 0:=by rw [hg,f1N hq0];omega
   by_cases h:0 < q.tdiv g
   ·exact h
   ·have:=Int.mul_nonneg_of_nonpos_of_nonpos (a:=q.tdiv g) (b:=g) (by omega) (by omega);omega
  ·have:0 < g:=by rw [hg,f1K hq0];omega
   by_cases h:0 < q.tdiv g
   ·exact h
   ·have:=g1G (a:=q.tdiv g) (b:=g) (by omega) (by omega);omega
 have h3:Rat.divInt p q=Rat.divInt (p.tdiv g) (q.tdiv g):=by
  have h:=Rat.divInt_mul_right (n:=p.tdiv g) (d:=q.tdiv g) hg0
  rw [e1,e2] at h;exact h
 generalize p.tdiv g=x at *
 generalize q.tdiv g=y at *
 have hd:((y.toNat:Nat):Int)=y:=i1u (by omega)
 have h6:Rat.divInt x y = ⟨x,y.toNat,by omega,by rw [Nat.Coprime,← hcop,Int.gcd];congr 1;omega⟩:=by
  rw [Rat.mk_eq_divInt,hd]
 rw [h3,h6];unfold a0e;simp only [hd]
def v0C (x y:Rat):Int:=if x < y then -1 else if y < x then 1 else 0
theorem T0s (x y:Rat):c0x (x.num * y.den) (y.num * x.den)=v0C x y:=by
 unfold c0x v0C
 simp only [Rat.lt_iff,gt_iff_lt]
end
section
open Go
set_option maxHeartbeats 4000000
variable {fl:Nat} {H:a0f} {R:a0E} {v w:Value} {i j:Bool × List Nat} {a b:b0x}
theorem b0f.cells {i:Bool × List Nat} (h:b0f H v i):(a0W v).length=2∧(a0W v).all a0F=true:=by
 obtain ⟨s,rfl,hs⟩:=h;simp [hs.plain]
theorem d0G (h:b0f H v i) (k:b0f H w j) (hf:fl≤H.size) (hn:i.2.length < 536870912) (hm:j.2.length < 536870912) (hj0:a0z j ≠ 0) :
  a0U env fl p0z [v,w] H (fun r H'=>(∃ q,r=.tuple #[q,.int .i64 0]∧b0X H' q (a0e (Rat.divInt (a0z i) (a0z j))))∧Ext H H') R:=by
 have k0:=h
 have k1:=k
 obtain ⟨s,rfl,hs⟩:=h
 obtain ⟨u,rfl,hu⟩:=k
 refine a0i c1h hf (h:=?_)
 intro ρ h0
 simp [L0t,C0E,h0]
 generalize hG:Array.push (Array.push (Array.push H _) _) _=G
 have hx:Ext H G:=by rw [← hG];exact (Ext.refl H).push.push.push
 have b0:a0f.blk G H.size=.row false a0a [.bool i.1,s]:=by rw [← hG];simp
 have b1:a0f.blk G (H.size + 1)=.row false a0a [.bool j.1,u]:=by rw [← hG];simp
 have b2:a0f.blk G (H.size + 2)=.row false a0b [.bool false,.slice none 0 0,.bool false,.slice none 0 0]:=by rw [← hG];simp
 clear hG
 replace k0:=k0.mono hx
 replace k1:=k1.mono hx
 have l1:=a0v k0.ok
 have l2:=a0v k1.ok
 simp [C0F,h0,b1]
 refine (j0A k1 hx.1 hm).mono ?_
 rintro _ G2 ⟨rfl,hx2⟩
 replace b0:=hx2.blk b0;replace b1:=hx2.blk b1;replace b2:=hx2.blk b2;replace hx:=hx.trans hx2;replace k0:=k0.mono hx2;replace k1:=k1.mono hx2
 have hj0':(a0z j == 0)=false:=by simp [hj0]
 simp [hj0',hj0,C0G,h0,b0,b1]
 refine (e0U k0 k1 hx.1 hn hm).mono ?_
 rintro x G2 ⟨⟨s1,rfl,k2⟩,hx2⟩
 replace b0:=hx2.blk b0;replace b1:=hx2.blk b1;replace b2:=hx2.blk b2;replace hx:=hx.trans hx2;replace k0:=k0.mono hx2;replace k1:=k1.mono hx2
 have hsz:=hx.1
 simp [h0,k2.cells,k2.plain,hsz]
 generalize hN:Array.setIfInBounds (Array.push _ _) _ _=G3
 obtain ⟨hx2,b3⟩:=new1 hN
 have hb2l:=a0l b2
 replace b0:=hx2.blk b0;replace b1:=hx2.blk b1;replace b2:=hx2.blk b2;replace hx:=hx.trans hx2;replace k0:=k0.mono hx2;replace k1:=k1.mono hx2;replace k2:=k2.mono hx2
 clear hN
 obtain ⟨P,hP⟩:∃ P,P=G2.size:=⟨_,rfl⟩
 rw [← hP] at b3 hsz hb2l ⊢
 have hgl:lz (Int.gcd (a0z i) (a0z j):Int) < 536870912:=by
  have h5:Int.gcd (a0z i) (a0z j)≤(a0z j).natAbs:=h1X _ hj0
  have:lz (Int.gcd (a0z i) (a0z j):Int)≤(a0p (a0z j).natAbs).length:=a0X (by simpa using h5)
  omega
 simp [C0H,h0,b1]
 refine (d0E k1 (j:=(false,[])) ⟨_,rfl,Lim.nil⟩ hx.1 hm (by simp)).mono ?_
 rintro _ G2 ⟨rfl,hx2⟩
 replace b0:=hx2.blk b0;replace b1:=hx2.blk b1;replace b2:=hx2.blk b2;replace b3:=hx2.blk b3;replace hx:=hx.trans hx2;replace k0:=k0.mono hx2;replace k1:=k1.mono hx2;replace k2:=k2.mono hx2
 have hv0:a0z (false,[])=0:=by unfold a0z f0H;simp [a0w]
 rw [hv0]
 obtain ⟨g,hg⟩:∃ g,g=if a0z j < 0 then -(Int.gcd (a0z i) (a0z j):Int) else (Int.gcd (a0z i) (a0z j):Int):=⟨_,rfl⟩
 obtain ⟨hq,hg0⟩:=s0f (p:=a0z i) hj0 hg
 rw [hq]
 have hgl2:lz g < 536870912:=by rw [hg];split;rw [g0P];exact hgl;exact hgl
 by_cases hneg:a0z j < 0
 ·have hcz:c0x (a0z j) 0 < 0:=by unfold c0x;rw [f1N hneg];omega
  simp [hcz,C0I,h0,b3]
  refine (e0W (i:=a0k (Int.gcd (a0z i) (a0z j))) ⟨s1,rfl,k2⟩ hx.1 (by rw [a0g];omega)).mono ?_
  rintro _ G2 ⟨⟨s2,rfl,k6⟩,hx2⟩
  replace b0:=hx2.blk b0;replace b1:=hx2.blk b1;replace b2:=hx2.blk b2;replace b3:=hx2.blk b3;replace hx:=hx.trans hx2;replace k0:=k0.mono hx2;replace k1:=k1.mono hx2;replace k2:=k2.mono hx2
  rw [a0h] at k6 ⊢
  rw [f1N hneg] at hg
  rw [← hg] at k6 ⊢
  have hz:=a0l b3
  simp [h0,b3,k6.cells,k6.plain,hsz]
  generalize hS:Array.setIfInBounds _ _ _=G3
  have hsz:=hx.1;replace k0:=k0.setS hS b3 (by decide);replace k1:=k1.setS hS b3 (by decide);replace k2:=k2.setS hS b3 (by decide);replace k6:=k6.setS hS b3 (by decide);replace b0:=a0o hS b0 (by omega);replace b1:=a0o hS b1 (by omega);replace b2:=a0o hS b2 (by omega);replace hx:=a0J hS hx (by omega);replace b3:=a0u hS b3;clear hS hsz
  clear k2
  have k2:=k6
  clear k6
  obtain ⟨s1,rfl⟩:∃ s1,s1=s2:=⟨_,rfl⟩
  simp [t0N,h0,b0,b3]
  refine (b0R k0 ⟨s1,rfl,k2⟩ hx.1 hn (by rw [a0g];exact hgl2) (by rw [a0h];exact hg0)).mono ?_
  rintro _ G2 ⟨⟨_,_,rfl,⟨s3,rfl,k3⟩,k4⟩,hx2⟩
  replace b0:=hx2.blk b0;replace b1:=hx2.blk b1;replace b2:=hx2.blk b2;replace b3:=hx2.blk b3;replace hx:=hx.trans hx2;replace k0:=k0.mono hx2;replace k1:=k1.mono hx2;replace k2:=k2.mono hx2
  rw [a0h] at k3 ⊢
  have hz:=a0l b0
  simp [h0,b0,k3.cells,k3.plain,hz]
  generalize hS:Array.setIfInBounds _ _ _=G3
  have hsz:=hx.1;replace k0:=k0.setS hS b0 (by decide);replace k1:=k1.setS hS b0 (by decide);replace k2:=k2.setS hS b0 (by decide);replace k3:=k3.setS hS b0 (by decide);replace k4:=k4.setS hS b0 (by decide);replace b1:=a0o hS b1 (by omega);replace b2:=a0o hS b2 (by omega);replace b3:=a0o hS b3 (by omega);replace hx:=a0J hS hx (by omega);replace b0:=a0u hS b0;clear hS hsz
  simp [t0O,h0,b1,b3]
  refine (b0R k1 ⟨s1,rfl,k2⟩ hx.1 hm (by rw [a0g];exact hgl2) (by rw [a0h];exact hg0)).mono ?_
  rintro _ G2 ⟨⟨_,_,rfl,⟨s4,rfl,k4⟩,k5⟩,hx2⟩
  replace b0:=hx2.blk b0;replace b1:=hx2.blk b1;replace b2:=hx2.blk b2;replace b3:=hx2.blk b3;replace hx:=hx.trans hx2;replace k0:=k0.mono hx2;replace k1:=k1.mono hx2;replace k2:=k2.mono hx2;replace k3:=k3.mono hx2
  rw [a0h] at k4 ⊢
  have hz:=a0l b1
  simp [h0,b1,k4.cells,k4.plain,hz]
  generalize hS:Array.setIfInBounds _ _ _=G3
  have hsz:=hx.1;replace k0:=k0.setS hS b1 (by decide);replace k1:=k1.setS hS b1 (by decide);replace k2:=k2.setS hS b1 (by decide);replace k3:=k3.setS hS b1 (by decide);replace k4:=k4.setS hS b1 (by decide);replace k5:=k5.setS hS b1 (by decide);replace b0:=a0o hS b0 (by omega);replace b2:=a0o hS b2 (by omega);replace b3:=a0o hS b3 (by omega);replace hx:=a0J hS hx (by omega);replace b1:=a0u hS b1;clear hS hsz
  have hz:=a0l b2
  simp [t0P,h0,b0,b1,b2,k3.cells,k3.plain,k4.cells,k4.plain,hz]
  exact fun _=>⟨s3,s4,rfl,k3.setT b2 (by decide),k4.setT b2 (by decide)⟩
 ·have hcz:¬ c0x (a0z j) 0 < 0:=by unfold c0x;rw [f1K hneg];split <;> omega
  rw [f1K hneg] at hg
  rw [← hg] at k2 b3
  simp [hcz]
  simp [t0N,h0,b0,b3]
  refine (b0R k0 ⟨s1,rfl,k2⟩ hx.1 hn (by rw [a0g];exact hgl2) (by rw [a0h];exact hg0)).mono ?_
  rintro _ G2 ⟨⟨_,_,rfl,⟨s3,rfl,k3⟩,k4⟩,hx2⟩
  replace b0:=hx2.blk b0;replace b1:=hx2.blk b1;replace b2:=hx2.blk b2;replace b3:=hx2.blk b3;replace hx:=hx.trans hx2;replace k0:=k0.mono hx2;replace k1:=k1.mono hx2;replace k2:=k2.mono hx2
  rw [a0h] at k3 ⊢
  have hz:=a0l b0
  simp [h0,b0,k3.cells,k3.plain,hz]
  generalize hS:Array.setIfInBounds _ _ _=G3
  have hsz:=hx.1;replace k0:=k0.setS hS b0 (by decide);replace k1:=k1.setS hS b0 (by decide);replace k2:=k2.setS hS b0 (by decide);replace k3:=k3.setS hS b0 (by decide);replace k4:=k4.setS hS b0 (by decide);replace b1:=a0o hS b1 (by omega);replace b2:=a0o hS b2 (by omega);replace b3:=a0o hS b3 (by omega);replace hx:=a0J hS hx (by omega);replace b0:=a0u hS b0;clear hS hsz
  simp [t0O,h0,b1,b3]
  refine (b0R k1 ⟨s1,rfl,k2⟩ hx.1 hm (by rw [a0g];exact hgl2) (by rw [a0h];exact hg0)).mono ?_
  rintro _ G2 ⟨⟨_,_,rfl,⟨s4,rfl,k4⟩,k5⟩,hx2⟩
  replace b0:=hx2.blk b0;replace b1:=hx2.blk b1;replace b2:=hx2.blk b2;replace b3:=hx2.blk b3;replace hx:=hx.trans hx2;replace k0:=k0.mono hx2;replace k1:=k1.mono hx2;replace k2:=k2.mono hx2;replace k3:=k3.mono hx2
  rw [a0h] at k4 ⊢
  have hz:=a0l b1
  simp [h0,b1,k4.cells,k4.plain,hz]
  generalize hS:Array.setIfInBounds _ _ _=G3
  have hsz:=hx.1;replace k0:=k0.setS hS b1 (by decide);replace k1:=k1.setS hS b1 (by decide);replace k2:=k2.setS hS b1 (by decide);replace k3:=k3.setS hS b1 (by decide);replace k4:=k4.setS hS b1 (by decide);replace k5:=k5.setS hS b1 (by decide);replace b0:=a0o hS b0 (by omega);replace b2:=a0o hS b2 (by omega);replace b3:=a0o hS b3 (by omega);replace hx:=a0J hS hx (by omega);replace b1:=a0u hS b1;clear hS hsz
  have hz:=a0l b2
  simp [t0P,h0,b0,b1,b2,k3.cells,k3.plain,k4.cells,k4.plain,hz]
  exact fun _=>⟨s3,s4,rfl,k3.setT b2 (by decide),k4.setT b2 (by decide)⟩
end
section
open Go
set_option maxHeartbeats 4000000
variable {fl:Nat} {H G:a0f} {R:a0E} {v w:Value} {i j:Bool × List Nat} {a b:b0x}
theorem b0X.p (h:b0X H v a):∃ s u,v=.agg #[.bool a.1.1,s,.bool a.2.1,u]∧Lim H s a.1.2∧Lim H u a.2.2∧b0f H (.agg #[.bool a.1.1,s]) a.1∧b0f H (.agg #[.bool a.2.1,u]) a.2:=by
 obtain ⟨s,u,h1,h2,h3⟩:=h;exact ⟨s,u,h1,h2,h3,⟨s,rfl,h2⟩,⟨u,rfl,h3⟩⟩
theorem b0X.ok (h:b0X H v a):b0s a.1.2∧b0s a.2.2:=by obtain ⟨s,u,_,h2,h3⟩:=h;exact ⟨h2.ok,h3.ok⟩
theorem d0j (x:Rat):lz x.num≤szR x:=by unfold szR;omega
theorem d0P (x:Rat):lz x.den≤szR x:=by unfold szR;omega
theorem i0n (h:b0f H v i) (k:b0f H w j) (hf:fl≤H.size) (hn:i.2.length < 536870912) (hm:j.2.length < 536870912) (hj0:a0z j ≠ 0) :
  a0U env fl V0Q [v,w] H (fun r H'=>b0X H' r (a0e (Rat.divInt (a0z i) (a0z j)))∧Ext H H') R:=by
 have k0:=h
 have k1:=k
 obtain ⟨s,rfl,hs⟩:=h
 obtain ⟨u,rfl,hu⟩:=k
 refine a0i f1l hf (h:=?_)
 intro ρ h0
 simp [a1K,R0V,h0]
 generalize hG:Array.push (Array.push (Array.push H _) _) _=G
 have hx:Ext H G:=by rw [← hG];exact (Ext.refl H).push.push.push
 have b0:a0f.blk G H.size=.row false a0a [.bool i.1,s]:=by rw [← hG];simp
 have b1:a0f.blk G (H.size + 1)=.row false a0a [.bool j.1,u]:=by rw [← hG];simp
 have b2:a0f.blk G (H.size + 2)=.row false a0b [.bool false,.slice none 0 0,.bool false,.slice none 0 0]:=by rw [← hG];simp
 clear hG
 replace k0:=k0.mono hx
 replace k1:=k1.mono hx
 simp [R0W,h0,b0,b1]
 refine (d0G k0 k1 hx.1 hn hm hj0).mono ?_
 rintro _ G2 ⟨⟨q,rfl,s1,s2,rfl,k2,k3⟩,hx2⟩
 replace b2:=hx2.blk b2;replace hx:=hx.trans hx2
 have hsz:=hx.1
 simp [h0,k2.cells,k2.plain,k3.cells,k3.plain,hsz]
 generalize hN:Array.setIfInBounds (Array.push _ _) _ _=G3
 obtain ⟨hx2,b3⟩:=new1 hN
 clear hN
 replace b2:=hx2.blk b2;replace hx:=hx.trans hx2;replace k2:=k2.mono hx2;replace k3:=k3.mono hx2
 have hz:=a0l b2
 simp [R0X,h0,b2,b3,k2.cells,k2.plain,k3.cells,k3.plain,hz]
 exact fun _=>⟨s1,s2,rfl,k2.setT b2 (by decide),k3.setT b2 (by decide)⟩
def x0z (H:a0f) (v:Value) (l:List (Bool × List Nat)):Prop :=
 ∃ cs,Sl H a0a 2 v l.length cs∧∀ k,(h:k < l.length)→b0f H (.agg ((cs.drop (k * 2)).take 2).toArray) l[k]
theorem k0q (h:b0f H v i) (hl:b0f H w j) {c:Nat} {p:Nat} (hb:H.blk p=.row false a0a (a0W w)) (hf:fl≤H.size) (hn:i.2.length < 536870912) (hm:j.2.length < 536870912) :
  a0U env fl X0D [.func (.func J0G) #[] #[],v,.slice (some ⟨p,0,none⟩) 1 c] H (fun r H'=>b0f H' r (a0k (a0z i + a0z j))∧Ext H H') R:=by
 have k0:=h
 have k1:=hl
 obtain ⟨s,rfl,hs⟩:=h
 obtain ⟨u,rfl,hu⟩:=hl
 simp at hb
 refine a0i f1m hf (h:=?_)
 intro ρ h0
 have hpl:=a0l hb
 simp [a1L,R0Y,R0Z,h0,i0H]
 generalize hG:Array.push (Array.push H _) _=G
 have hx2:Ext H G:=by rw [← hG];exact (Ext.refl H).push.push
 have b0:a0f.blk G H.size=.row false a0a [.bool i.1,s]:=by rw [← hG];simp
 have b1:a0f.blk G (H.size + 1)=.row false a0a [.bool false,.slice none 0 0]:=by rw [← hG];simp
 have b2:a0f.blk G p=.row false a0a [.bool j.1,u]:=hx2.blk hb
 have hx:=hx2
 clear hG
 replace k0:=k0.mono hx2
 replace k1:=k1.mono hx2
 clear hb
 refine b0Z (fun c' t G=>∃ n:Nat,n + c' = 1∧t.length=21∧get t 0=.func (.func J0G) #[] #[]∧get t 4=.pointer (some ⟨H.size,0,none⟩)∧get t 6=.pointer (some ⟨H.size + 1,0,none⟩)∧get t 9=.slice (some ⟨p,0,none⟩) 1 c∧get t 10=.int .i64 1∧get t 11=.int .i64 (n:Int) ∧
   Ext H G∧a0f.blk G (H.size + 1)=.row false a0a [.bool false,.slice none 0 0] ∧
   (n=0→a0f.blk G H.size=.row false a0a [.bool i.1,s]∧a0f.blk G p=.row false a0a [.bool j.1,u]∧b0f G (.agg #[.bool i.1,s]) i∧b0f G (.agg #[.bool j.1,u]) j) ∧
   (n=1→∃ s2,a0f.blk G H.size=.row false a0a [.bool (a0k (a0z i + a0z j)).1,s2]∧Lim G s2 (a0k (a0z i + a0z j)).2))
  (fun t G=>∃ s2,t.length=21∧get t 4=.pointer (some ⟨H.size,0,none⟩)∧get t 6=.pointer (some ⟨H.size + 1,0,none⟩)∧Ext H G∧a0f.blk G (H.size + 1)=.row false a0a [.bool false,.slice none 0 0] ∧
   a0f.blk G H.size=.row false a0a [.bool (a0k (a0z i + a0z j)).1,s2]∧Lim G s2 (a0k (a0z i + a0z j)).2) 1 ?_ ?_ ?_
 ·exact ⟨0,rfl,by simp,by simp [h0],by simp,by simp,by simp [h0],by simp,by simp,hx,b1,fun _=>⟨b0,b2,k0,k1⟩,by omega⟩
 ·clear h0 ρ k0 k1 b0 b1 b2 hx hx2 G
  rintro c' t G ⟨n,hnc,ht,g0,g4,g6,g9,g10,g11,hx,b1,hc0,hc1⟩
  obtain ⟨ρ,rfl⟩:=toT ht
  simp only [b0U,Nat.reduceLT] at g0 g4 g6 g9 g10 g11
  by_cases hn0:n=0
  ·subst hn0
   obtain ⟨b0,b2,k0,k1⟩:=hc0 rfl
   have hlt:=hx.1
   have hbl:=a0l b1
   have e9:IntKind.i64.wrap ((0:Int) + 1)=1:=by decide
   simp [I0N,S0a,g0,g4,g6,g9,g10,g11,iaV,b2]
   have hc:(a0W (Value.agg #[.bool j.1,u])).length=2:=rfl
   simp [hu.cells,hu.plain,hlt]
   generalize hN:Array.setIfInBounds (Array.push _ _) _ _=G3
   obtain ⟨hx2,b3⟩:=new1 hN
   clear hN
   replace b0:=hx2.blk b0;replace b1:=hx2.blk b1;replace b2:=hx2.blk b2;replace hx:=hx.trans hx2;replace k0:=k0.mono hx2;replace k1:=k1.mono hx2
   simp [S0b,S0c,g0,g4,g6,g9,g10,g11,b0,b3]
   refine (e0T k0 k1 hx.1 hn hm).mono ?_
   rintro _ G2 ⟨⟨s2,rfl,k2⟩,hx2⟩
   replace b0:=hx2.blk b0;replace b1:=hx2.blk b1;replace b2:=hx2.blk b2;replace hx:=hx.trans hx2;replace k0:=k0.mono hx2;replace k1:=k1.mono hx2
   have hz:=a0l b0
   simp [g0,g4,g6,g9,g10,g11,b0,k2.cells,k2.plain,hz,e9]
   exact ⟨0,by omega,1,rfl,rfl,hx.set (by omega),b1,by omega,fun _=>k2.setT b0 (by decide)⟩
  ·have:n=1:=by omega
   subst this
   obtain ⟨s2,b0,k0⟩:=hc1 rfl
   simp [I0N,g0,g4,g6,g9,g10,g11]
   exact ⟨hx,b1,s2,b0,k0⟩
 ·clear h0 ρ k0 k1 b0 b1 b2 hx hx2 G
  rintro t G ⟨s2,ht,g4,g6,hx,b1,b0,k0⟩
  obtain ⟨ρ,rfl⟩:=toT ht
  simp only [b0U,Nat.reduceLT] at g4 g6
  have hz:=a0l b1
  simp [S0d,g4,g6,b0,b1,k0.cells,k0.plain,hz]
  exact fun _=>⟨s2,rfl,k0.setT b1 (by decide)⟩
theorem c0X (h:b0X H v a) (k:b0X H w b) (hf:fl≤H.size) (hn:e0F a < 67108864) (hm:e0F b < 67108864) :
  a0U env fl z0a [v,w] H (fun r H'=>b0X H' r (a0e (b0u a + b0u b))∧Ext H H') R:=by
 have k0:=h
 have k1:=k
 obtain ⟨s,u,rfl,hs,hu⟩:=h
 obtain ⟨s',u',rfl,hs',hu'⟩:=k
 refine a0i e1Q hf (h:=?_)
 intro ρ h0
 simp [a1p,Q0n,h0]
 generalize hG:Array.push (Array.push (Array.push H _) _) _=G
 have hx:Ext H G:=by rw [← hG];exact (Ext.refl H).push.push.push
 have b0:a0f.blk G H.size=.row false a0b [.bool a.1.1,s,.bool a.2.1,u]:=by rw [← hG];simp
 have b1:a0f.blk G (H.size + 1)=.row false a0b [.bool b.1.1,s',.bool b.2.1,u']:=by rw [← hG];simp
 have b2:a0f.blk G (H.size + 2)=.row false a0b [.bool false,.slice none 0 0,.bool false,.slice none 0 0]:=by rw [← hG];simp
 clear hG
 replace k0:=k0.mono hx
 replace k1:=k1.mono hx
 have sa:=b0N k0.ok.1 k0.ok.2
 have sb:=b0N k1.ok.1 k1.ok.2
 refine a0G ?_
 simp [Q0o,h0,b0,b1]
 refine (c0j k0 (by have:=hx.1;omega) (by omega)).mono ?_
 rintro _ G2 ⟨⟨s1,s2,rfl,k2,k3⟩,hx2⟩
 replace b0:=hx2.blk b0;replace b1:=hx2.blk b1;replace b2:=hx2.blk b2;replace hx:=hx.trans hx2;replace k0:=k0.mono hx2;replace k1:=k1.mono hx2
 simp [h0,b1]
 refine (c0j k1 hx.1 (by omega)).mono ?_
 rintro _ G2 ⟨⟨s3,s4,rfl,k4,k5⟩,hx2⟩
 replace b0:=hx2.blk b0;replace b1:=hx2.blk b1;replace b2:=hx2.blk b2;replace hx:=hx.trans hx2;replace k0:=k0.mono hx2;replace k1:=k1.mono hx2;replace k2:=k2.mono hx2;replace k3:=k3.mono hx2
 clear k0 k1
 have hz0:=a0l b0
 simp [h0,b0,k2.cells,k2.plain,k3.cells,k3.plain,hz0]
 generalize hS:Array.setIfInBounds _ _ _=G3
 have hsz:=hx.1;replace k2:=k2.setS hS b0 (by decide);replace k3:=k3.setS hS b0 (by decide);replace k4:=k4.setS hS b0 (by decide);replace k5:=k5.setS hS b0 (by decide);replace b1:=a0o hS b1 (by omega);replace b2:=a0o hS b2 (by omega);replace hx:=a0J hS hx (by omega);replace b0:=a0u hS b0;clear hS hsz
 have hz0:=a0l b1
 simp [b1,k4.cells,k4.plain,k5.cells,k5.plain,hz0]
 generalize hS:Array.setIfInBounds _ _ _=G3
 have hsz:=hx.1;replace k2:=k2.setS hS b1 (by decide);replace k3:=k3.setS hS b1 (by decide);replace k4:=k4.setS hS b1 (by decide);replace k5:=k5.setS hS b1 (by decide);replace b0:=a0o hS b0 (by omega);replace b2:=a0o hS b2 (by omega);replace hx:=a0J hS hx (by omega);replace b1:=a0u hS b1;clear hS hsz
 obtain ⟨x,hxv⟩:∃ x,x=b0u a:=⟨_,rfl⟩
 obtain ⟨y,hyv⟩:∃ y,y=b0u b:=⟨_,rfl⟩
 rw [← hxv] at sa k2 k3 b0 ⊢
 rw [← hyv] at sb k4 k5 b1 ⊢
 have k0:b0f _ (.agg #[.bool (a0e x).1.1,s1]) (a0k x.num):=⟨s1,rfl,k2⟩
 have k1:b0f _ (.agg #[.bool (a0e x).2.1,s2]) (a0k x.den):=⟨s2,rfl,k3⟩
 have k6:b0f _ (.agg #[.bool (a0e y).1.1,s3]) (a0k y.num):=⟨s3,rfl,k4⟩
 have k7:b0f _ (.agg #[.bool (a0e y).2.1,s4]) (a0k y.den):=⟨s4,rfl,k5⟩
 have l1:=d0j x
 have l2:=d0P x
 have l3:=d0j y
 have l4:=d0P y
 clear hs hu hs' hu' k2 k3 k4 k5
 refine a0G ?_
 simp [Q0p,h0,b0,b1]
 refine (b0E k0 k7 (by have:=hx.1;omega) (by rw [a0g];omega) (by rw [a0g];omega)).mono ?_
 rintro _ G2 ⟨k2,hx2⟩
 replace b0:=hx2.blk b0;replace b1:=hx2.blk b1;replace b2:=hx2.blk b2;replace hx:=hx.trans hx2;replace k1:=k1.mono hx2;replace k6:=k6.mono hx2;replace k7:=k7.mono hx2
 rw [a0h,a0h] at k2
 simp [h0,b0,b1]
 refine (b0E k6 k1 (by have:=hx.1;omega) (by rw [a0g];omega) (by rw [a0g];omega)).mono ?_
 rintro _ G2 ⟨k3,hx2⟩
 replace b0:=hx2.blk b0;replace b1:=hx2.blk b1;replace b2:=hx2.blk b2;replace hx:=hx.trans hx2;replace k1:=k1.mono hx2;replace k2:=k2.mono hx2;replace k6:=k6.mono hx2;replace k7:=k7.mono hx2
 rw [a0h,a0h] at k3
 obtain ⟨s5,hk3,k3'⟩:=k3
 subst hk3
 simp [h0,k3'.cells]
 generalize hN:Array.push _ _=G3
 obtain ⟨hx2,b3⟩:=g0B hN
 have hGs:G3.size=G2.size + 1:=by rw [← hN];simp
 clear hN
 have k3:b0f G2 (.agg #[.bool (a0k (y.num * x.den)).1,s5]) (a0k (y.num * x.den)):=⟨s5,rfl,k3'⟩
 replace b0:=hx2.blk b0;replace b1:=hx2.blk b1;replace b2:=hx2.blk b2;replace hx:=hx.trans hx2;replace k1:=k1.mono hx2;replace k2:=k2.mono hx2;replace k3:=k3.mono hx2;replace k6:=k6.mono hx2;replace k7:=k7.mono hx2
 have m1:=c0f x.num y.den
 have m2:=c0f y.num x.den
 refine (k0q k2 k3 (by simpa using b3) (by have:=hx.1;omega) (by rw [a0g];omega) (by rw [a0g];omega)).mono ?_
 rintro _ G2 ⟨k4,hx2⟩
 replace b0:=hx2.blk b0;replace b1:=hx2.blk b1;replace b2:=hx2.blk b2;replace hx:=hx.trans hx2;replace k1:=k1.mono hx2;replace k6:=k6.mono hx2;replace k7:=k7.mono hx2
 rw [a0h,a0h] at k4
 simp [h0,b0,b1]
 refine (b0E k1 k7 hx.1 (by rw [a0g];omega) (by rw [a0g];omega)).mono ?_
 rintro _ G2 ⟨k5,hx2⟩
 replace b2:=hx2.blk b2;replace hx:=hx.trans hx2;replace k4:=k4.mono hx2;replace k6:=k6.mono hx2;replace k7:=k7.mono hx2
 rw [a0h,a0h] at k5
 simp [h0]
 have m3:=o0g (x.num * y.den) (y.num * x.den)
 have m4:=c0f (x.den:Int) y.den
 refine (i0n k4 k5 hx.1 (by rw [a0g];omega) (by rw [a0g];omega) (by rw [a0h];have:=x.den_nz;have:=y.den_nz;exact i1e (by omega) (by omega))).mono ?_
 rintro _ G2 ⟨⟨s6,s7,rfl,k6,k7⟩,hx2⟩
 replace b2:=hx2.blk b2;replace hx:=hx.trans hx2
 rw [a0h,a0h,← j0P] at k6 k7 ⊢
 have hz:=a0l b2
 simp [h0,b2,k6.cells,k6.plain,k7.cells,k7.plain,hz]
 exact fun _=>⟨s6,s7,rfl,k6.setT b2 (by decide),k7.setT b2 (by decide)⟩
theorem k0S (h:b0X H v a) (k:b0X H w b) (hf:fl≤H.size) (hn:e0F a < 67108864) (hm:e0F b < 67108864) :
  a0U env fl V0R [v,w] H (fun r H'=>b0X H' r (a0e (b0u a * b0u b))∧Ext H H') R:=by
 have k0:=h
 have k1:=k
 obtain ⟨s,u,rfl,hs,hu⟩:=h
 obtain ⟨s',u',rfl,hs',hu'⟩:=k
 refine a0i f1q hf (h:=?_)
 intro ρ h0
 simp [a1P,S0v,h0]
 generalize hG:Array.push (Array.push (Array.push H _) _) _=G
 have hx:Ext H G:=by rw [← hG];exact (Ext.refl H).push.push.push
 have b0:a0f.blk G H.size=.row false a0b [.bool a.1.1,s,.bool a.2.1,u]:=by rw [← hG];simp
 have b1:a0f.blk G (H.size + 1)=.row false a0b [.bool b.1.1,s',.bool b.2.1,u']:=by rw [← hG];simp
 have b2:a0f.blk G (H.size + 2)=.row false a0b [.bool false,.slice none 0 0,.bool false,.slice none 0 0]:=by rw [← hG];simp
 clear hG
 replace k0:=k0.mono hx
 replace k1:=k1.mono hx
 have sa:=b0N k0.ok.1 k0.ok.2
 have sb:=b0N k1.ok.1 k1.ok.2
 refine a0G ?_
 simp [S0w,h0,b0,b1]
 refine (c0j k0 (by have:=hx.1;omega) (by omega)).mono ?_
 rintro _ G2 ⟨⟨s1,s2,rfl,k2,k3⟩,hx2⟩
 replace b0:=hx2.blk b0;replace b1:=hx2.blk b1;replace b2:=hx2.blk b2;replace hx:=hx.trans hx2;replace k0:=k0.mono hx2;replace k1:=k1.mono hx2
 simp [h0,b1]
 refine (c0j k1 hx.1 (by omega)).mono ?_
 rintro _ G2 ⟨⟨s3,s4,rfl,k4,k5⟩,hx2⟩
 replace b0:=hx2.blk b0;replace b1:=hx2.blk b1;replace b2:=hx2.blk b2;replace hx:=hx.trans hx2;replace k0:=k0.mono hx2;replace k1:=k1.mono hx2;replace k2:=k2.mono hx2;replace k3:=k3.mono hx2
 clear k0 k1
 have hz0:=a0l b0
 simp [h0,b0,k2.cells,k2.plain,k3.cells,k3.plain,hz0]
 generalize hS:Array.setIfInBounds _ _ _=G3
 have hsz:=hx.1;replace k2:=k2.setS hS b0 (by decide);replace k3:=k3.setS hS b0 (by decide);replace k4:=k4.setS hS b0 (by decide);replace k5:=k5.setS hS b0 (by decide);replace b1:=a0o hS b1 (by omega);replace b2:=a0o hS b2 (by omega);replace hx:=a0J hS hx (by omega);replace b0:=a0u hS b0;clear hS hsz
 have hz0:=a0l b1
 simp [b1,k4.cells,k4.plain,k5.cells,k5.plain,hz0]
 generalize hS:Array.setIfInBounds _ _ _=G3
 have hsz:=hx.1;replace k2:=k2.setS hS b1 (by decide);replace k3:=k3.setS hS b1 (by decide);replace k4:=k4.setS hS b1 (by decide);replace k5:=k5.setS hS b1 (by decide);replace b0:=a0o hS b0 (by omega);replace b2:=a0o hS b2 (by omega);replace hx:=a0J hS hx (by omega);replace b1:=a0u hS b1;clear hS hsz
 obtain ⟨x,hxv⟩:∃ x,x=b0u a:=⟨_,rfl⟩
 obtain ⟨y,hyv⟩:∃ y,y=b0u b:=⟨_,rfl⟩
 rw [← hxv] at sa k2 k3 b0 ⊢
 rw [← hyv] at sb k4 k5 b1 ⊢
 have k0:b0f _ (.agg #[.bool (a0e x).1.1,s1]) (a0k x.num):=⟨s1,rfl,k2⟩
 have k1:b0f _ (.agg #[.bool (a0e x).2.1,s2]) (a0k x.den):=⟨s2,rfl,k3⟩
 have k6:b0f _ (.agg #[.bool (a0e y).1.1,s3]) (a0k y.num):=⟨s3,rfl,k4⟩
 have k7:b0f _ (.agg #[.bool (a0e y).2.1,s4]) (a0k y.den):=⟨s4,rfl,k5⟩
 have l1:=d0j x
 have l2:=d0P x
 have l3:=d0j y
 have l4:=d0P y
 clear hs hu hs' hu' k2 k3 k4 k5
 refine a0G ?_
 simp [S0x,h0,b0,b1]
 refine (b0E k0 k6 (by have:=hx.1;omega) (by rw [a0g];omega) (by rw [a0g];omega)).mono ?_
 rintro _ G2 ⟨k2,hx2⟩
 replace b0:=hx2.blk b0;replace b1:=hx2.blk b1;replace b2:=hx2.blk b2;replace hx:=hx.trans hx2;replace k1:=k1.mono hx2;replace k6:=k6.mono hx2;replace k7:=k7.mono hx2
 rw [a0h,a0h] at k2
 simp [h0,b0,b1]
 refine (b0E k1 k7 hx.1 (by rw [a0g];omega) (by rw [a0g];omega)).mono ?_
 rintro _ G2 ⟨k5,hx2⟩
 replace b2:=hx2.blk b2;replace hx:=hx.trans hx2;replace k2:=k2.mono hx2;replace k6:=k6.mono hx2;replace k7:=k7.mono hx2
 rw [a0h,a0h] at k5
 simp [h0]
 have m3:=c0f x.num y.num
 have m4:=c0f (x.den:Int) y.den
 refine (i0n k2 k5 hx.1 (by rw [a0g];omega) (by rw [a0g];omega) (by rw [a0h];have:=x.den_nz;have:=y.den_nz;exact i1e (by omega) (by omega))).mono ?_
 rintro _ G2 ⟨⟨s6,s7,rfl,k6,k7⟩,hx2⟩
 replace b2:=hx2.blk b2;replace hx:=hx.trans hx2
 rw [a0h,a0h,← k0b] at k6 k7 ⊢
 have hz:=a0l b2
 simp [h0,b2,k6.cells,k6.plain,k7.cells,k7.plain,hz]
 exact fun _=>⟨s6,s7,rfl,k6.setT b2 (by decide),k7.setT b2 (by decide)⟩
theorem g0a {n:Int} (hf:fl≤H.size) (h1:-9223372036854775808≤n) (h2:n < 9223372036854775808) :
  a0U env fl A0g [.int .i64 n] H (fun r H'=>b0X H' r (a0e (n:Rat))∧Ext H H') R:=by
 refine a0i f1p hf (h:=?_)
 intro ρ h0
 simp [a1O,S0t,S0u,h0]
 have hx:=(Ext.refl H).push (r:=.row false a0b [.bool false,.slice none 0 0,.bool false,.slice none 0 0])
 have b2:a0f.blk (Array.push H (.row false a0b [.bool false,.slice none 0 0,.bool false,.slice none 0 0])) H.size=_:=a0D
 generalize Array.push H _=G at *
 refine (c0S hx.1 h1 h2).mono ?_
 rintro _ G2 ⟨⟨s1,rfl,k2⟩,hx2⟩
 replace b2:=hx2.blk b2;replace hx:=hx.trans hx2
 simp [h0]
 refine (f0b hx.1).mono ?_
 rintro _ G2 ⟨⟨s2,rfl,k3⟩,hx2⟩
 replace b2:=hx2.blk b2;replace hx:=hx.trans hx2;replace k2:=k2.mono hx2
 have hz:=a0l b2
 simp [h0,b2,k2.cells,k2.plain,k3.cells,k3.plain,hz]
 refine fun _=>⟨s1,s2,?_,?_,?_⟩
 ·unfold a0e;rw [i1L,i1J];rfl
 ·unfold a0e;rw [i1L];exact k2.setT b2 (by decide)
 ·unfold a0e;rw [i1J];exact k3.setT b2 (by decide)
end
section
open Go
set_option maxHeartbeats 4000000
variable {fl:Nat} {H G:a0f} {R:a0E} {v w:Value} {a b:b0x}
abbrev d0K:=Int × b0x
def j0O (H:a0f) (v:Value) (e:d0K):Prop:=∃ s u,v=.agg #[.int .i64 e.1,.bool e.2.1.1,s,.bool e.2.2.1,u]∧Lim H s e.2.1.2∧Lim H u e.2.2.2
variable {e f:d0K}
theorem j0O.mono (h:j0O H v e) (hx:Ext H G):j0O G v e:=by obtain ⟨s,u,h1,h2,h3⟩:=h;exact ⟨s,u,h1,h2.mono hx,h3.mono hx⟩
theorem j0O.setT (h:j0O H v e) {p:Nat} {ro:Bool} {e':TypeId} {cs':List Value} {r:Blk} (hb:H.blk p=.row ro e' cs') (hne:e' ≠ a0j):j0O (H.setIfInBounds p r) v e:=by
 obtain ⟨s,u,h1,h2,h3⟩:=h;exact ⟨s,u,h1,h2.setT hb hne,h3.setT hb hne⟩
theorem j0O.setS {G3:a0f} {q:Nat} {X:Blk} {ro:Bool} {e':TypeId} {cs:List Value} (k:j0O H v e) (hS:Array.setIfInBounds H q X=G3) (hb:a0f.blk H q=.row ro e' cs) (hne:e' ≠ a0j):j0O G3 v e:=by rw [← hS];exact k.setT hb hne
theorem j0O.ok (h:j0O H v e):b0s e.2.1.2∧b0s e.2.2.2:=by obtain ⟨s,u,_,h2,h3⟩:=h;exact ⟨h2.ok,h3.ok⟩
def n0r (e:d0K):Bool:=if e.1 = -1 ∨ e.1=1 then d0C e.2 else if e.1=0 then l0t e.2 else false
def x0s (e:d0K):Int × Rat:=if n0r e then (if e.1=0 then (0,b0u e.2) else (e.1,0)) else (0,0)
def k0C (x:Int × Rat):d0K:=if x.1=0 then (0,a0e x.2) else (x.1,((false,[]),(false,[])))
def d0Q:b0x:=((false,[]),(false,[]))
theorem p0f:d0C d0Q=true:=rfl
theorem d0q:b0u d0Q=0:=by unfold b0u;rw [p0f];rfl
theorem h0l:b0X H (.agg #[.bool false,.slice none 0 0,.bool false,.slice none 0 0]) d0Q:=⟨_,_,rfl,Lim.nil,Lim.nil⟩
theorem i0W (h:b0X H v a) (hf:fl≤H.size):a0U env fl X0G [v] H (fun r H'=>r=.bool (d0C a)∧Ext H H') R:=by
 obtain ⟨s,u,rfl,hs,hu⟩:=h
 refine a0i f1v hf (h:=?_)
 intro ρ h0
 simp [a1U,S0K,h0]
 have hsl:=hs.slen
 have hul:=hu.slen
 cases h1:a.1.1
 ·by_cases h2:a.1.2=[]
  ·cases h3:a.2.1
   ·simp [s0A,h0,h1,h2,h3,hsl,hul,d0C]
   ·simp [s0A,h0,h1,h2,h3,hsl,hul,d0C]
  ·simp [s0A,h0,h1,h2,hsl,hul,d0C]
 ·simp [s0A,h0,h1,hsl,hul,d0C]
theorem r0v (h:j0O H v e) (hf:fl≤H.size) (hn:e0F e.2 < 67108864):a0U env fl X0x [v] H (fun r H'=>r=.bool (n0r e)∧Ext H H') R:=by
 obtain ⟨s,u,rfl,hs,hu⟩:=h
 have k0:b0X H (.agg #[.bool e.2.1.1,s,.bool e.2.2.1,u]) e.2:=⟨s,u,rfl,hs,hu⟩
 refine a0i e1X hf (h:=?_)
 intro ρ h0
 simp [a1w,Q0M,Q0N,Q0O,h0]
 generalize hG:Array.push H _=G
 obtain ⟨hx2,b0⟩:=g0B hG
 have hx:=Ext.refl H
 clear hG
 replace hx:=hx.trans hx2;replace k0:=k0.mono hx2
 unfold n0r
 by_cases h1:e.1 = -1
 ·simp [h1,I0C,h0,b0]
  refine (i0W k0 hx.1).mono ?_
  rintro _ G2 ⟨rfl,hx2⟩
  simp
 ·by_cases h2:e.1=1
  ·simp [h2,x0g,I0C,h0,b0]
   refine (i0W k0 hx.1).mono ?_
   rintro _ G2 ⟨rfl,hx2⟩
   simp
  ·by_cases h3:e.1=0
   ·simp [h3,x0g,I0D,Q0P,h0,b0]
    refine (h0k k0 hx.1 (by omega)).mono ?_
    rintro _ G2 ⟨rfl,hx2⟩
    simp
   ·simp [h1,h2,h3,x0g,I0D,Q0Q,h0,b0]
end
section
open Go
def z0b (b2 b:Nat) (A:b0c→a0f→Prop) (Z:b0c→a0f→Prop) (Q:d0R):d0R
 | .normal,t,H=>A t H
 | .exit j,t,H=>if j=b2 then A t H else if j=b then Z t H else Q (.exit j) t H
 | .ret,t,H=>Q .ret t H
section
variable {b2 b:Nat} {A Z:b0c→a0f→Prop} {Q:d0R} {t:b0c} {H:a0f}
@[simp] theorem T0X:z0b b2 b A Z Q .normal t H=A t H:=nr rfl
@[simp] theorem X0J {j:Nat}:z0b b2 b A Z Q (.exit j) t H=if j=b2 then A t H else if j=b then Z t H else Q (.exit j) t H:=nr rfl
@[simp] theorem Z0G:z0b b2 b A Z Q .ret t H=Q .ret t H:=nr rfl
end
def Rnd (nt ti tn n i:Nat) (Inv:Nat→(Nat→Value)→a0f→Prop) (t:b0c) (H:a0f):Prop :=
 ∃ ρ,t=T nt ρ∧ρ ti=.int .i64 (i:Int)∧ρ tn=.int .i64 (n:Int)∧Inv (i + 1) ρ H
theorem Rnd.mk {nt ti tn n i:Nat} {Inv:Nat→(Nat→Value)→a0f→Prop} {ρ:Nat→Value} {H:a0f} (h1:ρ ti=.int .i64 (i:Int)) (h2:ρ tn=.int .i64 (n:Int)) (h3:Inv (i + 1) ρ H):Rnd nt ti tn n i Inv (T nt ρ) H:=⟨ρ,rfl,h1,h2,h3⟩
theorem d0W {E:Env} {fl nt ti tn tc tx b b2 n:Nat} {body:SCode} {Z:b0c→a0f→Prop} {Q:d0R} {R:a0E} {ρ:Nat→Value} {H:a0f} {rc rx:List a0L} (Inv:Nat→(Nat→Value)→a0f→Prop)
  (hrc:rc=[⟨some tc,none,.bin 0 .lss (.tmp ti) (.tmp tn)⟩]) (hrx:rx=[⟨some tx,none,.bin 0 .add (.tmp ti) (.const (.int .i64 1))⟩,⟨some ti,none,.mv (.tmp tx)⟩])
  (hl:ti < nt∧tn < nt∧tc < nt∧tx < nt∧tc ≠ ti∧tc ≠ tn∧tx ≠ ti∧tx ≠ tn∧ti ≠ tn) (hn:n < 4611686018427387904)
  (h0:ρ ti=.int .i64 0) (hN:ρ tn=.int .i64 (n:Int)) (hI:Inv 0 ρ H)
  (stab:∀ i (ρ ρ':Nat→Value) H,(∀ k,k ≠ tc→k ≠ tx→k ≠ ti→ρ' k=ρ k)→Inv i ρ H→Inv i ρ' H)
  (step:∀ i ρ H,i < n→ρ ti=.int .i64 (i:Int)→ρ tn=.int .i64 (n:Int)→Inv i ρ H→W E fl body (T nt ρ) H (z0b b2 b (Rnd nt ti tn n i Inv) Z Q) R)
  (rest:∀ ρ H,ρ ti=.int .i64 (n:Int)→ρ tn=.int .i64 (n:Int)→Inv n ρ H→Z (T nt ρ) H) :
  W E fl (.loop (.seq (.reg rc) (.seq (.cond (.tmp tc) .skip (.exit b)) (.seq (.block b2 body) (.reg rx))))) (T nt ρ) H (e0H b (h0Z Z Q)) R:=by
 subst hrc hrx
 obtain ⟨l1,l2,l3,l4,n1,n2,n3,n4,n5⟩:=hl
 refine b0Z (fun k t G=>∃ i ρ,i + k=n∧t=T nt ρ∧ρ ti=.int .i64 (i:Int)∧ρ tn=.int .i64 (n:Int)∧Inv i ρ G) Z n ?_ ?_ (fun _ _ h=>h)
 ·exact ⟨0,ρ,by omega,rfl,h0,hN,hI⟩
 ·clear h0 hN hI ρ H
  rintro k t G ⟨i,ρ,hik,rfl,g1,g2,hI⟩
  have e9:IntKind.i64.wrap ((i:Int) + 1)=((i + 1:Nat):Int):=by rw [a0Q (by omega) (by omega)];omega
  have hstab:∀ v,Inv i (upd ρ tc v) G:=fun v=>stab i ρ _ G (fun k h1 _ _=>j0I (h1w h1)) hI
  refine h0H (l0F ?_)
  simp only [l0B,z0q,k0F,b0U l1,b0U l2,g1,g2,J0W,p0R,z0p,e0s,U0h]
  by_cases hi:i < n
  ·have hs:=step i (upd ρ tc (.bool true)) G hi (by rw [j0I n1];exact g1) (by rw [j0I n2];exact g2) (hstab _)
   have hd:decide ((i:Int) < (n:Int))=true:=by rw [g1T];omega
   rw [hd]
   refine h0H (l0D true (by rw [k0F,b0U l3,l0y]) (fun _=>v0s ?_) (by simp))
   refine h0H (p0k ?_)
   have hfin:∀ t' H',Rnd nt ti tn n i Inv t' H'→WR E fl [⟨some tx,none,.bin 0 .add (.tmp ti) (.const (.int .i64 1))⟩,⟨some ti,none,.mv (.tmp tx)⟩] t' H' (fun t' H'=>∃ k',k' < k∧∃ i ρ,i + k' = n∧t' = T nt ρ∧ρ ti=.int .i64 (i:Int)∧ρ tn=.int .i64 (n:Int)∧Inv i ρ H') R:=by
    rintro t' H' ⟨ρ',rfl,q1,q2,q3⟩
    simp only [l0B,z0q,J0R,k0F,K0k,b0U l1,q1,J0U,e9,p0R,z0p,U0h,b0U l4,l0y]
    refine ⟨k - 1,by omega,i + 1,_,by omega,rfl,l0y,?_,?_⟩
    ·rw [j0I n5,j0I n4];exact q2
    ·exact stab (i + 1) ρ' _ H' (fun k h1 h2 h3=>by rw [j0I (h1w h3),j0I (h1w h2)]) q3
   refine hs.mono fun e t' H' hq=>?_
   cases e with
   | normal=>exact l0F (hfin _ _ hq)
   | exit j =>
    simp only [z0b] at hq
    show (if j=b2 then _ else _)
    by_cases hj:j=b2
    ·rw [f1N hj] at hq ⊢;exact l0F (hfin _ _ hq)
    ·rw [f1K hj] at hq ⊢
     show (if j=b then _ else _)
     by_cases hj2:j=b
     ·rw [f1N hj2] at hq ⊢;exact hq
     ·rw [f1K hj2] at hq ⊢;exact hq
   | ret=>exact hq
  ·have:i=n:=by omega
   subst this
   have hd:decide ((i:Int) < (i:Int))=false:=by simp
   rw [hd]
   refine h0H (l0D false (by rw [k0F,b0U l3,l0y]) (by simp) (fun _=>v0r ?_))
   show (if b=b then _ else _)
   rw [f1N rfl]
   exact rest _ _ (by rw [j0I n1];exact g1) (by rw [j0I n2];exact g2) (hstab _)
theorem h0G {Q:d0R}:h0Z (fun t H=>Q .normal t H) Q=Q:=by
 funext e t H;cases e <;> rfl
theorem r0k {E:Env} {fl nt ti tn tc tx b b2 n:Nat} {body:SCode} {Q:d0R} {R:a0E} {ρ:Nat→Value} {H:a0f} {rc rx:List a0L} (Inv:Nat→(Nat→Value)→a0f→Prop)
  (hrc:rc=[⟨some tc,none,.bin 0 .lss (.tmp ti) (.tmp tn)⟩]) (hrx:rx=[⟨some tx,none,.bin 0 .add (.tmp ti) (.const (.int .i64 1))⟩,⟨some ti,none,.mv (.tmp tx)⟩])
  (hl:ti < nt∧tn < nt∧tc < nt∧tx < nt∧tc ≠ ti∧tc ≠ tn∧tx ≠ ti∧tx ≠ tn∧ti ≠ tn) (hn:n < 4611686018427387904)
  (h0:ρ ti=.int .i64 0) (hN:ρ tn=.int .i64 (n:Int)) (hI:Inv 0 ρ H)
  (stab:∀ i (ρ ρ':Nat→Value) H,(∀ k,k ≠ tc→k ≠ tx→k ≠ ti→ρ' k=ρ k)→Inv i ρ H→Inv i ρ' H)
  (step:∀ i ρ H,i < n→ρ ti=.int .i64 (i:Int)→ρ tn=.int .i64 (n:Int)→Inv i ρ H→W E fl body (T nt ρ) H (z0b b2 b (Rnd nt ti tn n i Inv) (fun t H=>Q .normal t H) Q) R)
  (rest:∀ ρ H,ρ ti=.int .i64 (n:Int)→ρ tn=.int .i64 (n:Int)→Inv n ρ H→Q .normal (T nt ρ) H) :
  W E fl (.loop (.seq (.reg rc) (.seq (.cond (.tmp tc) .skip (.exit b)) (.seq (.block b2 body) (.reg rx))))) (T nt ρ) H (e0H b Q) R:=by
 rw [← h0G (Q:=Q)]
 exact d0W (Z:=fun t H=>Q .normal t H) (Q:=Q) Inv hrc hrx hl hn h0 hN hI stab step rest
def Sls {α:Type} (P:a0f→List Value→α→Prop) (H:a0f) (e sz:Nat) (v:Value) (l:List α):Prop :=
 ∃ cs,Sl H e sz v l.length cs∧∀ k (h:k < l.length),P H ((cs.drop (k * sz)).take sz) l[k]
def k0V {α:Type} (P:a0f→List Value→α→Prop):Prop:=∀ H G cs x,Ext H G→P H cs x→P G cs x
section
variable {α:Type} {P:a0f→List Value→α→Prop} {H G:a0f} {e sz:Nat} {v:Value} {l:List α}
theorem Sls.mono (hP:k0V P) (h:Sls P H e sz v l) (hx:Ext H G):Sls P G e sz v l:=by
 obtain ⟨cs,h1,h2⟩:=h;exact ⟨cs,h1.mono hx,fun k hk=>hP _ _ _ _ hx (h2 k hk)⟩
theorem Sls.slen (h:Sls P H e sz v l):i0H v=some (.int .i64 l.length):=by obtain ⟨cs,h1,_⟩:=h;exact h1.slen
theorem Sls.ia (h:Sls P H e sz v l) {k:IntKind} {j:Nat} (hj:j < l.length):iaV sz v (.int k j)=some (adr sz v j):=by obtain ⟨cs,h1,_⟩:=h;exact h1.ia hj
theorem Sls.load (h:Sls P H e sz v l) {j:Nat} (hj:j < l.length) (hs:0 < sz):∃ cs,b0y H true sz (adr sz v j)=some (.agg cs.toArray)∧cs.length=sz∧P H cs l[j]:=by
 obtain ⟨cs,h1,h2⟩:=h
 refine ⟨_,h1.load (Ext.refl H) hj hs,?_,h2 j hj⟩
 have:=h1.1
 have:(j + 1) * sz≤l.length * sz:=f1S _ hj
 rw [g1e,g1A] at this
 simp;omega
theorem Sls.load1 (h:Sls P H e 1 v l) {j:Nat} (hj:j < l.length):∃ w,b0y H false 1 (adr 1 v j)=some w∧P H [w] l[j]:=by
 obtain ⟨cs,h1,h2⟩:=h
 refine ⟨_,h1.load1 (Ext.refl H) hj,?_⟩
 have h3:=h2 j hj
 have hl:=h1.1
 have:(cs.drop (j * 1)).take 1=[cs.getD j undef]:=by
  have hjc:j < cs.length:=by omega
  have e1:cs.getD j undef=cs[j]:=by simp [f1H,hjc]
  rw [g1S,g1E hjc,e1];rfl
 rw [this] at h3;exact h3
theorem Sls.cells (h:Sls P H e sz v l):a0W v=[v]:=by obtain ⟨cs,h1,_⟩:=h;exact h1.cells
theorem Sls.plain (h:Sls P H e sz v l):a0F v=true:=by obtain ⟨cs,h1,_⟩:=h;exact h1.plain
theorem Sls.nil:Sls P H e sz (.slice none 0 0) ([]:List α):=⟨[],Sl.nil,fun k hk=>by simp at hk⟩
end
def b0b {α:Type} (P:a0f→List Value→α→Prop) (fl:Nat) (H:a0f) (e sz:Nat) (v:Value) (l:List α):Prop :=
 ∃ cs,Own fl H e sz v l.length cs∧∀ k (h:k < l.length),P H ((cs.drop (k * sz)).take sz) l[k]
section
variable {α:Type} {P:a0f→List Value→α→Prop} {H G:a0f} {fl e sz:Nat} {v:Value} {l:List α}
theorem b0b.sls (h:b0b P fl H e sz v l):Sls P H e sz v l:=by obtain ⟨cs,h1,h2⟩:=h;exact ⟨cs,h1.sl,h2⟩
theorem b0b.mono (hP:k0V P) (h:b0b P fl H e sz v l) (hx:Ext H G):b0b P fl G e sz v l:=by
 obtain ⟨cs,h1,h2⟩:=h;exact ⟨cs,h1.mono hx,fun k hk=>hP _ _ _ _ hx (h2 k hk)⟩
theorem b0b.nil:b0b P fl H e sz (.slice none 0 0) ([]:List α):=⟨[],Own.nil,fun k hk=>by simp at hk⟩
theorem b0b.slen (h:b0b P fl H e sz v l):i0H v=some (.int .i64 l.length):=h.sls.slen
def Lx (H G:a0f):Prop:=∀ b ro cs,H.blk b=.row ro a0j cs→G.blk b=.row ro a0j cs
theorem b0b.lx (h:b0b P fl G e sz v l) (he:e ≠ a0j) {G':a0f} (hx:e0l (slB v) G G'):Lx G G':=by
 intro b ro cs hb
 obtain ⟨cs',⟨hl,⟨rfl,_⟩ | ⟨p,cap,rfl,hp,_⟩⟩,_⟩:=h
 ·rw [hx.2 b (a0l hb) (by simp [slB])];exact hb
 ·rw [hx.2 b (a0l hb) (by simp [slB];rintro rfl;rw [hp] at hb;cases hb;exact he rfl)];exact hb
theorem b0b.app (he:e ≠ a0j) (hO:∀ G' cs x,e0l (slB v) G G'→Lx G G'→P G cs x→P G' cs x) (h:b0b P fl G e sz v l) {e2 c bytes:Nat} {new:List Value} {x:α} (hx:P G new x) (hl:new.length=sz) (hp:new.all a0F=true) (hn:l.length < 1073741824) (hb:bytes≤1024) (hs:0 < sz) (hfl:fl≤G.size) :
  ∃ v' G',j0M fl (G.push (.row false e2 new)) e sz bytes v (.slice (some ⟨G.size,0,none⟩) 1 c)=some (v',G')∧b0b P fl G' e sz v' (l ++ [x])∧e0l (slB v) G G'∧(∀ H0,H0.size≤fl→Ext H0 G→Ext H0 G'):=by
 obtain ⟨cs,h1,h2⟩:=h
 obtain ⟨v',G',a1,a2,a3,a4⟩:=d0X (e2:=e2) (c:=c) h1 hl hp hn hb hs hfl (bytes:=bytes)
 refine ⟨v',G',a1,⟨cs ++ new,by simpa using a2,fun k hk=>?_⟩,a3,a4⟩
 have hcs:=h1.1
 by_cases hkl:k < l.length
 ·have h3:(k + 1) * sz≤l.length * sz:=f1S _ hkl
  rw [g1e,g1A] at h3
  rw [g1Y hkl,h1k (by omega),h1y (by simp;omega)]
  exact hO _ _ _ a3 (b0b.lx ⟨cs,h1,h2⟩ he a3) (h2 k hkl)
 ·have hke:k=l.length:=by simp at hk;omega
  subst hke
  rw [g1q (f1I _),h1k (by omega),h1q (by omega),h1u,← hl,g1d]
  simpa using hO _ _ _ a3 (b0b.lx ⟨cs,h1,h2⟩ he a3) hx
end
theorem Lim.lx {H G:a0f} {v:Value} {l:List Nat} (h:Lim H v l) (hx:Lx H G):Lim G v l:=by
 obtain ⟨⟨hl,h1 | ⟨b,off,cap,ro,cells,rfl,hb,ho,hcs⟩⟩,h2⟩:=h
 ·exact ⟨⟨hl,.inl h1⟩,h2⟩
 ·exact ⟨⟨hl,.inr ⟨b,off,cap,ro,cells,rfl,hx _ _ _ hb,ho,hcs⟩⟩,h2⟩
theorem b0X.lx {H G:a0f} {v:Value} {a:b0x} (h:b0X H v a) (hx:Lx H G):b0X G v a:=by obtain ⟨s,u,h1,h2,h3⟩:=h;exact ⟨s,u,h1,h2.lx hx,h3.lx hx⟩
theorem j0O.lx {H G:a0f} {v:Value} {e:d0K} (h:j0O H v e) (hx:Lx H G):j0O G v e:=by obtain ⟨s,u,h1,h2,h3⟩:=h;exact ⟨s,u,h1,h2.lx hx,h3.lx hx⟩
end
section
open Go
set_option maxHeartbeats 4000000
variable {fl:Nat} {H G:a0f} {R:a0E} {v w:Value}
def PR (H:a0f) (cs:List Value) (a:b0x):Prop:=b0X H (.agg cs.toArray) a
def PE (H:a0f) (cs:List Value) (e:d0K):Prop:=j0O H (.agg cs.toArray) e
theorem a0t:k0V PR:=fun _ _ _ _ hx h=>b0X.mono h hx
theorem c0R:k0V PE:=fun _ _ _ _ hx h=>j0O.mono h hx
abbrev a0T (H:a0f) (v:Value) (l:List b0x):Prop:=Sls PR H a0b 4 v l
abbrev g0m (H:a0f) (v:Value) (l:List d0K):Prop:=Sls PE H b0F 5 v l
def PS (H:a0f) (cs:List Value) (l:List b0x):Prop:=∃ v,cs=[v]∧a0T H v l
theorem b0w:k0V PS:=fun _ _ _ _ hx ⟨v,h1,h2⟩=>⟨v,h1,h2.mono a0t hx⟩
abbrev d0v (H:a0f) (v:Value) (l:List (List b0x)):Prop:=Sls PS H a0A 1 v l
theorem a0T.load {l:List b0x} (h:a0T H v l) {j:Nat} (hj:j < l.length):∃ w,b0y H true 4 (adr 4 v j)=some w∧b0X H w l[j]:=by
 obtain ⟨cs,h1,_,h3⟩:=Sls.load h hj (by omega);exact ⟨_,h1,h3⟩
theorem g0m.load {l:List d0K} (h:g0m H v l) {j:Nat} (hj:j < l.length):∃ w,b0y H true 5 (adr 5 v j)=some w∧j0O H w l[j]:=by
 obtain ⟨cs,h1,_,h3⟩:=Sls.load h hj (by omega);exact ⟨_,h1,h3⟩
theorem d0v.load {l:List (List b0x)} (h:d0v H v l) {j:Nat} (hj:j < l.length):∃ w,b0y H false 1 (adr 1 v j)=some w∧a0T H w l[j]:=by
 obtain ⟨w,h1,w',h2,h3⟩:=Sls.load1 h hj
 simp at h2;subst h2;exact ⟨_,h1,h3⟩
def f0D (a b:List b0x):Nat→Rat
 | 0=>0
 | n + 1=>f0D a b n + b0u (a.getD n d0Q) * b0u (b.getD n d0Q)
def Few (S:Nat) (l:List b0x):Prop:=∀ x ∈ l,e0F x≤S∧b0s x.1.2∧b0s x.2.2
theorem Few.sz {S:Nat} {l:List b0x} (h:Few S l) (n:Nat):szR (b0u (l.getD n d0Q))≤S + 1:=by
 rw [f1H]
 by_cases hn:n < l.length
 ·rw [f1M hn]
  obtain ⟨h1,h2,h3⟩:=h _ (f1Q hn)
  have:=b0N h2 h3
  simp;omega
 ·rw [f1T (by omega)]
  show szR (b0u d0Q)≤_
  rw [d0q,e0o];omega
theorem k0v {S:Nat} {a b:List b0x} (ha:Few S a) (hb:Few S b):∀ n,szR (f0D a b n)≤n * (2 * S + 3) + 1
 | 0=>by simp [f0D,e0o]
 | n + 1=>by
  have h1:=k0v ha hb n
  have h2:=J0s (f0D a b n) (b0u (a.getD n d0Q) * b0u (b.getD n d0Q))
  have h3:=i0J (b0u (a.getD n d0Q)) (b0u (b.getD n d0Q))
  have h4:=ha.sz n
  have h5:=hb.sz n
  rw [f0D,g1e];omega
end
section
open Go
set_option maxHeartbeats 4000000
variable {fl:Nat} {H G:a0f} {R:a0E} {v w:Value} {a b:List d0K}
theorem b0b.cast {α:Type} {P:a0f→List Value→α→Prop} {fl e sz:Nat} {v v':Value} {l:List α} (h:v=v') (k:b0b P fl H e sz v' l):b0b P fl H e sz v l:=by rw [h];exact k
def z0h (l:List d0K):Prop:=∀ x ∈ l,e0F x.2 < 67108864
def f0B {α:Type} (p:α→Bool) (l:List α):Bool:=l.any p
def r0e {α:Type} (p:α→Bool) (l:List α):Bool:=l.all p
section
variable {α:Type} {p:α→Bool} {l:List α} {i:Nat}
theorem l0l:f0B p []=false:=rfl
theorem l0j:r0e p []=true:=rfl
theorem i0R (h:i < l.length):f0B p (l.take (i + 1))=(f0B p (l.take i) || p l[i]):=by
 unfold f0B;rw [g1Z h,List.any_append];simp
theorem i0P (h:i < l.length):r0e p (l.take (i + 1))=(r0e p (l.take i) && p l[i]):=by
 unfold r0e;rw [g1Z h,i1B];simp
theorem l0m (h:i < l.length) (hp:p l[i]=true):f0B p l=true:=h1Z.2 ⟨_,f1Q h,hp⟩
theorem j0Q (h:i < l.length) (hp:p l[i]=false):r0e p l=false:=by
 unfold r0e;rw [List.all_eq_false];exact ⟨l[i],f1Q h,by simp [hp]⟩
end
theorem n0s {p:d0K→Bool} {g:FuncId} (ha:g0m H v a) (hf:fl≤H.size) (hfa:z0h a) (hal:a.length < 1073741824)
  (hg:∀ (fl:Nat) (G:a0f) (v:Value) (e:d0K),fl≤G.size→j0O G v e→e0F e.2 < 67108864→a0U env fl g [v] G (fun r H'=>r=.bool (p e)∧Ext G H') R) :
  a0U env fl X0F [v,.func (.func g) #[] #[]] H (fun r H'=>(∃ z:Int,r=.int .i64 z∧(0≤z ↔ f0B p a=true))∧Ext H H') R:=by
 refine a0i f1u hf (h:=?_)
 intro ρ h0
 simp [a1T,S0E,S0F,h0,ha.slen]
 refine d0W (n:=a.length) (fun i ρ G=>ρ 0=v∧ρ 1=.func (.func g) #[] #[]∧Ext H G∧f0B p (a.take i)=false)
  rfl rfl (by decide) (by omega) (by simp) (by simp) ?_ ?_ ?_ ?_
 ·exact ⟨by simp [h0],by simp [h0],Ext.refl H,by rw [i1N];exact l0l⟩
 ·intro i ρ ρ' G h hI;simpa [h] using hI
 ·clear h0 ρ
  rintro i ρ G hi gi gn ⟨g0,g1,hx,hc⟩
  have ka:=ha.mono c0R hx
  obtain ⟨w,hl,k0⟩:=g0m.load ka hi
  simp [S0G,S0H,gi,g0,g1,ka.ia hi,hl]
  refine (hg _ _ _ _ hx.1 k0 (hfa _ (f1Q hi))).mono ?_
  rintro _ G2 ⟨rfl,hx2⟩
  have hx':=hx.trans hx2
  cases hp:p a[i]
  ·simp
   refine Rnd.mk (by simp [gi]) (by simp [gn]) ⟨by simp [g0],by simp [g1],hx',by rw [i0R hi,hc,hp];rfl⟩
  ·simp [S0I,gi]
   exact fun _=>l0m hi hp
 ·clear h0 ρ
  rintro ρ G gi gn ⟨g0,g1,hx,hc⟩
  rw [g1d] at hc
  simp [S0J,hc]
theorem f0o {p:d0K→Bool} {g:FuncId} (ha:g0m H v a) (hf:fl≤H.size) (hfa:z0h a) (hal:a.length < 1073741824)
  (hg:∀ (fl:Nat) (G:a0f) (v:Value) (e:d0K),fl≤G.size→j0O G v e→e0F e.2 < 67108864→a0U env fl g [v] G (fun r H'=>r=.bool (p e)∧Ext G H') R) :
  a0U env fl V0M [v,.func (.func g) #[] #[]] H (fun r H'=>r=.bool (f0B p a)∧Ext H H') R:=by
 refine a0i e1V hf (h:=?_)
 intro ρ h0
 simp [a1u,Q0I,Q0J,h0]
 refine (n0s (p:=p) ha (f1I _) hfa hal hg).mono ?_
 rintro _ G2 ⟨⟨z,rfl,hz⟩,hx2⟩
 simp
 intro _
 rw [i1y,g1T];exact hz
theorem l0M {e:d0K} (h:j0O H v e) (hf:fl≤H.size):a0U env fl X0C [v] H (fun r H'=>r=.bool (decide (e.1 < 0))∧Ext H H') R:=by
 obtain ⟨s,u,rfl,hs,hu⟩:=h
 refine a0i f1j hf (h:=?_)
 intro ρ h0
 simp [a1I,R0Q,R0R,h0]
theorem p0s (ha:g0m H v a) (hf:fl≤H.size) (hfa:z0h a) (hal:a.length < 1073741824) :
  a0U env fl X0t [v] H (fun r H'=>r=.bool (f0B (fun e=>decide (e.1 < 0)) a)∧Ext H H') R:=by
 refine a0i e1O hf (h:=?_)
 intro ρ h0
 simp [a1n,Q0f,Q0g,h0]
 refine (f0o (p:=fun e=>decide (e.1 < 0)) ha (f1I _) hfa hal (fun fl G v e hf h hn=>l0M h hf)).mono ?_
 rintro _ G2 ⟨rfl,hx2⟩
 simp
theorem k0Y {e:d0K} (h:j0O H v e) (hf:fl≤H.size) (hn:e0F e.2 < 67108864):a0U env fl X0w [v] H (fun r H'=>r=.bool (!n0r e)∧Ext H H') R:=by
 have k0:=h
 obtain ⟨s,u,rfl,hs,hu⟩:=h
 refine a0i e1W hf (h:=?_)
 intro ρ h0
 simp [a1v,Q0K,Q0L,h0]
 generalize hG:Array.push H _=G
 obtain ⟨hx2,b0⟩:=g0B hG
 have hx:=Ext.refl H
 clear hG
 replace hx:=hx.trans hx2;replace k0:=k0.mono hx2
 try simp [b0]
 refine (r0v k0 hx.1 hn).mono ?_
 rintro _ G2 ⟨rfl,hx2⟩
 simp
def d0U (H:a0f) (v:Value) (rows:List (List b0x)):Prop:=∃ s,v=.agg #[s]∧d0v H s rows
def i0G (n:Int) (r:List b0x):Bool:=decide ((r.length:Int)=n) && r0e l0t r
def g0j (rows:List (List b0x)) (n:Int):Bool:=decide (0≤n) && decide (n≤6) && decide (rows.length≤40) && r0e (i0G n) rows
theorem l0h {S:Nat} {rows:List (List b0x)} {n:Int} (h:d0U H v rows) (hf:fl≤H.size) (hS:S < 67108864) (hr:∀ r ∈ rows,Few S r∧r.length < 1073741824) (hrl:rows.length < 1073741824) :
  a0U env fl X0v [v,.int .i64 n] H (fun r H'=>r=.bool (g0j rows n)∧Ext H H') R:=by
 obtain ⟨s,rfl,hs⟩:=h
 refine a0i e1U hf (h:=?_)
 intro ρ h0
 simp [a1t,Q0E,h0,hs.cells]
 generalize hG:Array.push H _=G
 obtain ⟨hx2,b0⟩:=g0B hG
 have hx:=Ext.refl H
 clear hG
 replace hx:=hx.trans hx2
 unfold g0j
 by_cases h1:n < 0
 ·have h1':¬ 0≤n:=by omega
  simp [s0y,x0f,h0,h1,h1']
 ·have h1':0≤n:=by omega
  by_cases h2:6 < n
  ·have h2':¬ n≤6:=by omega
   simp [s0y,x0f,h0,h1,h1',h2,h2']
  ·have h2':n≤6:=by omega
   by_cases h3:40 < rows.length
   ·have h3':¬ rows.length≤40:=by omega
    have h3'':(40:Int) < (rows.length:Int):=by omega
    simp [s0y,x0f,h0,b0,(hs.mono b0w hx).slen,hs.slen,h1,h1',h2,h2',h3,h3',h3'']
   ·have h3':rows.length≤40:=by omega
    have h3'':¬ (40:Int) < (rows.length:Int):=by omega
    simp [s0y,Q0F,h0,b0,hs.slen,h1,h1',h2,h2',h3,h3',h3'']
    refine d0W (n:=rows.length) (fun i ρ G=>ρ 1=.int .i64 n∧ρ 22=s∧Ext H G∧r0e (i0G n) (rows.take i)=true)
     rfl rfl (by decide) (by omega) (by simp) (by simp) ?_ ?_ ?_ ?_
    ·exact ⟨by simp [h0],by simp,hx,by rw [i1N];exact l0j⟩
    ·intro i ρ ρ' G h hI;simpa [h] using hI
    ·clear h0 ρ hx b0 hx2
     rintro i ρ G hi gi gn ⟨g1,g22,hx,hc⟩
     have ks:=hs.mono b0w hx
     obtain ⟨w,hl,kw⟩:=d0v.load ks hi
     obtain ⟨hfew,hrl2⟩:=hr _ (f1Q hi)
     by_cases hlen:(rows[i].length:Int)=n
     ·simp [I0A,I0B,Q0H,g1,g22,gi,ks.ia hi,hl,kw.slen,hlen]
      refine r0k (n:=rows[i].length) (fun j ρ G=>ρ 1=.int .i64 n∧ρ 22=s∧ρ 24=.int .i64 (i:Int)∧ρ 23=.int .i64 (rows.length:Int)∧ρ 32=w∧Ext H G∧a0T G w rows[i]∧r0e l0t (rows[i].take j)=true)
       rfl rfl (by decide) (by omega) (by simp) (by simp [hlen]) ?_ ?_ ?_ ?_
      ·exact ⟨by simp [g1],by simp [g22],by simp [gi],by simp [gn],by simp,hx,kw,by rw [i1N];exact l0j⟩
      ·intro i ρ ρ' G h hI;simpa [h] using hI
      ·clear g1 g22 gi gn hx kw hl ks ρ G
       rintro j ρ G hj gj gm ⟨g1,g22,gi,gn,g32,hx,kw,hcj⟩
       obtain ⟨x,hlx,k0⟩:=a0T.load kw hj
       obtain ⟨s1,s2,rfl,k1,k2⟩:=id k0
       have hf2:=hfew _ (f1Q hj)
       have hsz:=hx.1
       simp [I0w,g1,g22,g32,gj,kw.ia hj,hlx,k1.cells,k1.plain,k2.cells,k2.plain,hsz]
       generalize hN:Array.setIfInBounds (Array.push _ _) _ _=G3
       obtain ⟨hx2,b1⟩:=new1 hN
       clear hN
       replace hx:=hx.trans hx2;replace k0:=k0.mono hx2
       replace kw:=kw.mono a0t hx2
       simp [I0x,b1]
       refine (h0k k0 hx.1 (by omega)).mono ?_
       rintro _ G2 ⟨rfl,hx2⟩
       replace hx:=hx.trans hx2
       replace kw:=kw.mono a0t hx2
       cases hm:l0t rows[i][j]
       ·simp [I0y]
        intros
        exact j0Q hi (by unfold i0G;rw [j0Q hj hm];simp)
       ·simp
        exact Rnd.mk (by simp [gj]) (by simp [gm]) ⟨by simp [g1],by simp [g22],by simp [gi],by simp [gn],by simp [g32],hx,kw,by rw [i0P hj,hcj,hm];rfl⟩
      ·rintro ρ G gj gm ⟨g1,g22,gi,gn,g32,hx,kw,hcj⟩
       rw [g1d] at hcj
       simp
       exact Rnd.mk gi gn ⟨g1,g22,hx,by rw [i0P hi,hc];unfold i0G;simp [hlen,hcj]⟩
     ·simp [I0A,I0B,Q0G,g1,g22,gi,ks.ia hi,hl,kw.slen,hlen]
      intro _
      exact j0Q hi (by unfold i0G;simp [hlen])
    ·clear h0 ρ hx b0 hx2
     rintro ρ G gi gn ⟨g1,g22,hx,hc⟩
     rw [g1d] at hc
     simp [I0z,hc]
def c0v (rows:List (List b0x)) (n:Int) (d:List d0K):Bool:=g0j rows n && decide (d.length=rows.length) && !f0B (fun e=>!n0r e) d
theorem i0f {S:Nat} {rows:List (List b0x)} {n:Int} {d:List d0K} (h:d0U H v rows) (hd:g0m H w d) (hf:fl≤H.size) (hS:S < 67108864) (hr:∀ r ∈ rows,Few S r∧r.length < 1073741824) (hrl:rows.length < 1073741824) (hfd:z0h d) (hdl:d.length < 1073741824) :
  a0U env fl V0C [v,.int .i64 n,w] H (fun r H'=>r=.bool (c0v rows n d)∧Ext H H') R:=by
 have kt:=h
 obtain ⟨s,rfl,hs⟩:=h
 refine a0i e1A hf (h:=?_)
 intro ρ h0
 simp [Z0Z,O0s,h0,hs.cells]
 generalize hG:Array.push H _=G
 obtain ⟨hx2,b0⟩:=g0B hG
 have hx:=Ext.refl H
 clear hG
 replace hx:=hx.trans hx2
 have kt2:d0U G (.agg #[s]) rows:=⟨s,rfl,hs.mono b0w hx⟩
 unfold c0v
 simp [O0t,h0,b0]
 refine (l0h (n:=n) kt2 hx.1 hS hr hrl).mono ?_
 rintro _ G2 ⟨rfl,hx2⟩
 replace b0:=hx2.blk b0;replace hx:=hx.trans hx2
 cases h1:g0j rows n
 ·simp
 ·by_cases h2:d.length=rows.length
  ·have h2':(d.length:Int)=(rows.length:Int):=by omega
   simp [h0,b0,hd.slen,hs.slen,h2,h2']
   refine (f0o (p:=fun e=>!n0r e) (hd.mono c0R hx) hx.1 hfd hdl (fun fl G v e hf h hn=>k0Y h hf hn)).mono ?_
   rintro _ G2 ⟨rfl,hx2⟩
   simp
  ·have h2':¬ (d.length:Int)=(rows.length:Int):=by omega
   simp [h0,b0,hd.slen,hs.slen,h2,h2']
end
section
open Go
set_option maxHeartbeats 4000000
variable {fl:Nat} {H G:a0f} {R:a0E} {v w u:Value}
def i0x (l:List b0x):List b0x:=l.map fun x=>a0e (b0u x)
theorem r0a {α β:Type} {f:α→β} {l:List α} {i:Nat} (h:i < l.length):(l.map f).take (i + 1)=(l.map f).take i ++ [f l[i]]:=by
 rw [g1Z (by simpa using h)];simp
theorem k0E {S:Nat} {l:List b0x} (hv:a0T H v l) (hf:fl≤H.size) (hfw:Few S l) (hS:S < 67108864) (hl:l.length < 1073741824) :
  a0U env fl V0J [v] H (fun r H'=>b0b PR H.size H' a0b 4 r (i0x l)∧Ext H H') R:=by
 refine a0i e1P hf (h:=?_)
 intro ρ h0
 simp [a1o,Q0h,Q0i,Q0j,h0,hv.slen]
 refine d0W (n:=l.length) (fun i ρ G=>ρ 6=v∧Ext H G∧b0b PR H.size G a0b 4 (ρ 3) ((i0x l).take i))
  rfl rfl (by decide) (by omega) (by simp) (by simp) ?_ ?_ ?_ ?_
 ·exact ⟨by simp [h0],Ext.refl H,by simpa using b0b.nil⟩
 ·intro i ρ ρ' G h hI;simpa [h] using hI
 ·clear h0 ρ
  rintro i ρ G hi gi gn ⟨g6,hx,ho⟩
  obtain ⟨s,g3⟩:∃ s,ρ 3=s:=⟨_,rfl⟩
  rw [g3] at ho
  have kv:=hv.mono a0t hx
  obtain ⟨x,hlx,k0⟩:=a0T.load kv hi
  obtain ⟨s1,s2,rfl,k1,k2⟩:=id k0
  have hf2:=hfw _ (f1Q hi)
  have hsz:=hx.1
  simp [Q0k,g6,gi,kv.ia hi,hlx,k1.cells,k1.plain,k2.cells,k2.plain,hsz]
  generalize hN:Array.setIfInBounds (Array.push _ _) _ _=G3
  obtain ⟨hx2,b1⟩:=new1 hN
  clear hN
  replace hx:=hx.trans hx2;replace k0:=k0.mono hx2
  replace ho:=ho.mono a0t hx2
  simp [Q0l,b1]
  refine (c0X k0 (b:=d0Q) h0l hx.1 (by omega) (by decide)).mono ?_
  rintro _ G2 ⟨⟨s3,s4,rfl,k3,k4⟩,hx2⟩
  replace hx:=hx.trans hx2
  replace ho:=ho.mono a0t hx2
  rw [d0q,i1j] at k3 k4 ⊢
  obtain ⟨s',G4,h1,h2,h3,h4⟩:=b0b.app (P:=PR) (sz:=4) (e:=a0b) (by decide) (fun G' cs x _ hl h=>b0X.lx h hl) ho (e2:=a0b) (c:=1) (bytes:=64) (new:=[.bool (a0e (b0u l[i])).1.1,s3,.bool (a0e (b0u l[i])).2.1,s4]) (x:=a0e (b0u l[i])) ⟨s3,s4,rfl,k3,k4⟩ rfl (by simp [k3.plain,k4.plain]) (by simp;omega) (by omega) (by omega) hx.1
  simp [g3,k3.cells,k4.cells,h1]
  exact Rnd.mk (by simp [gi]) (by simp [gn]) ⟨by simp [g6],h4 _ (f1I _) hx,b0b.cast (v':=s') (by simp) (by unfold i0x;rw [r0a hi];exact h2)⟩
 ·clear h0 ρ
  rintro ρ G gi gn ⟨g6,hx,ho⟩
  obtain ⟨s,g3⟩:∃ s,ρ 3=s:=⟨_,rfl⟩
  rw [g3] at ho
  rw [f1W (by simp [i0x])] at ho
  simp [Q0m,g3]
  exact fun _=>ho
theorem d0M {fl e sz bytes n c:Nat} {H H':a0f} {s v':Value} {xb:Option Addr} (hn:n ≠ 0) (h:j0M fl H e sz bytes s (.slice xb n c)=some (v',H')):∃ m k,v' = .slice (some ⟨H.size,0,none⟩) m k:=by
 unfold j0M at h
 split at h
 ·rename_i base len cap xb' n' c' heq
  cases heq
  rw [f1K hn] at h
  split at h
  ·split at h
   ·cases h
   ·split at h
    ·cases h
    ·split at h
     ·cases h
     ·split at h
      ·split at h
       ·cases h;exact ⟨_,_,rfl⟩
       ·cases h
      ·split at h
       ·cases h;exact ⟨_,_,rfl⟩
       split at h
       ·cases h
       ·split at h
        ·cases h;exact ⟨_,_,rfl⟩
        ·split at h
         ·split at h
          ·cases h;exact ⟨_,_,rfl⟩
          ·cases h
         ·cases h
  ·cases h
 ·cases h
def LxT (e:Nat) (H G:a0f):Prop:=∀ b ro cs,H.blk b=.row ro e cs→G.blk b=.row ro e cs
theorem b0b.lxT {α:Type} {P:a0f→List Value→α→Prop} {fl e sz e':Nat} {v:Value} {l:List α} (h:b0b P fl G e sz v l) (he:e ≠ e') {G':a0f} (hx:e0l (slB v) G G'):LxT e' G G':=by
 intro b ro cs hb
 obtain ⟨cs',⟨hl,⟨rfl,_⟩ | ⟨p,cap,rfl,hp,_⟩⟩,_⟩:=h
 ·rw [hx.2 b (a0l hb) (by simp [slB])];exact hb
 ·rw [hx.2 b (a0l hb) (by simp [slB];rintro rfl;rw [hp] at hb;cases hb;exact he rfl)];exact hb
theorem a0T.lx2 {l:List b0x} (h:a0T H v l) (h1:LxT a0b H G) (h2:Lx H G):a0T G v l:=by
 obtain ⟨cs,⟨hl,hs⟩,hp⟩:=h
 refine ⟨cs,⟨hl,?_⟩,fun k hk=>b0X.lx (hp k hk) h2⟩
 rcases hs with hs | ⟨b,off,cap,ro,cells,rfl,hb,ho,hcs⟩
 ·exact .inl hs
 ·exact .inr ⟨b,off,cap,ro,cells,rfl,h1 _ _ _ hb,ho,hcs⟩
theorem a0T.off {l:List b0x} {o:Option Nat} (h:a0T H v l) (hx:e0l o H G) (hne:slB v=none ∨ slB v ≠ o) (h2:Lx H G):a0T G v l:=by
 obtain ⟨cs,⟨hl,hs⟩,hp⟩:=h
 refine ⟨cs,⟨hl,?_⟩,fun k hk=>b0X.lx (hp k hk) h2⟩
 rcases hs with hs | ⟨b,off,cap,ro,cells,rfl,hb,ho,hcs⟩
 ·exact .inl hs
 ·refine .inr ⟨b,off,cap,ro,cells,rfl,?_,ho,hcs⟩
  rw [hx.2 b (a0l hb) (by rcases hne with h | h;simp [slB] at h;exact fun h3=>h h3.symm)];exact hb
theorem a0T.lt {l:List b0x} (h:a0T H v l) {b:Nat} (hb:slB v=some b):b < H.size:=by
 obtain ⟨cs,⟨hl,⟨rfl,_⟩ | ⟨b',off,cap,ro,cells,rfl,hb',ho,hcs⟩⟩,hp⟩:=h
 ·simp [slB] at hb
 ·simp [slB] at hb;subst hb;exact a0l hb'
def PSo (o:Option Nat) (H:a0f) (cs:List Value) (l:List b0x):Prop:=∃ v,cs=[v]∧a0T H v l∧(slB v=none ∨ slB v ≠ o)
theorem i0w {o:Option Nat}:k0V (PSo o):=fun _ _ _ _ hx ⟨v,h1,h2,h3⟩=>⟨v,h1,h2.mono a0t hx,h3⟩
structure LPt where
 n:Int
 A:List (List b0x)
 B:List b0x
 C:List b0x
def LPV (H:a0f) (v:Value) (p:LPt):Prop:=∃ sA sB sC,v=.agg #[.int .i64 p.n,sA,sB,sC]∧d0v H sA p.A∧a0T H sB p.B∧a0T H sC p.C
def b0V:List (List b0x)→List d0K→List (List b0x)
 | r :: rs,e :: es=>if e.1=0 then i0x r :: b0V rs es else b0V rs es
 | _,_=>[]
def c0W:List (List b0x)→List d0K→List b0x
 | _ :: rs,e :: es=>if e.1=0 then a0e (b0u e.2) :: c0W rs es else c0W rs es
 | _,_=>[]
theorem h0B:∀ {rows:List (List b0x)} {d:List d0K} {i:Nat} (h1:i < rows.length) (h2:i < d.length),b0V (rows.take (i + 1)) (d.take (i + 1))=b0V (rows.take i) (d.take i) ++ if d[i].1=0 then [i0x rows[i]] else []
 | [],_,_,h,_=>by simp at h
 | _ :: _,[],_,_,h=>by simp at h
 | r :: rs,e :: es,0,_,_=>by simp [b0V]
 | r :: rs,e :: es,i + 1,h1,h2=>by
  have:=h0B (rows:=rs) (d:=es) (i:=i) (by simpa using h1) (by simpa using h2)
  simp only [List.take_succ_cons,b0V,this,i1c]
  split <;> simp
theorem h0C:∀ {rows:List (List b0x)} {d:List d0K} {i:Nat} (_:i < rows.length) (h2:i < d.length),c0W (rows.take (i + 1)) (d.take (i + 1))=c0W (rows.take i) (d.take i) ++ if d[i].1=0 then [a0e (b0u d[i].2)] else []
 | [],_,_,h,_=>by simp at h
 | _ :: _,[],_,_,h=>by simp at h
 | r :: rs,e :: es,0,_,_=>by simp [c0W]
 | r :: rs,e :: es,i + 1,h1,h2=>by
  have:=h0C (rows:=rs) (d:=es) (i:=i) (by simpa using h1) (by simpa using h2)
  simp only [List.take_succ_cons,c0W,this,i1c]
  split <;> simp
theorem q0V (H:a0f):∀ n:Nat,(f0n [.bool false,.slice none 0 0,.bool false,.slice none 0 0] n).length=n * 4∧∀ k,k < n→PR H (((f0n [.bool false,.slice none 0 0,.bool false,.slice none 0 0] n).drop (k * 4)).take 4) d0Q
 | 0=>⟨rfl,fun k hk=>by omega⟩
 | n + 1=>by
  obtain ⟨h1,h2⟩:=q0V H n
  refine ⟨by rw [f0n,g1n,h1];simp;omega,fun k hk=>?_⟩
  cases k with
  | zero=>exact h0l
  | succ k =>
   have:=h2 k (by omega)
   rw [f0n,show (k + 1) * 4=4 + k * 4 by omega,← h1R]
   exact this
theorem b0b.ne {α:Type} {Q:a0f→List Value→α→Prop} {fl e sz e' p:Nat} {v:Value} {l:List α} {cs:List Value} {ro:Bool} (h:b0b Q fl G e sz v l) (hb:a0f.blk G p=.row ro e' cs) (he:e ≠ e'):slB v ≠ some p:=by
 obtain ⟨cs',⟨hl,⟨rfl,_⟩ | ⟨b,cap,rfl,hp,_⟩⟩,_⟩:=h
 ·simp [slB]
 ·simp [slB];rintro rfl;rw [hp] at hb;cases hb;exact he rfl
theorem b0b.ge {α:Type} {Q:a0f→List Value→α→Prop} {fl e sz:Nat} {v:Value} {l:List α} (h:b0b Q fl G e sz v l) {b:Nat} (hb:slB v=some b):fl≤b∧b < G.size:=by
 obtain ⟨cs',⟨hl,⟨rfl,_⟩ | ⟨b',cap,rfl,hp,hf⟩⟩,_⟩:=h
 ·simp [slB] at hb
 ·simp [slB] at hb;subst hb;exact ⟨hf,a0l hp⟩
theorem b0b.cells {α:Type} {Q:a0f→List Value→α→Prop} {fl e sz:Nat} {v:Value} {l:List α} (h:b0b Q fl G e sz v l):a0W v=[v]∧a0F v=true:=⟨h.sls.cells,h.sls.plain⟩
theorem b0b.low {α:Type} {Q:a0f→List Value→α→Prop} {fl fl' e sz:Nat} {v:Value} {l:List α} (h:b0b Q fl G e sz v l) (hl:fl'≤fl):b0b Q fl' G e sz v l:=by
 obtain ⟨cs',⟨hl',h1 | ⟨b',cap,rfl,hp,hf⟩⟩,h2⟩:=h
 ·exact ⟨cs',⟨hl',.inl h1⟩,h2⟩
 ·exact ⟨cs',⟨hl',.inr ⟨b',cap,rfl,hp,by omega⟩⟩,h2⟩
theorem b0b.off {α:Type} {Q:a0f→List Value→α→Prop} {fl e sz:Nat} {v:Value} {l:List α} {o:Option Nat} {G':a0f} (h:b0b Q fl G e sz v l) (hx:e0l o G G') (hne:slB v=none ∨ slB v ≠ o) (hQ:∀ cs x,Q G cs x→Q G' cs x):b0b Q fl G' e sz v l:=by
 obtain ⟨cs',⟨hl',h1 | ⟨b',cap,rfl,hp,hf⟩⟩,h2⟩:=h
 ·exact ⟨cs',⟨hl',.inl h1⟩,fun k hk=>hQ _ _ (h2 k hk)⟩
 ·refine ⟨cs',⟨hl',.inr ⟨b',cap,rfl,?_,hf⟩⟩,fun k hk=>hQ _ _ (h2 k hk)⟩
  rw [hx.2 b' (a0l hp) (by rcases hne with h | h;simp [slB] at h;exact fun h3=>h h3.symm)];exact hp
theorem b0b.lxm {α:Type} {Q:a0f→List Value→α→Prop} {fl e sz:Nat} {v:Value} {l:List α} {G':a0f} {Q':a0f→List Value→α→Prop} (h:b0b Q fl G e sz v l) (hx:LxT e G G') (hQ:∀ cs x,Q G cs x→Q' G' cs x):b0b Q' fl G' e sz v l:=by
 obtain ⟨cs',⟨hl',h1 | ⟨b',cap,rfl,hp,hf⟩⟩,h2⟩:=h
 ·exact ⟨cs',⟨hl',.inl h1⟩,fun k hk=>hQ _ _ (h2 k hk)⟩
 ·exact ⟨cs',⟨hl',.inr ⟨b',cap,rfl,hx _ _ _ hp,hf⟩⟩,fun k hk=>hQ _ _ (h2 k hk)⟩
theorem b0b.blkOf {α:Type} {Q:a0f→List Value→α→Prop} {fl e sz:Nat} {v:Value} {l:List α} (h:b0b Q fl G e sz v l):AI.blkW v=[] ∨ ∃ b,AI.blkW v=[b]∧slB v=some b:=by
 obtain ⟨cs',⟨hl',⟨rfl,_⟩ | ⟨b',cap,rfl,hp,hf⟩⟩,h2⟩:=h
 ·exact .inl rfl
 ·by_cases h00:l.length=0∧cap=0
  ·exact .inl (by simp only [AI.blkW];rw [f1N h00])
  ·exact .inr ⟨b',by simp only [AI.blkW];rw [f1K h00],rfl⟩
theorem b0e {G3:a0f} {q e e':Nat} {X:Blk} {cs:List Value} {ro:Bool} (hS:Array.setIfInBounds G q X=G3) (hb:a0f.blk G q=.row ro e' cs) (hne:e' ≠ e):LxT e G G3:=by
 intro b ro' cs' hb'
 rw [← hS,b0h (by rintro rfl;rw [hb] at hb';cases hb';exact hne rfl)];exact hb'
theorem d0v.lx3 {l:List (List b0x)} (h:d0v H v l) (h0:LxT a0A H G) (h1:LxT a0b H G) (h2:Lx H G):d0v G v l:=by
 obtain ⟨cs,⟨hl,hs⟩,hp⟩:=h
 refine ⟨cs,⟨hl,?_⟩,fun k hk=>?_⟩
 ·rcases hs with hs | ⟨b,off,cap,ro,cells,rfl,hb,ho,hcs⟩
  ·exact .inl hs
  ·exact .inr ⟨b,off,cap,ro,cells,rfl,h0 _ _ _ hb,ho,hcs⟩
 ·obtain ⟨w,q1,q2⟩:=hp k hk;exact ⟨w,q1,q2.lx2 h1 h2⟩
theorem j0o:∀ (rows:List (List b0x)) (d:List d0K),(b0V rows d).length≤d.length
 | [],_=>by simp [b0V]
 | _ :: _,[]=>by simp [b0V]
 | r :: rs,e :: es=>by have:=j0o rs es;simp only [b0V];split <;> simp <;> omega
theorem m0k:∀ (rows:List (List b0x)) (d:List d0K),(c0W rows d).length≤d.length
 | [],_=>by simp [c0W]
 | _ :: _,[]=>by simp [c0W]
 | r :: rs,e :: es=>by have:=m0k rs es;simp only [c0W];split <;> simp <;> omega
theorem b0b.imp {α:Type} {Q Q':a0f→List Value→α→Prop} {fl e sz:Nat} {v:Value} {l:List α} (h:b0b Q fl G e sz v l) (hQ:∀ cs x,Q G cs x→Q' G cs x):b0b Q' fl G e sz v l:=by
 obtain ⟨cs',h1,h2⟩:=h;exact ⟨cs',h1,fun k hk=>hQ _ _ (h2 k hk)⟩
def z0i (H:a0f) (P m:Nat) (s w sC:Value) (rows:List (List b0x)) (d:List d0K) (i:Nat) (ρ:Nat→Value) (G:a0f):Prop :=
 ρ 3=.pointer (some ⟨H.size,0,none⟩)∧ρ 6=.pointer (some ⟨H.size + 1,0,none⟩)∧ρ 8=.pointer (some ⟨P,0,none⟩)∧ρ 26=w∧Ext H G ∧
  a0f.blk G H.size=.row false a0C [s]∧a0f.blk G (H.size + 1)=.row false b0k [.int .i64 0,.slice none 0 0,.slice none 0 0,.slice none 0 0] ∧
  ∃ sA sB,a0f.blk G P=.row false b0k [.int .i64 (m:Int),sA,sB,sC]∧b0b (PSo (slB sB)) H.size G a0A 1 sA (b0V (rows.take i) (d.take i)) ∧
   b0b PR H.size G a0b 4 sB (c0W (rows.take i) (d.take i))∧a0T G sC (List.replicate m (a0e 0))∧(slB sC=none ∨ slB sC ≠ slB sB)
theorem k0X {S:Nat} {rows:List (List b0x)} {n:Int} {d:List d0K} (h:d0U H v rows) (hd:g0m H w d) (hf:fl≤H.size) (hS:S < 67108864) (hr:∀ r ∈ rows,Few S r∧r.length < 1073741824) (hrl:rows.length < 1073741824) (hfd:z0h d) (hdl:d.length < 1073741824) :
  a0U env fl X0n [v,.int .i64 n,w] H (fun r H'=>(if c0v rows n d=true∧f0B (fun e=>decide (e.1 < 0)) d=false then ∃ p,r=.tuple #[p,.bool true]∧LPV H' p ⟨n,b0V rows d,c0W rows d,List.replicate n.toNat (a0e 0)⟩ else ∃ p,r=.tuple #[p,.bool false]∧LPV H' p ⟨0,[],[],[]⟩)∧Ext H H') R:=by
 obtain ⟨s,rfl,hs⟩:=h
 refine a0i e1w hf (h:=?_)
 intro ρ h0
 simp [Z0V,N0P,h0,hs.cells]
 generalize hG:Array.push (Array.push H _) _=G
 have hx:Ext H G:=by rw [← hG];exact (Ext.refl H).push.push
 have b0:a0f.blk G H.size=.row false a0C [s]:=by rw [← hG];simp
 have b1:a0f.blk G (H.size + 1)=.row false b0k [.int .i64 0,.slice none 0 0,.slice none 0 0,.slice none 0 0]:=by rw [← hG];simp
 clear hG
 have kt:d0U G (.agg #[s]) rows:=⟨s,rfl,hs.mono b0w hx⟩
 simp [N0Q,h0,b0]
 refine (i0f kt (hd.mono c0R hx) hx.1 hS hr hrl hfd hdl).mono ?_
 rintro _ G2 ⟨rfl,hx2⟩
 replace b0:=hx2.blk b0;replace b1:=hx2.blk b1;replace hx:=hx.trans hx2
 cases hv:c0v rows n d
 ·have hz:=a0l b1
  simp [H0H,h0,b1,hz]
  exact fun _=>⟨_,_,_,rfl,Sls.nil,Sls.nil,Sls.nil⟩
 simp [h0]
 refine (p0s (hd.mono c0R hx) hx.1 hfd hdl).mono ?_
 rintro _ G2 ⟨rfl,hx2⟩
 replace b0:=hx2.blk b0;replace b1:=hx2.blk b1;replace hx:=hx.trans hx2
 cases hno:f0B (fun e:d0K=>decide (e.1 < 0)) d
 case true =>
  have hz:=a0l b1
  simp [H0H,h0,b1,hz]
  exact fun _=>⟨_,_,_,rfl,Sls.nil,Sls.nil,Sls.nil⟩
 have hvv:=hv
 unfold c0v g0j at hvv
 simp at hvv
 obtain ⟨⟨⟨⟨⟨hn0,hn6⟩,_⟩,_⟩,hdr⟩,_⟩:=hvv
 obtain ⟨m,rfl⟩:∃ m:Nat,n=m:=⟨n.toNat,by omega⟩
 have hmk:=g0Q (bytes:=64) (k:=.i64) (k':=.i64) (l:=m) (c:=m) (f1I _) (by omega) (by omega)
 simp [N0R,h0,hmk]
 generalize hN:Array.push G2 _=G3
 obtain ⟨hx2,b2⟩:=g0B hN
 clear hN
 replace b0:=hx2.blk b0;replace b1:=hx2.blk b1;replace hx:=hx.trans hx2
 obtain ⟨hrl1,hrl2⟩:=q0V G3 m
 have kz:a0T G3 (.slice (some ⟨G2.size,0,none⟩) m m) (List.replicate m d0Q):=by
  refine ⟨_,(Own.mk (fl:=0) (cap:=m) b2 hrl1 (g1I _)).sl |> (fun h=>by simpa using h),fun k hk=>?_⟩
  rw [List.getElem_replicate];exact hrl2 k (by simpa using hk)
 refine (k0E (S:=0) kz hx.1 (fun x hx=>by rw [h1x] at hx;rw [hx.2];exact ⟨f1I _,by intro y hy;simp [d0Q] at hy,by intro y hy;simp [d0Q] at hy⟩) (by omega) (by simp;omega)).mono ?_
 rintro sC G4 ⟨hC,hx2⟩
 replace b0:=hx2.blk b0;replace b1:=hx2.blk b1;replace hx:=hx.trans hx2
 have hown:i0x (List.replicate m d0Q)=List.replicate m (a0e 0):=by unfold i0x;simp [d0q]
 rw [hown] at hC
 have kC:=hC.sls
 have hsz:=hx.1
 have hb1l:=a0l b1
 simp [h0,kC.cells,kC.plain,hsz]
 generalize hN:Array.setIfInBounds (Array.push _ _) _ _=G5
 obtain ⟨hx2,b3⟩:=new1 hN
 clear hN
 replace b0:=hx2.blk b0;replace b1:=hx2.blk b1;replace hx:=hx.trans hx2
 replace kC:=kC.mono a0t hx2
 obtain ⟨P,hP⟩:∃ P,P=G4.size:=⟨_,rfl⟩
 rw [← hP] at b3 hsz ⊢
 have hPH:=hsz
 have hPne:P ≠ H.size + 1:=by omega
 simp [N0S,h0,hd.slen]
 refine d0W (n:=d.length) (z0i H P m s w sC rows d) rfl rfl (by decide) (by omega) (by simp) (by simp) ?_ ?_ ?_ ?_
 ·exact ⟨by simp,by simp,by simp,by simp [h0],hx,b0,b1,_,_,b3,by simpa [b0V] using b0b.nil,by simpa [c0W] using b0b.nil,kC,by
   cases hsc:slB sC with
   | none=>exact .inl rfl
   | some b=>right;simp [slB]⟩
 ·intro i ρ ρ' G h hI;simpa [z0i,h] using hI
 ·clear h0 ρ hx b0 b1 b3 kC hC hx2
  rintro i ρ G hi gi gn ⟨g3,g6,g8,g26,hx,b0,b1,sA,sB,b3,hA,hB,kC,hCB⟩
  have hir:i < rows.length:=by omega
  have kd:=hd.mono c0R hx
  have ks:=hs.mono b0w hx
  obtain ⟨we,hle,k0⟩:=g0m.load kd hi
  obtain ⟨s1,s2,rfl,k1,k2⟩:=id k0
  have hsz:=hx.1
  simp [N0T,g26,gi,kd.ia hi,hle,k1.cells,k1.plain,k2.cells,k2.plain,hsz]
  generalize hN:Array.setIfInBounds (Array.push _ _) _ _=G3
  obtain ⟨hx2,b4⟩:=new1 hN
  clear hN
  replace b0:=hx2.blk b0;replace b1:=hx2.blk b1;replace b3:=hx2.blk b3;replace hx:=hx.trans hx2;replace k1:=k1.mono hx2;replace k2:=k2.mono hx2
  replace ks:=ks.mono b0w hx2
  replace hA:=hA.mono i0w hx2
  replace hB:=hB.mono a0t hx2
  replace kC:=kC.mono a0t hx2
  obtain ⟨P2,hP2⟩:∃ P2,P2=G.size:=⟨_,rfl⟩
  rw [← hP2] at b4 hsz ⊢
  by_cases he:d[i].1=0
  ·simp [H0I,b4,he]
   refine e0u ?_
   obtain ⟨wr,hlr,kr⟩:=d0v.load ks hir
   simp [N0U,g3,g8,b3,b0,ks.ia hir,hlr]
   have hBlt:∀ b,slB sB=some b→b < G3.size:=fun b h=>(hB.ge h).2
   have hlA:=j0o (rows.take i) (d.take i)
   have hlB:=m0k (rows.take i) (d.take i)
   simp only [g1P] at hlA hlB
   refine (k0E kr (by have:=hx.1;omega) (hr _ (f1Q hir)).1 hS (hr _ (f1Q hir)).2).mono ?_
   rintro r G2 ⟨kw,hx2⟩
   replace b0:=hx2.blk b0;replace b1:=hx2.blk b1;replace b3:=hx2.blk b3;replace b4:=hx2.blk b4;replace hx:=hx.trans hx2;replace k1:=k1.mono hx2;replace k2:=k2.mono hx2
   replace hA:=hA.mono i0w hx2
   replace hB:=hB.mono a0t hx2
   replace kC:=kC.mono a0t hx2
   have hrB:slB r=none ∨ slB r ≠ slB sB:=by
    cases hr1:slB r with
    | none=>exact .inl rfl
    | some b =>
     right;intro h
     have:=(kw.ge hr1).1
     have:=hBlt b h.symm
     omega
   obtain ⟨cr,pr⟩:=kw.cells
   obtain ⟨sA',G5,h1,h2,h3,h4⟩:=b0b.app (P:=PSo (slB sB)) (sz:=1) (e:=a0A) (by decide)
    (fun G' cs x hxb hl ⟨w',q1,q2,q3⟩=>⟨w',q1,q2.lx2 (hA.lxT (by decide) hxb) hl,q3⟩) hA (e2:=a0A) (c:=1) (bytes:=24) (new:=[r]) (x:=i0x rows[i]) ⟨r,rfl,kw.sls,hrB⟩ rfl (by simp [pr]) (by omega) (by omega) (by omega) hx.1
   obtain ⟨_,_,hAe⟩:=d0M (by decide) h1
   have hlx:=hA.lx (by decide) h3
   have hlr:=hA.lxT (e':=a0b) (by decide) h3
   have nA0:=hA.ne b0 (by decide)
   have nA1:=hA.ne b1 (by decide)
   have nA3:=hA.ne b3 (by decide)
   have nA4:=hA.ne b4 (by decide)
   have hAo:=hA.blkOf
   replace b0:=(h3.2 _ (a0l b0) nA0).trans b0
   replace b1:=(h3.2 _ (a0l b1) nA1).trans b1
   replace b3:=(h3.2 _ (a0l b3) nA3).trans b3
   replace b4:=(h3.2 _ (a0l b4) nA4).trans b4
   replace hx:=h4 _ (f1I _) hx
   replace k1:=k1.lx hlx
   replace k2:=k2.lx hlx
   replace kC:=a0T.lx2 kC hlr hlx
   replace hB:=hB.lxm (Q':=PR) hlr (fun cs x h=>b0X.lx h hlx)
   simp [g8,b3,b4,cr,h1]
   refine (c0X (a:=d[i].2) ⟨s1,s2,rfl,k1,k2⟩ (b:=d0Q) h0l (by have:=hx.1;omega) (hfd _ (f1Q hi)) (by decide)).mono ?_
   rintro _ G6 ⟨⟨s3,s4,rfl,k3,k4⟩,hx2⟩
   replace b0:=hx2.blk b0;replace b1:=hx2.blk b1;replace b3:=hx2.blk b3;replace b4:=hx2.blk b4;replace hx:=hx.trans hx2
   replace hA:=h2.mono i0w hx2
   replace hB:=hB.mono a0t hx2
   replace kC:=kC.mono a0t hx2
   rw [d0q,i1j] at k3 k4 ⊢
   obtain ⟨sB',G7,p1,p2,p3,p4⟩:=b0b.app (P:=PR) (sz:=4) (e:=a0b) (by decide) (fun G' cs x _ hl h=>b0X.lx h hl) hB (e2:=a0b) (c:=1) (bytes:=64) (new:=[.bool (a0e (b0u d[i].2)).1.1,s3,.bool (a0e (b0u d[i].2)).2.1,s4]) (x:=a0e (b0u d[i].2)) ⟨s3,s4,rfl,k3,k4⟩ rfl (by simp [k3.plain,k4.plain]) (by omega) (by omega) (by omega) hx.1
   obtain ⟨_,_,hBe⟩:=d0M (by decide) p1
   have hlx:=hB.lx (by decide) p3
   have nB0:=hB.ne b0 (by decide)
   have nB1:=hB.ne b1 (by decide)
   have nB3:=hB.ne b3 (by decide)
   have nB4:=hB.ne b4 (by decide)
   have hsBn:slB sB' = some (G6.size + 1):=by rw [hBe];simp [slB]
   have hA':b0b (PSo (slB sB')) H.size G7 a0A 1 sA' (b0V (rows.take (i + 1)) (d.take (i + 1))):=by
    rw [h0B hir hi,f1N he]
    refine hA.lxm (hB.lxT (by decide) p3) (fun cs x ⟨w',q1,q2,q3⟩=>⟨w',q1,q2.off p3 q3 hlx,?_⟩)
    cases hw:slB w' with
    | none=>exact .inl rfl
    | some b=>right;rw [hsBn];have:=q2.lt hw;simp;omega
   have hCB':slB sC=none ∨ slB sC ≠ slB sB':=by
    cases hw:slB sC with
    | none=>exact .inl rfl
    | some b=>right;rw [hsBn];have:=a0T.lt kC hw;simp;omega
   replace kC:=a0T.off kC p3 hCB hlx
   replace b0:=(p3.2 _ (a0l b0) nB0).trans b0
   replace b1:=(p3.2 _ (a0l b1) nB1).trans b1
   replace b3:=(p3.2 _ (a0l b3) nB3).trans b3
   replace hx:=p4 _ (f1I _) hx
   have hB':b0b PR H.size G7 a0b 4 sB' (c0W (rows.take (i + 1)) (d.take (i + 1))):=by rw [h0C hir hi,f1N he];exact p2
   obtain ⟨cA,pA⟩:=hA'.cells
   obtain ⟨cB,pB⟩:=hB'.cells
   have hz:=a0l b3
   simp [g8,b3,k3.cells,k4.cells,p1,cA,pA,cB,pB,hPH,hz]
   generalize hS1:Array.setIfInBounds G7 P _=G8
   have t1:∀ {e:Nat},b0k ≠ e→LxT e G7 G8:=fun hne=>b0e hS1 b3 hne
   have n0:P ≠ H.size:=by intro h;rw [h,b0] at b3;cases b3
   have hbo:∀ x,x ∈ blkW sA→slB sA=some x:=by
    rcases hAo with h | ⟨b,h,h'⟩
    ·rw [h];simp
    ·rw [h,h'];simp
   refine ⟨⟨fun x hx h=>nA3 (by rw [hbo x hx,h]),fun x hx h=>nA4 (by rw [hbo x hx,h])⟩,Rnd.mk (by simp [gi]) (by simp [gn]) ⟨by simp [g3],by simp [g6],by simp [g8],by simp [g26],a0J hS1 hx hPH,a0o hS1 b0 n0,a0o hS1 b1 hPne,sA',sB',a0u hS1 b3,?_,?_,?_,hCB'⟩⟩
   ·exact hA'.lxm (t1 (by decide)) (fun cs x ⟨w',q1,q2,q3⟩=>⟨w',q1,q2.lx2 (t1 (by decide)) (t1 (by decide)),q3⟩)
   ·exact hB'.lxm (t1 (by decide)) (fun cs x h=>b0X.lx h (t1 (by decide)))
   ·exact a0T.lx2 kC (t1 (by decide)) (t1 (by decide))
  ·simp [H0I,b4,he]
   refine Rnd.mk (by simp [gi]) (by simp [gn]) ⟨by simp [g3],by simp [g6],by simp [g8],by simp [g26],hx,b0,b1,sA,sB,b3,?_,?_,kC,hCB⟩
   ·rw [h0B hir hi,f1K he,i1C];exact hA
   ·rw [h0C hir hi,f1K he,i1C];exact hB
 ·clear h0 ρ hx b0 b1 b3 kC hC hx2
  rintro ρ G gi gn ⟨g3,g6,g8,g26,hx,b0,b1,sA,sB,b3,hA,hB,kC,hCB⟩
  rw [f1W (by omega),g1d] at hA hB
  have hz:=a0l b1
  obtain ⟨cA,pA⟩:=hA.cells
  obtain ⟨cB,pB⟩:=hB.cells
  simp [H0G,g6,g8,b3,b1,cA,pA,cB,pB,kC.cells,kC.plain,hz]
  generalize hS:Array.setIfInBounds _ _ _=G9
  have t1:∀ {e:Nat},b0k ≠ e→LxT e G G9:=fun hne=>b0e hS b1 hne
  refine fun _=>⟨sA,sB,sC,rfl,?_,a0T.lx2 hB.sls (t1 (by decide)) (t1 (by decide)),a0T.lx2 kC (t1 (by decide)) (t1 (by decide))⟩
  exact d0v.lx3 (hA.imp (fun cs x ⟨w',q1,q2,_⟩=>⟨w',q1,q2⟩)).sls (t1 (by decide)) (t1 (by decide)) (t1 (by decide))
end
section
open Go
def b0T (nt i:Nat) (Inv:Nat→(Nat→Value)→a0f→Prop) (t:b0c) (H:a0f):Prop:=∃ ρ2,t=T nt ρ2∧Inv (i + 1) ρ2 H
theorem b0T.mk {nt i:Nat} {Inv:Nat→(Nat→Value)→a0f→Prop} {ρ:Nat→Value} {H:a0f} (h:Inv (i + 1) ρ H):b0T nt i Inv (T nt ρ) H:=⟨ρ,rfl,h⟩
theorem a0R {n:Nat} (h:n < 4611686018427387904):IntKind.i64.wrap ((n:Int) + 1)=((n + 1:Nat):Int):=by rw [a0Q (by omega) (by omega)];omega
def e0t (E:Env) (fl nt:Nat) (rx:List a0L) (R:a0E) (i:Nat) (Inv:Nat→(Nat→Value)→a0f→Prop) (t:b0c) (H:a0f):Prop :=
 WR E fl rx t H (b0T nt i Inv) R
def d0f (E:Env) (fl nt tc b b2 n:Nat) (body:SCode) (rx:List a0L) (Z:b0c→a0f→Prop) (Q:d0R) (R:a0E) (i:Nat) (Inv:Nat→(Nat→Value)→a0f→Prop) (t:b0c) (H:a0f):Prop :=
 ∃ ρ',t=T nt ρ'∧ρ' tc=.bool (decide (i < n))∧(i < n→W E fl body (T nt ρ') H (z0b b2 b (e0t E fl nt rx R i Inv) Z Q) R)∧(i=n→Z (T nt ρ') H)
section
variable {E:Env} {fl nt tc b b2 n i:Nat} {body:SCode} {rx rc:List a0L} {Z:b0c→a0f→Prop} {Q:d0R} {R:a0E} {Inv:Nat→(Nat→Value)→a0f→Prop} {ρ:Nat→Value} {H:a0f}
theorem d0f.mk (h1:ρ tc=.bool (decide (i < n))) (h2:i < n→W E fl body (T nt ρ) H (z0b b2 b (e0t E fl nt rx R i Inv) Z Q) R) (h3:i=n→Z (T nt ρ) H):d0f E fl nt tc b b2 n body rx Z Q R i Inv (T nt ρ) H:=⟨ρ,rfl,h1,h2,h3⟩
theorem c0l (Inv:Nat→(Nat→Value)→a0f→Prop) (n:Nat) (htc:tc < nt) (hI:Inv 0 ρ H)
  (step:∀ i ρ G,i≤n→Inv i ρ G→WR E fl rc (T nt ρ) G (d0f E fl nt tc b b2 n body rx Z Q R i Inv) R) :
  W E fl (.loop (.seq (.seq (.reg rc) (.cond (.tmp tc) .skip (.exit b))) (.seq (.block b2 body) (.reg rx)))) (T nt ρ) H (e0H b (h0Z Z Q)) R:=by
 refine b0Z (fun k t G=>∃ i ρ,i + k=n∧t=T nt ρ∧Inv i ρ G) Z n ⟨0,ρ,by omega,rfl,hI⟩ ?_ (fun _ _ h=>h)
 clear hI
 rintro k t G ⟨i,ρ,hik,rfl,hI⟩
 refine h0H (h0H (l0F ((step i ρ G (by omega) hI).mono ?_)))
 rintro t' G' ⟨ρ',rfl,h1,h2,h3⟩
 simp only [e0s]
 by_cases hi:i < n
 ·have hd:ρ' tc=.bool true:=by rw [h1,decide_eq_true hi]
  refine l0D true (by rw [k0F,b0U htc,hd]) (fun _=>v0s ?_) (by simp)
  simp only [e0s]
  refine h0H (p0k ((h2 hi).mono fun e t2 G2 hq=>?_))
  have fin:e0t E fl nt rx R i Inv t2 G2→h0Z (fun t' H'=>W E fl (.reg rx) t' H' (n0J b (fun t' H'=>∃ k',k' < k∧∃ i ρ,i + k' = n∧t' = T nt ρ∧Inv i ρ H') Z Q) R) (n0J b (fun t' H'=>∃ k',k' < k∧∃ i ρ,i + k' = n∧t' = T nt ρ∧Inv i ρ H') Z Q) .normal t2 G2:=by
   intro h
   refine l0F (h.mono ?_)
   rintro t3 G3 ⟨ρ3,rfl,h4⟩
   exact ⟨k - 1,by omega,i + 1,ρ3,by omega,rfl,h4⟩
  cases e with
  | normal=>exact fin hq
  | exit j =>
   simp only [z0b] at hq
   show (if j=b2 then _ else _)
   by_cases hj:j=b2
   ·rw [f1N hj] at hq ⊢;exact fin hq
   ·rw [f1K hj] at hq ⊢
    show (if j=b then _ else _)
    by_cases hj2:j=b
    ·rw [f1N hj2] at hq ⊢;exact hq
    ·rw [f1K hj2] at hq ⊢;exact hq
  | ret=>exact hq
 ·have he:i=n:=by omega
  have hd:ρ' tc=.bool false:=by rw [h1,decide_eq_false hi]
  refine l0D false (by rw [k0F,b0U htc,hd]) (by simp) (fun _=>v0r ?_)
  show (if b=b then _ else _)
  rw [f1N rfl]
  exact h3 he
end
end
section
open Go
set_option maxHeartbeats 4000000
variable {fl:Nat} {H G:a0f} {R:a0E} {v w:Value}
theorem Sls.at_ {α:Type} {P:a0f→List Value→α→Prop} {e sz:Nat} {l:List α} (h:Sls P H e sz v l) {j:Nat} (hj:j < l.length) (hs:0 < sz) :
  ∃ b o cs,adr sz v j=.pointer (some ⟨b,o,none⟩)∧cs.length=sz∧P H cs l[j]∧b0y H true sz (.pointer (some ⟨b,o,none⟩))=some (.agg cs.toArray) ∧
   (∀ k n,k + n≤sz→0 < n→b0y H true n (.pointer (some ⟨b,o + k,none⟩))=some (.agg ((cs.drop k).take n).toArray)) ∧
   ∀ k,k < sz→b0y H false 1 (.pointer (some ⟨b,o + k,none⟩))=some (cs.getD k undef):=by
 obtain ⟨cs,⟨hl,h1⟩,h2⟩:=h
 have h3:=h2 j hj
 rcases h1 with ⟨rfl,h1⟩ | ⟨b,off,cap,ro,cells,rfl,hb,ho,rfl⟩
 ·omega
 ·have hj2:(j + 1) * sz≤l.length * sz:=f1S sz hj
  rw [g1e,g1A] at hj2
  have e1:(((cells.drop off).take (l.length * sz)).drop (j * sz)).take sz=(cells.drop (off + j * sz)).take sz:=by
   rw [i1M,i1o,h1R,g1R (by omega)]
  rw [e1] at h3
  have agg:∀ k n,k + n≤sz→0 < n→b0y H true n (.pointer (some ⟨b,off + j * sz + k,none⟩))=some (.agg ((((cells.drop (off + j * sz)).take sz).drop k).take n).toArray):=by
   intro k n hk hn
   have hc:=h0v (off:=off + j * sz + k) (n:=n) hb (by omega)
   simp only [b0y]
   rw [f1K (by omega),f1K (by simp)]
   simp only [g1y,hc]
   rw [i1M,i1o,h1R,g1R (by omega)]
  refine ⟨b,off + j * sz,_,rfl,by simp;omega,h3,?_,agg,?_⟩
  ·have:=agg 0 sz (by omega) hs
   simpa [i1o] using this
  ·intro k hk
   have hc:=h0v (off:=off + j * sz + k) (n:=1) hb (by omega)
   simp only [b0y]
   rw [f1K (by simp),f1K (by simp)]
   simp only [hc,g1h,g1L]
   rw [List.head?_take,f1K (by simp),List.head?_drop,f1H,g1X,f1N (by omega),h1g]
   rw [f1M (by omega)]
   rfl
def A0w (a:b0x):Bool:=decide (6 < a.1.2.length) || decide (6 < a.2.2.length)
end
section
open Go
variable {H:a0f} {v:Value} {m:Nat} {cs:List Value}
structure a1Z (P:Program):Prop where
 u3:P.underlying 3=some (.int .i64)
 u4:P.underlying 4=some .bool
 u103:P.underlying 103=some (.int .u32)
 u28:P.underlying 28=some (.slice 103)
 u30:∃ f g:Field,P.underlying 30=some (.struct #[f,g])∧f.type=4∧g.type=28
 u32:∃ f g:Field,P.underlying 32=some (.struct #[f,g])∧f.type=30∧g.type=30
 u34:∃ f g:Field,P.underlying 34=some (.struct #[f,g])∧f.type=3∧g.type=32
 u37:P.underlying 37=some (.slice 32)
 u27:P.underlying 27=some (.slice 34)
 u23:P.underlying 23=some (.slice 37)
 u25:∃ f:Field,P.underlying 25=some (.struct #[f])∧f.type=23
 c103:P.cellsOf 103=1
 c37:P.cellsOf 37=1
 c32:P.cellsOf 32=4
 c34:P.cellsOf 34=5
variable {P:Program}
theorem Sls.first {α:Type} {P:a0f→List Value→α→Prop} {e sz:Nat} {l:List α} (h:Sls P H e sz v l) {n:Nat} (hn:n≤l.length) {k:IntKind} :
  ∃ v',d0V sz v none (some (.int k n)) none=some v'∧Sls P H e sz v' (l.take n)∧elemOk H e v=true:=by
 obtain ⟨cs,h1,h2⟩:=h
 obtain ⟨v',h3,h4⟩:=h1.slice (lo:=0) (hi:=n) (x:=none) (y:=some (.int k n)) (g1I _) hn rfl (by simp [bnd])
 refine ⟨v',h3,⟨_,by rw [g1P,g1R hn];simpa using h4,?_⟩,h1.elemOk (Ext.refl _)⟩
 intro j hj
 have hj2:j < n:=by simp at hj;omega
 have hj3:(j + 1) * sz≤n * sz:=f1S _ hj2
 rw [g1e,g1A] at hj3
 have:=h2 j (by omega)
 simp only [List.getElem_take,i1P,Nat.zero_mul,h1o]
 rw [i1M,i1o,g1R (by omega)]
 exact this
theorem types:a1Z Tryz.prog where
 u3:=Tryz.underlying3
 u4:=by kernel_rfl
 u103:=Tryz.underlying103
 u28:=Tryz.underlying28
 u30:=⟨_,_,Tryz.underlying30,rfl,rfl⟩
 u32:=⟨_,_,Tryz.underlying32,rfl,rfl⟩
 u34:=⟨_,_,Tryz.underlying34,rfl,rfl⟩
 u37:=Tryz.underlying37
 u27:=Tryz.underlying27
 u23:=Tryz.underlying23
 u25:=⟨_,Tryz.underlying25,rfl⟩
 c103:=by kernel_rfl
 c37:=by kernel_rfl
 c32:=by kernel_rfl
 c34:=by kernel_rfl
end
section
open Go
variable {e f g:d0K}
variable {a b c:List d0K}
end
section
open Go
set_option maxHeartbeats 4000000
def j0N (E:Env) (fl nt tc b b2:Nat) (body:SCode) (rx:List a0L) (Z:b0c→a0f→Prop) (Q:d0R) (R:a0E) (n i:Nat) (Inv:Nat→(Nat→Value)→a0f→Prop) (t:b0c) (H:a0f):Prop :=
 ∃ ρ' c,t=T nt ρ'∧ρ' tc=.bool c∧(c=true→i < n∧W E fl body (T nt ρ') H (z0b b2 b (e0t E fl nt rx R i Inv) Z Q) R)∧(c=false→Z (T nt ρ') H)
section
variable {E:Env} {fl nt tc b b2 n i:Nat} {body:SCode} {rx rc:List a0L} {Z:b0c→a0f→Prop} {Q:d0R} {R:a0E} {Inv:Nat→(Nat→Value)→a0f→Prop} {ρ:Nat→Value} {H:a0f}
theorem j0N.mk (c:Bool) (h1:ρ tc=.bool c) (h2:c=true→i < n∧W E fl body (T nt ρ) H (z0b b2 b (e0t E fl nt rx R i Inv) Z Q) R) (h3:c=false→Z (T nt ρ) H):j0N E fl nt tc b b2 body rx Z Q R n i Inv (T nt ρ) H:=⟨ρ,c,rfl,h1,h2,h3⟩
theorem z0s (Inv:Nat→(Nat→Value)→a0f→Prop) (n:Nat) (htc:tc < nt) (hI:Inv 0 ρ H)
  (step:∀ i ρ G,i≤n→Inv i ρ G→WR E fl rc (T nt ρ) G (j0N E fl nt tc b b2 body rx Z Q R n i Inv) R) :
  W E fl (.loop (.seq (.seq (.reg rc) (.cond (.tmp tc) .skip (.exit b))) (.seq (.block b2 body) (.reg rx)))) (T nt ρ) H (e0H b (h0Z Z Q)) R:=by
 refine b0Z (fun k t G=>∃ i ρ,i + k=n∧t=T nt ρ∧Inv i ρ G) Z n ⟨0,ρ,by omega,rfl,hI⟩ ?_ (fun _ _ h=>h)
 clear hI
 rintro k t G ⟨i,ρ,hik,rfl,hI⟩
 refine h0H (h0H (l0F ((step i ρ G (by omega) hI).mono ?_)))
 rintro t' G' ⟨ρ',c,rfl,h1,h2,h3⟩
 simp only [e0s]
 cases c with
 | true =>
  obtain ⟨hi,h2⟩:=h2 rfl
  refine l0D true (by rw [k0F,b0U htc,h1]) (fun _=>v0s ?_) (by simp)
  simp only [e0s]
  refine h0H (p0k (h2.mono fun e t2 G2 hq=>?_))
  have fin:e0t E fl nt rx R i Inv t2 G2→h0Z (fun t' H'=>W E fl (.reg rx) t' H' (n0J b (fun t' H'=>∃ k',k' < k∧∃ i ρ,i + k' = n∧t' = T nt ρ∧Inv i ρ H') Z Q) R) (n0J b (fun t' H'=>∃ k',k' < k∧∃ i ρ,i + k' = n∧t' = T nt ρ∧Inv i ρ H') Z Q) .normal t2 G2:=by
   intro h
   refine l0F (h.mono ?_)
   rintro t3 G3 ⟨ρ3,rfl,h4⟩
   exact ⟨k - 1,by omega,i + 1,ρ3,by omega,rfl,h4⟩
  cases e with
  | normal=>exact fin hq
  | exit j =>
   simp only [z0b] at hq
   show (if j=b2 then _ else _)
   by_cases hj:j=b2
   ·rw [f1N hj] at hq ⊢;exact fin hq
   ·rw [f1K hj] at hq ⊢
    show (if j=b then _ else _)
    by_cases hj2:j=b
    ·rw [f1N hj2] at hq ⊢;exact hq
    ·rw [f1K hj2] at hq ⊢;exact hq
  | ret=>exact hq
 | false =>
  refine l0D false (by rw [k0F,b0U htc,h1]) (by simp) (fun _=>v0r ?_)
  show (if b=b then _ else _)
  rw [f1N rfl]
  exact h3 rfl
end
variable {fl:Nat} {H G:a0f} {R:a0E} {v w:Value}
def d1u (l:List (List b0x)):Prop:=l.length≤200∧∀ r ∈ l,r.length≤200∧f0B A0w r=false
end
section
open Go
set_option maxHeartbeats 4000000
@[simp] theorem V0r {w:Bool}:y0Y w undef=false:=nr rfl
variable {fl:Nat} {H G:a0f} {R:a0E} {v w:Value} {l:List Nat} {i:Bool × List Nat}
def newB (H:a0f) (r:Value):Prop:=∀ q,slB r=some q→H.size≤q
theorem Own.newB {e sz n:Nat} {cs:List Value} (h:Own H.size G e sz v n cs):AI.newB H v:=by
 obtain ⟨_,⟨rfl,_⟩ | ⟨b,cap,rfl,_,hb⟩⟩:=h
 ·intro q hq;cases hq
 ·intro q hq
  simp only [slB,f1L] at hq
  omega
theorem newB.of {u:Value} (h:newB H v) (he:slB u=slB v):newB H u:=fun q hq=>h q (by rw [← he];exact hq)
theorem newB.ne {p:Nat} (h:newB H v) (hp:p < H.size):slB v ≠ some p:=fun he=>by have:=h p he;omega
theorem J0q {x y z:Option Value} {n:Nat} {u:Value} (h:d0V n v x y z=some u):slB u=slB v:=by
 unfold d0V at h
 split at h
 ·rename_i p len cap
  split at h
  ·split at h
   ·split at h
    ·simp only [f1L] at h
     subst h
     cases p <;> rfl
    ·split at h
     ·split at h
      ·simp only [f1L] at h
       subst h
       cases p <;> rfl
      ·cases h
     ·cases h
   ·cases h
  ·cases h
 ·cases h
theorem e0C (h:Lim H v l) (hf:fl≤H.size) (hn:l.length < 4611686018427387904):a0U env fl l0S [v] H (fun r H'=>(Lim H' r (d0A l)∧slB r=slB v)∧Ext H H') R:=by
 refine a0i b1Y hf (h:=?_)
 intro ρ h0
 simp [L0k,B0J,B0K,h0,h.slen]
 refine b0Z (fun k t G=>G=H∧t.length=21∧get t 0=v∧get t 3=.int .i64 k∧k≤l.length∧d0A (l.take k)=d0A l)
  (fun t G=>∃ k:Nat,G=H∧t.length=21∧get t 0=v∧get t 3=.int .i64 k∧k≤l.length∧d0A l=l.take k) l.length (by simp [h0]) ?_ ?_
 ·rintro k t G ⟨rfl,ht,g0,g3,hk,htr⟩
  obtain ⟨ρ,rfl⟩:=toT ht
  simp only [b0U,Nat.reduceLT] at g0 g3
  by_cases hk0:k=0
  ·subst hk0
   simp [t0L,g0,g3]
   exact ⟨0,by simp,by simp,by rw [← htr];rfl⟩
  ·have hp:0 < k:=by omega
   have w1:IntKind.i64.wrap ((k:Int) - 1)=((k - 1:Nat):Int):=by rw [a0Q (by omega) (by omega)];omega
   simp [t0L,B0L,g0,g3,hp,w1,h.ia (show k - 1 < l.length by omega),h.load (show k - 1 < l.length by omega)]
   have hk1:l.take k=l.take (k - 1) ++ [l.getD (k - 1) 0]:=by rw [← e0p (by omega)];congr 1;omega
   rw [f1H] at hk1
   refine ⟨fun hz=>⟨k - 1,by omega,rfl,by omega,?_⟩,fun hz=>⟨k,rfl,hk,?_⟩⟩
   ·rw [← htr,hk1,hz,n0i]
   ·rw [← htr,hk1,k0x hz]
 ·rintro t G ⟨k,rfl,ht,g0,g3,hk,htr⟩
  obtain ⟨ρ,rfl⟩:=toT ht
  simp only [b0U,Nat.reduceLT] at g0 g3
  obtain ⟨v',h1,h2⟩:=h.take hk (x:=none) rfl (y:=some (.int .i64 (k:Int))) (by simp)
  simp [B0M,g0,g3,h.elemOk,h1]
  rw [htr];exact ⟨h2,J0q h1⟩
theorem f0a (h:Lim H v l) (hf:fl≤H.size) (hn:l.length < 4611686018427387904):a0U env fl l0S [v] H (fun r H'=>Lim H' r (d0A l)∧Ext H H') R:=(e0C h hf hn).mono fun _ _ h=>⟨h.1.1,h.2⟩
theorem e0J (h:b0f H v i) (hf:fl≤H.size) (hn:i.2.length < 4611686018427387904):a0U env fl t0l [v] H (fun r H'=>r=.bool (f0H i)∧Ext H H') R:=by
 obtain ⟨s,rfl,hs⟩:=h
 obtain ⟨bi,li⟩:=i
 simp only at hs hn ⊢
 refine a0i c1s hf (h:=?_)
 intro ρ h0
 simp [L0E,D0G,h0]
 generalize hG:Array.push H _=G
 obtain ⟨hx2,b0⟩:=g0B hG
 have hx:=Ext.refl H
 clear hG
 replace hx:=hx.trans hx2
 have ks:=hs.mono hx
 unfold f0H
 simp [D0H,h0,b0,ks.slen]
 by_cases hl:li.length=0
 ·have hnil:li=[]:=by simpa using hl
  subst hnil
  cases bi <;> simp [u0d,b0]
 ·have hp:0 < li.length:=by omega
  have hne:li ≠ []:=fun h=>hl (by rw [h];rfl)
  have w1:IntKind.i64.wrap ((li.length:Int) - 1)=((li.length - 1:Nat):Int):=by rw [a0Q (by omega) (by omega)];omega
  have hlt:li.length - 1 < li.length:=by omega
  have h1:=ks.ia hlt (k:=.i64)
  have h2:=ks.load hlt (Ext.refl _)
  have e1:((li.length:Int)=0)=False:=by simp;omega
  have e2:((0:Int) < (li.length:Int))=True:=by simp;omega
  rw [f1H] at h2
  simp [hne,hp,u0d,b0,e1,e2,w1,h1,h2]
theorem Y0R {G G3:a0f} {q:Nat} {r:Blk} {ro:Bool} {cs:List Value} {s:Value} (hS:Array.setIfInBounds G q r=G3) (hx:Ext H G) (hs:Lim G s l) (hb:a0f.blk G q=.row ro a0a cs) (hq:H.size≤q) :
  Lim G3 s l∧Ext H G3∧a0f.blk G3 q=r:=⟨by rw [← hS];exact hs.setT hb (by decide),a0J hS hx hq,a0u hS hb⟩
theorem U0e (h:b0s i.2):(if f0H i then i else (false,[]))=a0k (a0z i):=by
 cases hm:f0H i with
 | false=>simp [a0z,hm,a0k,a0Y]
 | true =>
  have h1:=j0a h
  unfold e0I at h1
  rw [hm] at h1
  have h2:=A0B i
  unfold X0Q at h2
  rw [hm] at h2
  simp at h1 h2
  simp only [g1y]
  exact Prod.ext (by rw [h2];rfl) h1
theorem b0M (h:b0f H v i) (hf:fl≤H.size) (hn:i.2.length < 4611686018427387904):a0U env fl i0t [v] H (fun r H'=>b0f H' r (a0k (a0z i))∧Ext H H') R:=by
 rw [← U0e h.ok]
 have k0:=h
 obtain ⟨s,rfl,hs⟩:=h
 refine a0i b1W hf (h:=?_)
 intro ρ h0
 simp [L0i,B0v,h0,hs.cells]
 generalize hG:Array.push (Array.push H _) _=G
 have hx2:Ext H G:=by rw [← hG];exact (Ext.refl H).push.push
 have b0:a0f.blk G H.size=.row false a0a [.bool i.1,s]:=by rw [← hG];simp
 have b1:a0f.blk G (H.size + 1)=.row false a0a [.bool false,.slice none 0 0]:=by rw [← hG];simp
 have hx:=Ext.refl H
 clear hG
 replace hx:=hx.trans hx2;replace k0:=k0.mono hx2
 simp [B0w,b0]
 refine (e0J k0 hx.1 hn).mono ?_
 rintro _ G2 ⟨rfl,hx2⟩
 replace b0:=hx2.blk b0;replace b1:=hx2.blk b1;replace hx:=hx.trans hx2;replace k0:=k0.mono hx2
 have hsz:=hx.1
 have hlt:=a0l b1
 cases hm:f0H i with
 | true =>
  obtain ⟨s',he,hs'⟩:=k0
  have:s' = s:=by simpa using he.symm
  subst this
  simp [B0y,b0,b1,hs'.cells,hs'.plain,hsz]
  generalize hS:Array.setIfInBounds G2 _ _=G3
  obtain ⟨kS,hx3,b3⟩:=Y0R hS hx hs' b1 (by omega)
  simp [b3]
  exact fun _=>⟨s',rfl,kS⟩
 | false =>
  simp [B0x,b0,b1,hsz]
  generalize hS:Array.setIfInBounds G2 _ _=G3
  have b3:=a0u hS b1
  simp [b3]
  exact fun _=>⟨.slice none 0 0,rfl,Lim.nil⟩
theorem c0c {b:Bool} (z:Int) (h:Lim H v l) (hf:fl≤H.size) (hn:l.length≤1073741824) (hz:(if b then -(a0w l:Int) else a0w l)=z) :
  a0U env fl t0r [.bool b,v] H (fun r H'=>b0f H' r (a0k z)∧Ext H H') R:=by
 rw [← hz,← N0d h.ok]
 refine a0i f1b hf (h:=?_)
 intro ρ h0
 simp [a1A,R0d,R0e,h0]
 generalize hG:Array.push H _=G
 obtain ⟨hx2,b0⟩:=g0B hG
 have hx:=Ext.refl H
 clear hG
 replace hx:=hx.trans hx2
 replace h:=h.mono hx
 refine (f0a h hx.1 (by omega)).mono ?_
 rintro u G2 ⟨ht,hx2⟩
 replace b0:=hx2.blk b0;replace hx:=hx.trans hx2
 have hsz:=hx.1
 simp
 by_cases hl:d0A l=[]
 ·have hk:mkI b l=(false,[]):=by simp [mkI,hl]
  rw [hk]
  rw [hl] at ht
  simp [I0G,R0f,ht.slen,b0,hsz]
  generalize hS:Array.setIfInBounds G2 _ _=G3
  have b3:=a0u hS b0
  simp [b3]
  exact fun _=>⟨.slice none 0 0,rfl,Lim.nil⟩
 ·have hk:mkI b l=(b,d0A l):=by simp [mkI,hl]
  rw [hk]
  have hl':¬ (d0A l).length=0:=by simpa using hl
  have hle:(d0A l).length≤l.length:=by
   rw [b0S l h.ok];exact e0d (f0J l h.ok)
  simp [I0G,R0g,ht.slen,b0,hsz,hl,h0]
  have hx4:Ext G2 (G2.push (.row false a0j [])):=(Ext.refl G2).push
  have hlt:=a0l b0
  obtain ⟨v',G',h1,h2,h3,h4⟩:=j0R (fl:=H.size) (G:=G2.push (.row false a0j [])) (s:=.slice (some ⟨G2.size,0,none⟩) 0 0) (e:=a0j) (cs:=[]) (sz:=1) (n:=0) (bytes:=4) (e2:=a0j)
   (Own.mk a0D rfl hsz) (ht.mono hx4).1 k0j (by omega) (by omega) (by omega) (by simp;omega)
  rw [g1v,h1u] at h2
  have b4:G'.blk H.size=.row false a0a [.bool false,.slice none 0 0]:=by
   rw [h3.2 _ (by simp;omega) (by simp [slB];omega)]
   exact hx4.blk b0
  have kL:Lim G' v' (d0A l):=⟨h2.sl,ht.2⟩
  have hx5:Ext H G':=h4 H (f1I _) (hx.trans hx4)
  simp [h1,kL.cells,kL.plain,b4,b0v]
  generalize hS:Array.setIfInBounds G' _ _=G3
  obtain ⟨kS,hx3,b3⟩:=Y0R hS hx5 kL b4 (by omega)
  simp [b3]
  exact fun _=>⟨v',rfl,kS⟩
end
section
open Go
set_option maxHeartbeats 4000000
variable {fl:Nat} {H G:a0f} {R:a0E} {v w:Value} {a b:List Nat}
theorem i0F (ha:Lim H v a) (hb:Lim H w b) (hf:fl≤H.size) (hna:a.length < 4611686018427387904) :
  a0U env fl t0n [v,w] H (fun r H'=>r=.int .i64 (x0J a b)∧Ext H H') R:=by
 refine a0i c1C hf (h:=?_)
 intro ρ h0
 have w1:IntKind.i64.wrap ((a.length:Int) - 1)=(a.length:Int) - 1:=a0Q (by omega) (by omega)
 by_cases hab:a.length=b.length
 ·have hab':(a.length:Int)=(b.length:Int):=by omega
  simp [y0T,q0C,q0D,E0D,h0,ha.slen,hb.slen,hab]
  rw [← hab,w1]
  have hcl:x0J a b=c0x (a0w a) (a0w b):=by simp [x0J,hab]
  rw [hcl]
  refine b0Z (fun k t G'=>t.length=41∧get t 0=v∧get t 1=w∧get t 5=.int .i64 ((k:Int) - 1)∧G' = H∧k≤a.length∧a.drop k=b.drop k)
   (fun t G'=>t.length=41∧G' = H∧a=b) a.length (by simp [h0,hab]) ?_ ?_
  ·clear h0 ρ
   rintro k t G' ⟨ht,g0,g1,g5,rfl,hk,hd⟩
   obtain ⟨ρ,rfl⟩:=toT ht
   simp only [b0U,Nat.reduceLT] at g0 g1 g5
   by_cases hk0:k=0
   ·subst hk0
    simp [u0g,g0,g1,g5]
    simpa using hd
   ·have e0:(k:Int) - 1=((k - 1:Nat):Int):=by omega
    have hka:k - 1 < a.length:=by omega
    have hkb:k - 1 < b.length:=by omega
    have hla:=ha.load hka (Ext.refl _)
    have hlb:=hb.load hkb (Ext.refl _)
    have w2:IntKind.i64.wrap (((k - 1:Nat):Int) - 1)=((k - 1:Nat):Int) - 1:=a0Q (by omega) (by omega)
    rw [e0] at g5
    have hla':=ha.ia (k:=.i64) hka
    have hlb':=hb.ia (k:=.i64) hkb
    have hh:=r0X hab ha.ok hb.ok hka (by rw [show k - 1 + 1=k by omega];exact hd)
    have hfin:a.getD (k - 1) 0=b.getD (k - 1) 0→a.drop (k - 1)=b.drop (k - 1):=by
     intro he
     rw [g1E hka,g1E hkb,show k - 1 + 1=k by omega,hd]
     rw [f1H,f1M hka,f1H,f1M hkb] at he
     congr 1
    generalize a.getD (k - 1) 0=A at hla hh hfin
    generalize b.getD (k - 1) 0=B at hlb hh hfin
    simp [u0g,g0,g1,g5]
    refine a0G ?_
    simp [E0E,g0,g1,g5,hla,hla',hlb,hlb']
    refine ⟨fun hlt=>?_,fun hnlt=>?_⟩
    ·simp [E0F]
     rw [hh (by omega),c0d,f1N hlt]
    ·refine a0G ?_
     simp [E0G,g0,g1,g5,hla,hla',hlb,hlb']
     refine ⟨fun hlt=>?_,fun hge=>?_⟩
     ·simp [w0B]
      rw [hh (by omega),c0d,f1K (by omega),f1N hlt]
     ·simp [w0C,g5,w2]
      exact ⟨k - 1,by omega,g0,g1,rfl,by omega,hfin (by omega)⟩
  ·rintro t G' ⟨ht,rfl,hab2⟩
   obtain ⟨ρ,rfl⟩:=toT ht
   simp [w0D]
   rw [hab2];simp [c0x]
 ·have hab':¬ (a.length:Int)=(b.length:Int):=by omega
  have hcl:x0J a b=c0x a.length b.length:=by simp [x0J,hab]
  rw [hcl,c0d]
  by_cases hlt:a.length < b.length
  ·have hlt':(a.length:Int) < (b.length:Int):=by omega
   simp [y0T,q0C,q0D,u0f,E0B,h0,ha.slen,hb.slen,hab,hlt]
  ·have hlt':¬ (a.length:Int) < (b.length:Int):=by omega
   have hgt:b.length < a.length:=by omega
   simp [y0T,q0C,q0D,u0f,E0C,h0,ha.slen,hb.slen,hab,hlt,hgt]
theorem f0K {l:List Nat} {n:Nat}:a0w (l.take (n + 1))=a0w (l.take n) + 4294967296 ^ n * l.getD n 0:=by
 by_cases h:n < l.length
 ·exact a0P h
 ·rw [f1W (by omega),f1W (by omega),f1H,f1T (by omega)];simp
theorem t0H (ha:Lim H v a) (hb:Lim H w b) (hf:fl≤H.size) (hna:a.length < 1073741823) (hnb:b.length < 1073741823) :
  a0U env fl z0Q [v,w] H (fun r H'=>Lim H' r (a0p (a0w a + a0w b))∧Ext H H') R:=by
 refine a0i c1B hf (h:=?_)
 intro ρ h0
 simp [L0N,E0x,E0y,E0z,E0A,h0]
 obtain ⟨N,hN⟩:∃ N,N=max a.length b.length:=⟨_,rfl⟩
 refine z0s (fun n ρ G=>ρ 0=v∧ρ 1=w∧ρ 7=.int .i64 (n:Int)∧∃ c out,ρ 6=.int .u64 ((c:Nat):Int)∧Ext H G∧Own H.size G a0j 1 (ρ 5) n (c0b out)∧b0s out∧out.length=n∧c≤1∧(n=N + 1→c=0) ∧
   a0w out + 4294967296 ^ n * c=a0w (a.take n) + a0w (b.take n)) (N + 1) (by decide) ⟨by simp [h0],by simp [h0],by simp,0,[],by simp,Ext.refl H,by simp;exact Own.nil,by intro x hx;simp at hx,rfl,by omega,by omega,by simp [a0w]⟩ ?_
 clear h0 ρ
 rintro n ρ G hn1 ⟨g0,g1,g7,c,out,g6,hx,ho,hok,hol,hc,hc0,hs⟩
 have ka:=ha.mono hx
 have kb:=hb.mono hx
 have hA2:=f0K (l:=a) (n:=n)
 have hB2:=f0K (l:=b) (n:=n)
 have hA3:=c0a ha.ok n
 have hB3:=c0a hb.ok n
 have e9:=a0R (show n < 4611686018427387904 by omega)
 by_cases hgo:n < a.length ∨ n < b.length ∨ 0 < c
 ·have hnN:n < N + 1:=by
   rcases hgo with h | h | h
   ·omega
   ·omega
   ·by_cases hz:n=N + 1
    ·have:=hc0 hz;omega
    ·omega
  have htop:n=N→c + a.getD n 0 + b.getD n 0 < 4294967296:=by
   intro hz
   have h1:a.getD n 0=0:=by rw [f1H,f1T (by omega)];rfl
   have h2:b.getD n 0=0:=by rw [f1H,f1T (by omega)];rfl
   omega
  obtain ⟨s,g5⟩:∃ s,ρ 5=s:=⟨_,rfl⟩
  rw [g5] at ho
  have hA:n < a.length→iaV 1 v (.int .i64 (n:Int))=some (adr 1 v n)∧b0y G false 1 (adr 1 v n)=some (.int .u32 ((a.getD n 0:Nat):Int)):=fun h=>⟨ka.ia h,ka.load h (Ext.refl _)⟩
  have hB:n < b.length→iaV 1 w (.int .i64 (n:Int))=some (adr 1 w n)∧b0y G false 1 (adr 1 w n)=some (.int .u32 ((b.getD n 0:Nat):Int)):=fun h=>⟨kb.ia h,kb.load h (Ext.refl _)⟩
  have hAz:¬ n < a.length→a.getD n 0=0:=fun h=>by rw [f1H,f1T (by omega)];rfl
  have hBz:¬ n < b.length→b.getD n 0=0:=fun h=>by rw [f1H,f1T (by omega)];rfl
  generalize a.getD n 0=A at hA2 hA3 htop hA hAz
  generalize b.getD n 0=B at hB2 hB3 htop hB hBz
  obtain ⟨c2,hc2⟩:∃ c2,c + A + B=c2:=⟨_,rfl⟩
  have e3:IntKind.u32.wrap ((c2:Int))=((c2 % 4294967296:Nat):Int):=by rw [e0O];omega
  rw [hc2] at htop
  obtain ⟨s',G3,h1,h2,h3,h4⟩:=d0X (e2:=a0j) (new:=[.int .u32 ((c2 % 4294967296:Nat):Int)]) (c:=1) (bytes:=4) ho rfl rfl (by omega) (by omega) (by omega) hx.1
  have hfin:a0w (out ++ [c2 % 4294967296]) + 4294967296 ^ (n + 1) * (c2 / 4294967296)=a0w (a.take (n + 1)) + a0w (b.take (n + 1)):=by
   rw [c0g,hol,hA2,hB2,g1f]
   have e3:4294967296 ^ n * 4294967296 * (c2 / 4294967296)=4294967296 ^ n * (4294967296 * (c2 / 4294967296)):=f1Z ..
   have e4:4294967296 ^ n * (c2 % 4294967296) + 4294967296 ^ n * (4294967296 * (c2 / 4294967296))=4294967296 ^ n * c2:=by rw [← f1V,i1h]
   have e5:4294967296 ^ n * c2=4294967296 ^ n * c + 4294967296 ^ n * A + 4294967296 ^ n * B:=by rw [← hc2,f1V,f1V]
   omega
  by_cases ia:n < a.length
  ·obtain ⟨a1,a2⟩:=hA ia
   by_cases ib:n < b.length
   ·obtain ⟨b1,b2⟩:=hB ib
    have hcp:True:=trivial
    have e1:IntKind.u64.wrap ((c:Int) + IntKind.u64.wrap (A:Int))=((c + A:Nat):Int):=by rw [a0x,a0x];omega
    have e2:IntKind.u64.wrap (((c + A:Nat):Int) + IntKind.u64.wrap (B:Int))=(c2:Int):=by rw [a0x,a0x];omega
    simp [k0p,g0,g1,g7,g6,ka.slen,kb.slen,ia,ib]
    refine j0N.mk true (by simp [hcp]) (fun _=>⟨hnN,?_⟩) (by simp)
    simp [-Int.natCast_emod,-Int.natCast_add,m0Q,m0R,m0S,m0T,m0U,j0t,j0u,g0,g1,g6,g7,ka.slen,kb.slen,ia,ib,a1,a2,b1,b2,e1,e2,e3,g5,h1]
    unfold e0t
    simp [-Int.natCast_emod,-Int.natCast_add,j0v,g7,e9]
    refine b0T.mk ⟨by simp [g0],by simp [g1],by simp,c2 / 4294967296,by simp,h4 _ (f1I _) hx,out ++ [c2 % 4294967296],by simpa [c0b] using h2,?_,by simp [hol],by omega,fun hz=>by have:=htop (by omega);omega,hfin⟩
    intro x hx
    rcases g1o.1 hx with hx | hx
    ·exact hok x hx
    ·simp at hx;omega
   ·have hBn:=hBz ib
    subst hBn
    have hcp:True:=trivial
    have e1:IntKind.u64.wrap ((c:Int) + IntKind.u64.wrap (A:Int))=(c2:Int):=by rw [a0x,a0x];omega
    simp [k0p,g0,g1,g7,g6,ka.slen,kb.slen,ia,ib]
    refine j0N.mk true (by simp [hcp]) (fun _=>⟨hnN,?_⟩) (by simp)
    simp [-Int.natCast_emod,-Int.natCast_add,m0Q,m0R,m0S,m0T,m0U,j0t,j0u,g0,g1,g6,g7,ka.slen,kb.slen,ia,ib,a1,a2,e1,e3,g5,h1]
    unfold e0t
    simp [-Int.natCast_emod,-Int.natCast_add,j0v,g7,e9]
    refine b0T.mk ⟨by simp [g0],by simp [g1],by simp,c2 / 4294967296,by simp,h4 _ (f1I _) hx,out ++ [c2 % 4294967296],by simpa [c0b] using h2,?_,by simp [hol],by omega,fun hz=>by have:=htop (by omega);omega,hfin⟩
    intro x hx
    rcases g1o.1 hx with hx | hx
    ·exact hok x hx
    ·simp at hx;omega
  ·have hAn:=hAz ia
   subst hAn
   by_cases ib:n < b.length
   ·obtain ⟨b1,b2⟩:=hB ib
    have hcp:True:=trivial
    have e2:IntKind.u64.wrap ((c:Int) + IntKind.u64.wrap (B:Int))=(c2:Int):=by rw [a0x,a0x];omega
    simp [k0p,g0,g1,g7,g6,ka.slen,kb.slen,ia,ib]
    refine j0N.mk true (by simp [hcp]) (fun _=>⟨hnN,?_⟩) (by simp)
    simp [-Int.natCast_emod,-Int.natCast_add,m0Q,m0R,m0S,m0T,m0U,j0t,j0u,g0,g1,g6,g7,ka.slen,kb.slen,ia,ib,b1,b2,e2,e3,g5,h1]
    unfold e0t
    simp [-Int.natCast_emod,-Int.natCast_add,j0v,g7,e9]
    refine b0T.mk ⟨by simp [g0],by simp [g1],by simp,c2 / 4294967296,by simp,h4 _ (f1I _) hx,out ++ [c2 % 4294967296],by simpa [c0b] using h2,?_,by simp [hol],by omega,fun hz=>by have:=htop (by omega);omega,hfin⟩
    intro x hx
    rcases g1o.1 hx with hx | hx
    ·exact hok x hx
    ·simp at hx;omega
   ·have hBn:=hBz ib
    subst hBn
    have hcc:c=c2:=by omega
    have hcp:0 < c2:=by omega
    rw [hcc] at g6
    simp [k0p,g0,g1,g7,g6,ka.slen,kb.slen,ia,ib,hcp]
    refine j0N.mk true (by simp [hcp]) (fun _=>⟨hnN,?_⟩) (by simp)
    simp [-Int.natCast_emod,-Int.natCast_add,m0Q,m0R,m0S,m0T,m0U,j0t,j0u,g0,g1,g6,g7,ka.slen,kb.slen,ia,ib,e3,g5,h1]
    unfold e0t
    simp [-Int.natCast_emod,-Int.natCast_add,j0v,g7,e9]
    refine b0T.mk ⟨by simp [g0],by simp [g1],by simp,c2 / 4294967296,by simp,h4 _ (f1I _) hx,out ++ [c2 % 4294967296],by simpa [c0b] using h2,?_,by simp [hol],by omega,fun hz=>by have:=htop (by omega);omega,hfin⟩
    intro x hx
    rcases g1o.1 hx with hx | hx
    ·exact hok x hx
    ·simp at hx;omega
 ·have h1:¬ n < a.length:=by omega
  have h2:¬ n < b.length:=by omega
  have h3:c=0:=by omega
  subst h3
  simp [k0p,g0,g1,g7,g6,ka.slen,kb.slen,h1,h2]
  refine j0N.mk false (by simp) (by simp) (fun _=>?_)
  rw [f1W (by omega),f1W (by omega),Nat.mul_zero,g1M] at hs
  obtain ⟨s,g5⟩:∃ s,ρ 5=s:=⟨_,rfl⟩
  rw [g5] at ho
  simp [w0A,g5]
  refine (f0a (l:=out) ⟨by rw [hol];exact ho.sl,hok⟩ hx.1 (by omega)).mono ?_
  rintro r G2 ⟨ht,hx2⟩
  simp
  intro _
  rw [← hs,← b0S out hok]
  exact ht
end
end Go.Proofs.YtjlohmnnldbjoaaGreat.AI
