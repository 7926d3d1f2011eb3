/- Part 7 of the proof: AiCall, AiRat1, AiMath3, AiRat2, AiRat3, AiExt1, AiFor, AiVec1, AiDom1, AiDom2, AiDom3, AiDom4, AiFor2, AiSame, AiGreat. -/
import Derived.Test.YtjlohmnnldbjoaaGreatM05
set_option linter.unusedVariables false
set_option linter.unusedSimpArgs false
set_option linter.unusedSectionVars false
namespace Go.Proofs.YtjlohmnnldbjoaaGreat.AI
section
open Go
def z0B (E:Env) (fl fl':Nat) (f:FuncId) (args:List Value) (H:a0f) (d:Option Nat) (r:List a0L) (t:b0b) (Z:b0b→a0f→Prop) (R:a0G):Prop :=
 a0S E fl' f args H (fun v H'=>WR E fl r (put t d v) H' Z R) R
@[simp ↓ high] theorem a1T {E:Env} {fl:Nat} {t:b0b} {H:a0f} {R:a0G} {d:Option Nat} {r:List a0L} {Z:b0b→a0f→Prop} {f:FuncId} {as:List Opd} {lone:Bool} :
  WS E fl t H (.call f as lone) (fun v H'=>WR E fl r (put t d v) H' Z R) R=z0B E fl (if lone then fl else max fl H.size) f (as.map (ev t)) H d r t Z R:=nr rfl
def z0y (E:Env) (fl fl':Nat) (x:Value) (args:List Value) (H:a0f) (d:Option Nat) (r:List a0L) (t:b0b) (Z:b0b→a0f→Prop) (R:a0G):Prop :=
 match x with
 | .func (.func f) p q=>z0B E fl fl' f (p.toList ++ args ++ q.toList) H d r t Z R
 | _=>False
@[simp ↓ high] theorem X0R {E:Env} {fl:Nat} {t:b0b} {H:a0f} {R:a0G} {d:Option Nat} {r:List a0L} {Z:b0b→a0f→Prop} {x:Opd} {as:List Opd} {lone:Bool} :
  WS E fl t H (.callv x as lone) (fun v H'=>WR E fl r (put t d v) H' Z R) R=z0y E fl (if lone then fl else max fl H.size) (ev t x) (as.map (ev t)) H d r t Z R:=by
 simp only [WS,opA,z0y];generalize ev t x=y
 cases y <;> try rfl
 rename_i g _ _;cases g <;> rfl
@[simp] theorem X0D {E:Env} {fl fl':Nat} {t:b0b} {H:a0f} {R:a0G} {d:Option Nat} {r:List a0L} {Z:b0b→a0f→Prop} {f:FuncId} {p q:Array Value} {as:List Value} :
  z0y E fl fl' (.func (.func f) p q) as H d r t Z R=z0B E fl fl' f (p.toList ++ as ++ q.toList) H d r t Z R:=nr rfl
theorem t0b {E:Env} {fl fl' fl2:Nat} {t t':b0b} {H:a0f} {R:a0G} {d:Option Nat} {r:List a0L} {Z:b0b→a0f→Prop} {f:FuncId} {as as':List Value} (h:as=as') (ht:t=t') (hf:fl' = fl2) :
  z0B E fl fl' f as H d r t Z R=z0B E fl fl2 f as' H d r t' Z R:=by rw [h,ht,hf]
attribute [congr] t0b
section
variable {E:Env} {fl:Nat} {t:b0b} {H:a0f} {Z:b0b→a0f→Log→Prop} {lg:Log} {d:Option Nat} {r:List a0L}
def c1I (E:Env) (fl fl':Nat) (f:FuncId) (args:List Value) (H:a0f) (d:Option Nat) (r:List a0L) (t:b0b) (lg:Log) (Z:b0b→a0f→Log→Prop):Prop :=
 a0S E fl' f args H (fun v H'=>WRL E fl r (put t d v) H' lg Z) (fun _=>False)
@[simp ↓ high] theorem a1U {f:FuncId} {as:List Opd} {lone:Bool} :
  WS E fl t H (.call f as lone) (fun v H'=>WRL E fl r (put t d v) H' lg Z) (fun _=>False)=c1I E fl (if lone then fl else max fl H.size) f (as.map (ev t)) H d r t lg Z:=nr rfl
end
section
variable {H G G3:a0f} {q p:Nat} {X r0:Blk} {ro:Bool} {e:TypeId} {cs:List Value}
theorem a0o (hS:Array.setIfInBounds G q X=G3) (hb:a0f.blk G p=r0) (h:q ≠ p):a0f.blk G3 p=r0:=by rw [← hS,b0h h];exact hb
theorem a0s (hS:Array.setIfInBounds G q X=G3) (hb:a0f.blk G q=.row ro e cs):a0f.blk G3 q=X:=by rw [← hS,a0A (a0l hb)]
theorem a0E (hS:Array.setIfInBounds G q X=G3) (hx:Ext H G) (h:H.size≤q):Ext H G3:=by rw [← hS];exact hx.set h
theorem Lim.setS {v:Value} {l:List Nat} (k:Lim G v l) (hS:Array.setIfInBounds G q X=G3) (hb:a0f.blk G q=.row ro e cs) (hne:e ≠ a0k):Lim G3 v l:=by rw [← hS];exact k.setT hb hne
theorem b0d.setS {v:Value} {i:Bool × List Nat} (k:b0d G v i) (hS:Array.setIfInBounds G q X=G3) (hb:a0f.blk G q=.row ro e cs) (hne:e ≠ a0k):b0d G3 v i:=by rw [← hS];exact k.setT hb hne
theorem new1 {z r:Blk} (hN:Array.setIfInBounds (Array.push G z) G.size r=G3):Ext G G3∧a0f.blk G3 G.size=r:=by
 rw [← hN];exact ⟨((Ext.refl G).push).set (by omega),by rw [a0A (by simp)]⟩
theorem g0r {z:Blk} (hN:Array.push G z=G3):Ext G G3∧a0f.blk G3 G.size=z:=by
 rw [← hN];exact ⟨(Ext.refl G).push,a0C⟩
end
def lz (z:Int):Nat:=(a0p z.natAbs).length
theorem t0G {z:Int} {k:Nat} (h:z.natAbs < 4294967296 ^ k):lz z≤k:=e0h h
theorem A0P (z:Int):z.natAbs < 4294967296 ^ lz z:=e0u _
theorem m0m {x y:Int} (h:x.natAbs≤y.natAbs):lz x≤lz y:=a0V h
theorem c0a (x y:Int):lz (x * y)≤lz x + lz y:=by
 refine t0G ?_
 rw [j1i,j1y]
 exact Nat.mul_lt_mul'' (A0P x) (A0P y)
theorem o0s (x y:Int):lz (x + y)≤max (lz x) (lz y) + 1:=by
 refine t0G ?_
 have h1:=A0P x
 have h2:=A0P y
 have h3:(4294967296:Nat) ^ lz x≤4294967296 ^ max (lz x) (lz y):=i1R (by omega) (by omega)
 have h4:(4294967296:Nat) ^ lz y≤4294967296 ^ max (lz x) (lz y):=i1R (by omega) (by omega)
 have:=Int.natAbs_add_le x y
 rw [h1Z]
 omega
theorem h0c (x:Int):lz (-x)=lz x:=by unfold lz;rw [Int.natAbs_neg]
theorem g0q:lz 1=1:=by unfold lz;rw [e0i (by decide),show (1:Int).natAbs / 4294967296=0 from rfl,a0W];rfl
theorem d0C:lz 0=0:=by unfold lz;rw [show (0:Int).natAbs=0 from rfl,a0W];rfl
theorem a0g (z:Int):(a0j z).2.length=lz z:=rfl
theorem N0U {i:Bool × List Nat} (h:b0u i.2):lz (a0z i)≤i.2.length:=a0v h
end
section
open Go
set_option maxHeartbeats 4000000
variable {fl:Nat} {H:a0f} {R:a0G} {v w:Value} {i j:Bool × List Nat}
abbrev b0q:=(Bool × List Nat) × (Bool × List Nat)
def b0L (H:a0f) (v:Value) (a:b0q):Prop:=∃ s u,v=.agg #[.bool a.1.1,s,.bool a.2.1,u]∧Lim H s a.1.2∧Lim H u a.2.2
variable {a b:b0q}
theorem b0L.mono {G:a0f} (h:b0L H v a) (hx:Ext H G):b0L G v a:=by obtain ⟨s,u,h1,h2,h3⟩:=h;exact ⟨s,u,h1,h2.mono hx,h3.mono hx⟩
theorem b0L.setT (h:b0L H v a) {p:Nat} {ro:Bool} {e':TypeId} {cs':List Value} {r:Blk} (hb:H.blk p=.row ro e' cs') (hne:e' ≠ a0k):b0L (H.setIfInBounds p r) v a:=by
 obtain ⟨s,u,h1,h2,h3⟩:=h;exact ⟨s,u,h1,h2.setT hb hne,h3.setT hb hne⟩
theorem b0L.setS {G3:a0f} {q:Nat} {X:Blk} {ro:Bool} {e:TypeId} {cs:List Value} (k:b0L H v a) (hS:Array.setIfInBounds H q X=G3) (hb:a0f.blk H q=.row ro e cs) (hne:e ≠ a0k):b0L G3 v a:=by rw [← hS];exact k.setT hb hne
def d0W (a:b0q):Nat:=max a.1.2.length a.2.2.length
def d0F (a:b0q):Bool:=!a.1.1 && a.1.2.length == 0 && !a.2.1 && a.2.2.length == 0
def l0D (a:b0q):Bool:=d0F a || (f0R a.1 && f0R a.2 && !a.2.1 && a0z a.2 != 0 && Int.gcd (a0z a.1) (a0z a.2) == 1)
def b0o (a:b0q):Rat:=if d0F a then 0 else if l0D a then Rat.divInt (a0z a.1) (a0z a.2) else 0
def a0e (x:Rat):b0q:=(a0j x.num,a0j x.den)
theorem K0o (a:b0q):d0F a=true ↔ a=((false,[]),(false,[])):=by
 obtain ⟨⟨b1,l1⟩,⟨b2,l2⟩⟩:=a
 unfold d0F;cases b1 <;> cases b2 <;> simp
theorem k0M (hz:d0F a=false) (hm:l0D a=true):a0e (b0o a)=(a0j (a0z a.1),a0j (a0z a.2)):=by
 unfold b0o
 rw [hz,hm]
 unfold l0D at hm
 rw [hz,k1b] at hm
 simp only [h1S,j1l,bne_iff_ne,ne_eq,beq_iff_eq] at hm
 obtain ⟨⟨⟨⟨h1,h2⟩,h3⟩,h4⟩,h5⟩:=hm
 have hq:0 < a0z a.2:=by
  unfold a0z at h4 ⊢;rw [h2,h3] at h4 ⊢;simp at h4 ⊢;omega
 have hd:((a0z a.2).toNat:Int)=a0z a.2:=j1R (by omega)
 have h6:Rat.divInt (a0z a.1) (a0z a.2) = ⟨a0z a.1,(a0z a.2).toNat,by omega,by rw [Nat.Coprime,← h5,Int.gcd];congr 1;omega⟩:=by
  rw [Rat.mk_eq_divInt,hd]
 simp only [i1a,i1F,i1s]
 rw [h6];unfold a0e;simp only [hd]
theorem l0S:a0e 0=((false,[]),a0j 1):=by
 show (a0j 0,a0j 1)=_;rw [e0f]
theorem n0z (x:Rat):d0F (a0e x)=false:=by
 have:=x.den_nz
 unfold d0F a0e
 have h:a0p (x.den:Int).natAbs ≠ []:=by rw [Ne,b0I];omega
 have h2:(a0p x.den).length ≠ 0:=by intro h3;exact h (i1i.1 h3)
 simp [a0j];intro _ _;simpa using h2
theorem h0M (x:Rat):l0D (a0e x)=true:=by
 have h1:=x.den_nz
 have h2:=x.reduced
 unfold l0D
 rw [n0z,k1b]
 unfold a0e
 simp only [s0a,a0h,h1S,j1l,bne_iff_ne,beq_iff_eq]
 refine ⟨⟨⟨⟨trivial,trivial⟩,by simp [a0j]⟩,by omega⟩,?_⟩
 rw [Int.gcd,Int.natAbs_natCast];exact h2
theorem a0D (x:Rat):b0o (a0e x)=x:=by
 unfold b0o
 rw [n0z,h0M]
 simp only [i1a,i1F,i1s]
 unfold a0e
 rw [a0h,a0h,k1z]
theorem j0S (h:b0L H v a) (hf:fl≤H.size):a0S env fl y0f [v] H (fun r H'=>r=.bool (d0F a)∧Ext H H') R:=by
 obtain ⟨s,u,rfl,hs,hu⟩:=h
 refine a0i d1Q hf (h:=?_)
 intro ρ h0
 simp [M0j,C0V,h0]
 have hsl:=hs.slen
 have hul:=hu.slen
 cases h1:a.1.1
 ·by_cases h2:a.1.2=[]
  ·cases h3:a.2.1
   ·simp [n0c,h0,h1,h2,h3,hsl,hul,d0F]
   ·simp [n0c,h0,h1,h2,h3,hsl,hul,d0F]
  ·simp [n0c,h0,h1,h2,hsl,hul,d0F]
 ·simp [n0c,h0,h1,hsl,hul,d0F]
theorem j0R (h:b0d H v i) (hf:fl≤H.size) (hn:i.2.length < 536870912):a0S env fl y0i [v] H (fun r H'=>r=.bool (a0z i == 0)∧Ext H H') R:=by
 have k0:=h
 obtain ⟨s,rfl,hs⟩:=h
 refine a0i e1f hf (h:=?_)
 intro ρ h0
 simp [M0y,E0g,E0h,h0]
 refine (c0V (k0.mono (by simp)) (j:=(false,[])) ⟨_,rfl,Lim.nil⟩ (by simp) hn (by simp)).mono ?_
 rintro _ G2 ⟨rfl,hx2⟩
 have:a0z (false,[])=0:=by unfold a0z f0R;simp [a0w]
 rw [this]
 simp [c0z]
 intro _
 by_cases h1:a0z i < 0
 ·simp [h1];omega
 ·by_cases h2:0 < a0z i
  ·simp [h1,h2];omega
  ·simp [h1,h2];omega
theorem f0l (hf:fl≤H.size):a0S env fl t0v [] H (fun r H'=>b0d H' r (a0j 1)∧Ext H H') R:=by
 refine a0i d1R hf (h:=?_)
 intro ρ h0
 simp [M0k,C0W,C0X,h0]
 refine (c0W (by simp) (by omega) (by omega)).mono ?_
 rintro _ G2 ⟨⟨s,rfl,hs⟩,hx2⟩
 have b0:=hx2.blk a0C
 have hz:=a0l b0
 simp [b0,hs.cells,hs.plain,hz]
 exact fun _=>⟨s,rfl,hs.setT b0 (by decide)⟩
theorem h0v (h:b0L H v a) (hf:fl≤H.size) (hn:d0W a < 536870912):a0S env fl V0n [v] H (fun r H'=>r=.bool (l0D a)∧Ext H H') R:=by
 have k0:=h
 have hn1:a.1.2.length < 536870912:=by unfold d0W at hn;omega
 have hn2:a.2.2.length < 536870912:=by unfold d0W at hn;omega
 obtain ⟨s,u,rfl,hs,hu⟩:=h
 have k1:b0d H (.agg #[.bool a.1.1,s]) a.1:=⟨s,rfl,hs⟩
 have k2:b0d H (.agg #[.bool a.2.1,u]) a.2:=⟨u,rfl,hu⟩
 refine a0i h1m hf (h:=?_)
 intro ρ h0
 simp [c1D,T0S,h0]
 generalize hG:Array.push H _=G
 have hx2:Ext H G:=by rw [← hG];simp
 have b0:a0f.blk G H.size=.row false a0b [.bool a.1.1,s,.bool a.2.1,u]:=by rw [← hG];simp
 have hx:=Ext.refl H
 clear hG
 replace hx:=hx.trans hx2;replace k0:=k0.mono hx2;replace k1:=k1.mono hx2;replace k2:=k2.mono hx2
 simp [T0T,h0,b0]
 refine (j0S k0 hx.1).mono ?_
 rintro _ G2 ⟨rfl,hx2⟩
 replace b0:=hx2.blk b0;replace hx:=hx.trans hx2;replace k1:=k1.mono hx2;replace k2:=k2.mono hx2
 unfold l0D
 cases hz:d0F a
 case true=>simp [T0U]
 simp [T0V,h0,b0]
 refine (f0e k1 hx.1 (by omega)).mono ?_
 rintro _ G2 ⟨rfl,hx2⟩
 replace b0:=hx2.blk b0;replace hx:=hx.trans hx2;replace k1:=k1.mono hx2;replace k2:=k2.mono hx2
 cases h1:f0R a.1
 case false=>simp
 simp [h0,b0]
 refine (f0e k2 hx.1 (by omega)).mono ?_
 rintro _ G2 ⟨rfl,hx2⟩
 replace b0:=hx2.blk b0;replace hx:=hx.trans hx2;replace k1:=k1.mono hx2;replace k2:=k2.mono hx2
 cases h2:f0R a.2
 case false=>simp
 cases h3:a.2.1
 case true=>simp [h0,b0,h3]
 simp [h0,b0,h3]
 rw [← h3]
 refine (j0R k2 hx.1 hn2).mono ?_
 rintro _ G2 ⟨rfl,hx2⟩
 replace b0:=hx2.blk b0;replace hx:=hx.trans hx2;replace k1:=k1.mono hx2;replace k2:=k2.mono hx2
 by_cases h4:a0z a.2=0
 ·simp [h4]
  exact fun _=>h3
 have h4':(a0z a.2 == 0)=false:=by simp [h4]
 simp [h0,b0,h4,h4',h3]
 rw [← h3]
 refine (f0d k1 k2 hx.1 hn1 hn2).mono ?_
 rintro x G2 ⟨k3,hx2⟩
 replace hx:=hx.trans hx2;replace k2:=k2.mono hx2
 try simp [h0]
 refine (f0l hx.1).mono ?_
 rintro y G2 ⟨k4,hx2⟩
 replace hx:=hx.trans hx2;replace k2:=k2.mono hx2;replace k3:=k3.mono hx2
 try simp [h0]
 have hgl:(a0j ((Int.gcd (a0z a.1) (a0z a.2):Nat):Int)).2.length < 536870912:=by
  rw [a0t]
  show (a0p _).length < _
  have h5:Int.gcd (a0z a.1) (a0z a.2)≤(a0z a.2).natAbs:=j1P _ h4
  have:=a0V h5
  have:=a0v k2.ok
  omega
 refine (c0V k3 k4 hx.1 hgl (by rw [a0g,g0q];decide)).mono ?_
 rintro _ G2 ⟨rfl,hx2⟩
 rw [a0h,a0h]
 simp
 intro _
 generalize Int.gcd (a0z a.1) (a0z a.2)=g
 have h6:(c0z (g:Int) 1 == 0)=(g == 1):=by
  unfold c0z
  by_cases hg:g=1
  ·subst hg;rfl
  ·have e:(g == 1)=false:=by simp [hg]
   rw [e];split
   ·rfl
   ·rename_i h7;split
    ·rfl
    ·omega
 simp [h3,h4,h6]
theorem b0K (h:b0L H v a) (hf:fl≤H.size) (hn:d0W a < 536870912):a0S env fl y0u [v] H (fun r H'=>b0L H' r (a0e (b0o a))∧Ext H H') R:=by
 have k0:=h
 have hn1:a.1.2.length < 536870912:=by unfold d0W at hn;omega
 have hn2:a.2.2.length < 536870912:=by unfold d0W at hn;omega
 obtain ⟨s,u,rfl,hs,hu⟩:=h
 have k1:b0d H (.agg #[.bool a.1.1,s]) a.1:=⟨s,rfl,hs⟩
 have k2:b0d H (.agg #[.bool a.2.1,u]) a.2:=⟨u,rfl,hu⟩
 refine a0i h1a hf (h:=?_)
 intro ρ h0
 simp [c1s,T0c,h0]
 generalize hG:Array.push (Array.push H _) _=G
 have hx2:Ext H G:=by rw [← hG];simp
 have b0:a0f.blk G H.size=.row false a0b [.bool a.1.1,s,.bool a.2.1,u]:=by rw [← hG];simp
 have b1:a0f.blk G (H.size + 1)=.row false a0b [.bool false,.slice none 0 0,.bool false,.slice none 0 0]:=by rw [← hG];simp
 have hx:=Ext.refl H
 clear hG
 replace hx:=hx.trans hx2;replace k0:=k0.mono hx2;replace k1:=k1.mono hx2;replace k2:=k2.mono hx2
 simp [T0d,h0,b0]
 refine (j0S k0 hx.1).mono ?_
 rintro _ G2 ⟨rfl,hx2⟩
 replace b0:=hx2.blk b0;replace b1:=hx2.blk b1;replace hx:=hx.trans hx2;replace k0:=k0.mono hx2;replace k1:=k1.mono hx2;replace k2:=k2.mono hx2
 cases hz0:d0F a
 case true =>
  have hval:b0o a=0:=by unfold b0o;rw [hz0];rfl
  simp [J0w,h0]
  refine (f0l hx.1).mono ?_
  rintro _ G2 ⟨⟨s1,rfl,hs1⟩,hx2⟩
  replace b0:=hx2.blk b0;replace b1:=hx2.blk b1;replace hx:=hx.trans hx2;replace k0:=k0.mono hx2;replace k1:=k1.mono hx2;replace k2:=k2.mono hx2
  have hz:=a0l b1
  simp [h0,b1,hs1.cells,hs1.plain,hz]
  refine fun _=>?_
  rw [hval,l0S]
  exact ⟨_,s1,rfl,Lim.nil,hs1.setT b1 (by decide)⟩
 simp [h0,b0]
 refine (h0v k0 hx.1 hn).mono ?_
 rintro _ G2 ⟨rfl,hx2⟩
 replace b0:=hx2.blk b0;replace b1:=hx2.blk b1;replace hx:=hx.trans hx2;replace k1:=k1.mono hx2;replace k2:=k2.mono hx2
 cases hm:l0D a
 case false =>
  have hval:b0o a=0:=by unfold b0o;rw [hz0,hm];rfl
  simp [J0w,h0]
  refine (f0l hx.1).mono ?_
  rintro _ G2 ⟨⟨s1,rfl,hs1⟩,hx2⟩
  replace b0:=hx2.blk b0;replace b1:=hx2.blk b1;replace hx:=hx.trans hx2;replace k1:=k1.mono hx2;replace k2:=k2.mono hx2
  have hz:=a0l b1
  simp [h0,b1,hs1.cells,hs1.plain,hz]
  refine fun _=>?_
  rw [hval,l0S]
  exact ⟨_,s1,rfl,Lim.nil,hs1.setT b1 (by decide)⟩
 rw [k0M hz0 hm]
 simp [h0]
 refine a0B ?_
 simp [T0e,h0,b0]
 have hv0:a0z (false,[])=0:=by unfold a0z f0R;simp [a0w]
 refine (f0c k1 (j:=(false,[])) ⟨_,rfl,Lim.nil⟩ (by have:=hx.1;omega) hn1 (by simp)).mono ?_
 rintro _ G2 ⟨⟨s1,rfl,k3⟩,hx2⟩
 replace b0:=hx2.blk b0;replace b1:=hx2.blk b1;replace hx:=hx.trans hx2;replace k2:=k2.mono hx2
 rw [hv0,j1g] at k3 ⊢
 try simp [h0,b0]
 refine (f0c k2 (j:=(false,[])) ⟨_,rfl,Lim.nil⟩ hx.1 hn2 (by simp)).mono ?_
 rintro _ G2 ⟨⟨s2,rfl,k4⟩,hx2⟩
 replace b1:=hx2.blk b1;replace hx:=hx.trans hx2;replace k3:=k3.mono hx2
 rw [hv0,j1g] at k4 ⊢
 have hz:=a0l b1
 simp [h0,b1,k3.cells,k3.plain,k4.cells,k4.plain,hz]
 exact fun _=>⟨s1,s2,rfl,k3.setT b1 (by decide),k4.setT b1 (by decide)⟩
end
section
open Go
def szR (x:Rat):Nat:=max (lz x.num) (lz x.den)
theorem a0I (x:Rat):d0W (a0e x)=szR x:=rfl
theorem K0h (x:Rat):1≤szR x:=by
 unfold szR
 have:lz x.den ≠ 0:=by
  unfold lz
  intro h
  have:=b0I.1 (i1i.1 h)
  have:=x.den_nz
  omega
 omega
theorem d0U:szR 0=1:=by show max (lz 0) (lz 1)=1;rw [d0C,g0q];rfl
theorem K0g:szR 1=1:=by show max (lz 1) (lz 1)=1;rw [g0q];rfl
theorem K0f (z:Int):szR (z:Rat)=max (lz z) 1:=by
 unfold szR;rw [k1A,k1y];show max (lz z) (lz 1)=_;rw [g0q]
theorem b0W (p q:Int):szR (Rat.divInt p q)≤max (max (lz p) (lz q)) 1:=by
 unfold szR
 rw [Rat.num_divInt,Rat.den_divInt]
 have h1:lz (q.sign * p / ↑(q.gcd p))≤lz p:=by
  refine m0m ?_
  rw [Int.natAbs_ediv_of_dvd]
  ·refine h1R (i1M _ _) ?_
   rw [j1i]
   have : q.sign.natAbs ≤ 1 := by rcases Int.lt_trichotomy q 0 with h | h | h
                                  ·rw [Int.sign_eq_neg_one_of_neg h];decide
                                  ·rw [h];decide
                                  ·rw [Int.sign_eq_one_of_pos h];decide
   calc _≤1 * p.natAbs:=h1J _ this
    _=_:=i1r _
  ·exact Int.dvd_mul_of_dvd_right (k1c ..)
 have h2:lz ((if q=0 then 1 else q.natAbs / q.gcd p:Nat):Int)≤max (lz q) 1:=by
  split
  ·show lz 1≤_;rw [g0q];omega
  ·have:lz ((q.natAbs / q.gcd p:Nat):Int)≤lz q:=m0m (by rw [Int.natAbs_natCast];exact i1M _ _)
   omega
 omega
theorem k0W (n:Int) (d:Nat):mkRat n d=Rat.divInt n d:=rfl
theorem k0d (x y:Rat):x + y=Rat.divInt (x.num * y.den + y.num * x.den) (x.den * y.den):=by rw [Rat.add_def',k0W,h1V]
theorem k0p (x y:Rat):x * y=Rat.divInt (x.num * y.num) (x.den * y.den):=by rw [Rat.mul_def',k0W,h1V]
theorem o0j (x y:Rat):x / y=Rat.divInt (x.num * y.den) (x.den * y.num):=by
 rw [Rat.div_def,Rat.inv_def]
 conv=>lhs;lhs;rw [← k1z x]
 rw [Rat.divInt_mul_divInt]
theorem K0e (x y:Rat):szR (x + y)≤szR x + szR y + 1:=by
 rw [k0d]
 refine h1R (b0W _ _) ?_
 have h1:=o0s (x.num * y.den) (y.num * x.den)
 have h2:=c0a x.num y.den
 have h3:=c0a y.num x.den
 have h4:=c0a (x.den:Int) y.den
 unfold szR;omega
theorem h0D (x y:Rat):szR (x * y)≤szR x + szR y:=by
 rw [k0p]
 refine h1R (b0W _ _) ?_
 have h2:=c0a x.num y.num
 have h4:=c0a (x.den:Int) y.den
 have:=K0h x
 unfold szR at *;omega
theorem W0H (x:Rat):szR (-x)=szR x:=by unfold szR;rw [Rat.neg_num,Rat.neg_den,h0c]
theorem W0G (x y:Rat):szR (x / y)≤szR x + szR y:=by
 rw [o0j]
 refine h1R (b0W _ _) ?_
 have h2:=c0a x.num y.den
 have h4:=c0a (x.den:Int) y.num
 have:=K0h x
 unfold szR at *;omega
theorem b0E {a:b0q} (h1:b0u a.1.2) (h2:b0u a.2.2):szR (b0o a)≤max (d0W a) 1:=by
 by_cases hz:d0F a=true
 ·have:b0o a=0:=by unfold b0o;rw [hz];rfl
  rw [this,d0U];omega
 ·by_cases hm:l0D a=true
  ·have h3:=k0M (by simpa using hz) hm
   have h4:=a0I (b0o a)
   rw [h3] at h4
   rw [← h4]
   have:=N0U h1
   have:=N0U h2
   unfold d0W;simp only [a0g];omega
  ·have:b0o a=0:=by unfold b0o;simp [hz,hm]
   rw [this,d0U];omega
theorem s0l {p q g:Int} (hq:q ≠ 0) (hg:g=if q < 0 then -(Int.gcd p q:Int) else (Int.gcd p q:Int)):a0e (Rat.divInt p q)=(a0j (p.tdiv g),a0j (q.tdiv g))∧g ≠ 0:=by
 have hgp:0 < Int.gcd p q:=Int.gcd_pos_of_ne_zero_right _ hq
 have hg0:g ≠ 0:=by rw [hg];split <;> omega
 refine ⟨?_,hg0⟩
 have hdp : g ∣ p := by rw [hg]; split
                        ·exact Int.neg_dvd.2 (Int.gcd_dvd_left ..)
                        ·exact Int.gcd_dvd_left ..
 have hdq : g ∣ q := by rw [hg]; split
                        ·exact Int.neg_dvd.2 (k1c ..)
                        ·exact k1c ..
 have hna:g.natAbs=Int.gcd p q:=by rw [hg];split <;> simp
 have e1:=Int.tdiv_mul_cancel hdp
 have e2:=Int.tdiv_mul_cancel hdq
 have hcop:Int.gcd (p.tdiv g) (q.tdiv g)=1:=by
  have h1:Int.gcd (p.tdiv g * g) (q.tdiv g * g)=Int.gcd (p.tdiv g) (q.tdiv g) * g.natAbs:=Int.gcd_mul_right ..
  rw [e1,e2,hna] at h1
  have h2:1 * Int.gcd p q=Int.gcd (p.tdiv g) (q.tdiv g) * Int.gcd p q:=by rw [i1r];exact h1
  exact (Nat.eq_of_mul_eq_mul_right hgp h2).symm
 have hpos:0 < q.tdiv g:=by
  by_cases hq0:q < 0
  ·have:g < 0:=by rw [hg,h1F hq0];omega
   by_cases h:0 < q.tdiv g
   ·exact h
   ·have:=Int.mul_nonneg_of_nonpos_of_nonpos (a:=q.tdiv g) (b:=g) (by omega) (by omega);omega
  ·have:0 < g:=by rw [hg,h1C hq0];omega
   by_cases h:0 < q.tdiv g
   ·exact h
   ·have:=i1A (a:=q.tdiv g) (b:=g) (by omega) (by omega);omega
 have h3:Rat.divInt p q=Rat.divInt (p.tdiv g) (q.tdiv g):=by
  have h:=Rat.divInt_mul_right (n:=p.tdiv g) (d:=q.tdiv g) hg0
  rw [e1,e2] at h;exact h
 generalize p.tdiv g=x at *
 generalize q.tdiv g=y at *
 have hd:((y.toNat:Nat):Int)=y:=j1R (by omega)
 have h6:Rat.divInt x y = ⟨x,y.toNat,by omega,by rw [Nat.Coprime,← hcop,Int.gcd];congr 1;omega⟩:=by
  rw [Rat.mk_eq_divInt,hd]
 rw [h3,h6];unfold a0e;simp only [hd]
def t0o (x y:Rat):Int:=if x < y then -1 else if y < x then 1 else 0
theorem z0U (x y:Rat):c0z (x.num * y.den) (y.num * x.den)=t0o x y:=by
 unfold c0z t0o
 simp only [Rat.lt_iff,gt_iff_lt]
end
section
open Go
set_option maxHeartbeats 4000000
variable {fl:Nat} {H:a0f} {R:a0G} {v w:Value} {i j:Bool × List Nat} {a b:b0q}
theorem b0d.cells {i:Bool × List Nat} (h:b0d H v i):(a0U v).length=2∧(a0U v).all a0F=true:=by
 obtain ⟨s,rfl,hs⟩:=h;simp [hs.plain]
theorem d0K (h:b0d H v i) (k:b0d H w j) (hf:fl≤H.size) (hn:i.2.length < 536870912) (hm:j.2.length < 536870912) (hj0:a0z j ≠ 0) :
  a0S env fl p0J [v,w] H (fun r H'=>(∃ q,r=.tuple #[q,.int .i64 0]∧b0L H' q (a0e (Rat.divInt (a0z i) (a0z j))))∧Ext H H') R:=by
 have k0:=h
 have k1:=k
 obtain ⟨s,rfl,hs⟩:=h
 obtain ⟨u,rfl,hu⟩:=k
 refine a0i d1S hf (h:=?_)
 intro ρ h0
 simp [M0l,C0Y,h0]
 generalize hG:Array.push (Array.push (Array.push H _) _) _=G
 have hx:Ext H G:=by rw [← hG];exact (Ext.refl H).push.push.push
 have b0:a0f.blk G H.size=.row false a0a [.bool i.1,s]:=by rw [← hG];simp
 have b1:a0f.blk G (H.size + 1)=.row false a0a [.bool j.1,u]:=by rw [← hG];simp
 have b2:a0f.blk G (H.size + 2)=.row false a0b [.bool false,.slice none 0 0,.bool false,.slice none 0 0]:=by rw [← hG];simp
 clear hG
 replace k0:=k0.mono hx
 replace k1:=k1.mono hx
 have l1:=a0v k0.ok
 have l2:=a0v k1.ok
 simp [C0Z,h0,b1]
 refine (j0R k1 hx.1 hm).mono ?_
 rintro _ G2 ⟨rfl,hx2⟩
 replace b0:=hx2.blk b0;replace b1:=hx2.blk b1;replace b2:=hx2.blk b2;replace hx:=hx.trans hx2;replace k0:=k0.mono hx2;replace k1:=k1.mono hx2
 have hj0':(a0z j == 0)=false:=by simp [hj0]
 simp [hj0',hj0,D0a,h0,b0,b1]
 refine (f0d k0 k1 hx.1 hn hm).mono ?_
 rintro x G2 ⟨⟨s1,rfl,k2⟩,hx2⟩
 replace b0:=hx2.blk b0;replace b1:=hx2.blk b1;replace b2:=hx2.blk b2;replace hx:=hx.trans hx2;replace k0:=k0.mono hx2;replace k1:=k1.mono hx2
 have hsz:=hx.1
 simp [h0,k2.cells,k2.plain,hsz]
 generalize hN:Array.setIfInBounds (Array.push _ _) _ _=G3
 obtain ⟨hx2,b3⟩:=new1 hN
 have hb2l:=a0l b2
 replace b0:=hx2.blk b0;replace b1:=hx2.blk b1;replace b2:=hx2.blk b2;replace hx:=hx.trans hx2;replace k0:=k0.mono hx2;replace k1:=k1.mono hx2;replace k2:=k2.mono hx2
 clear hN
 obtain ⟨P,hP⟩:∃ P,P=G2.size:=⟨_,rfl⟩
 rw [← hP] at b3 hsz hb2l ⊢
 have hgl:lz (Int.gcd (a0z i) (a0z j):Int) < 536870912:=by
  have h5:Int.gcd (a0z i) (a0z j)≤(a0z j).natAbs:=j1P _ hj0
  have:lz (Int.gcd (a0z i) (a0z j):Int)≤(a0p (a0z j).natAbs).length:=a0V (by simpa using h5)
  omega
 simp [D0b,h0,b1]
 refine (c0V k1 (j:=(false,[])) ⟨_,rfl,Lim.nil⟩ hx.1 hm (by simp)).mono ?_
 rintro _ G2 ⟨rfl,hx2⟩
 replace b0:=hx2.blk b0;replace b1:=hx2.blk b1;replace b2:=hx2.blk b2;replace b3:=hx2.blk b3;replace hx:=hx.trans hx2;replace k0:=k0.mono hx2;replace k1:=k1.mono hx2;replace k2:=k2.mono hx2
 have hv0:a0z (false,[])=0:=by unfold a0z f0R;simp [a0w]
 rw [hv0]
 obtain ⟨g,hg⟩:∃ g,g=if a0z j < 0 then -(Int.gcd (a0z i) (a0z j):Int) else (Int.gcd (a0z i) (a0z j):Int):=⟨_,rfl⟩
 obtain ⟨hq,hg0⟩:=s0l (p:=a0z i) hj0 hg
 rw [hq]
 have hgl2:lz g < 536870912:=by rw [hg];split;rw [h0c];exact hgl;exact hgl
 by_cases hneg:a0z j < 0
 ·have hcz:c0z (a0z j) 0 < 0:=by unfold c0z;rw [h1F hneg];omega
  simp [hcz,D0c,h0,b3]
  refine (f0f (i:=a0j (Int.gcd (a0z i) (a0z j))) ⟨s1,rfl,k2⟩ hx.1 (by rw [a0g];omega)).mono ?_
  rintro _ G2 ⟨⟨s2,rfl,k6⟩,hx2⟩
  replace b0:=hx2.blk b0;replace b1:=hx2.blk b1;replace b2:=hx2.blk b2;replace b3:=hx2.blk b3;replace hx:=hx.trans hx2;replace k0:=k0.mono hx2;replace k1:=k1.mono hx2;replace k2:=k2.mono hx2
  rw [a0h] at k6 ⊢
  rw [h1F hneg] at hg
  rw [← hg] at k6 ⊢
  have hz:=a0l b3
  simp [h0,b3,k6.cells,k6.plain,hsz]
  generalize hS:Array.setIfInBounds _ _ _=G3
  have hsz:=hx.1;replace k0:=k0.setS hS b3 (by decide);replace k1:=k1.setS hS b3 (by decide);replace k2:=k2.setS hS b3 (by decide);replace k6:=k6.setS hS b3 (by decide);replace b0:=a0o hS b0 (by omega);replace b1:=a0o hS b1 (by omega);replace b2:=a0o hS b2 (by omega);replace hx:=a0E hS hx (by omega);replace b3:=a0s hS b3;clear hS hsz
  clear k2
  have k2:=k6
  clear k6
  obtain ⟨s1,rfl⟩:∃ s1,s1=s2:=⟨_,rfl⟩
  simp [u0c,h0,b0,b3]
  refine (b0T k0 ⟨s1,rfl,k2⟩ hx.1 hn (by rw [a0g];exact hgl2) (by rw [a0h];exact hg0)).mono ?_
  rintro _ G2 ⟨⟨_,_,rfl,⟨s3,rfl,k3⟩,k4⟩,hx2⟩
  replace b0:=hx2.blk b0;replace b1:=hx2.blk b1;replace b2:=hx2.blk b2;replace b3:=hx2.blk b3;replace hx:=hx.trans hx2;replace k0:=k0.mono hx2;replace k1:=k1.mono hx2;replace k2:=k2.mono hx2
  rw [a0h] at k3 ⊢
  have hz:=a0l b0
  simp [h0,b0,k3.cells,k3.plain,hz]
  generalize hS:Array.setIfInBounds _ _ _=G3
  have hsz:=hx.1;replace k0:=k0.setS hS b0 (by decide);replace k1:=k1.setS hS b0 (by decide);replace k2:=k2.setS hS b0 (by decide);replace k3:=k3.setS hS b0 (by decide);replace k4:=k4.setS hS b0 (by decide);replace b1:=a0o hS b1 (by omega);replace b2:=a0o hS b2 (by omega);replace b3:=a0o hS b3 (by omega);replace hx:=a0E hS hx (by omega);replace b0:=a0s hS b0;clear hS hsz
  simp [u0d,h0,b1,b3]
  refine (b0T k1 ⟨s1,rfl,k2⟩ hx.1 hm (by rw [a0g];exact hgl2) (by rw [a0h];exact hg0)).mono ?_
  rintro _ G2 ⟨⟨_,_,rfl,⟨s4,rfl,k4⟩,k5⟩,hx2⟩
  replace b0:=hx2.blk b0;replace b1:=hx2.blk b1;replace b2:=hx2.blk b2;replace b3:=hx2.blk b3;replace hx:=hx.trans hx2;replace k0:=k0.mono hx2;replace k1:=k1.mono hx2;replace k2:=k2.mono hx2;replace k3:=k3.mono hx2
  rw [a0h] at k4 ⊢
  have hz:=a0l b1
  simp [h0,b1,k4.cells,k4.plain,hz]
  generalize hS:Array.setIfInBounds _ _ _=G3
  have hsz:=hx.1;replace k0:=k0.setS hS b1 (by decide);replace k1:=k1.setS hS b1 (by decide);replace k2:=k2.setS hS b1 (by decide);replace k3:=k3.setS hS b1 (by decide);replace k4:=k4.setS hS b1 (by decide);replace k5:=k5.setS hS b1 (by decide);replace b0:=a0o hS b0 (by omega);replace b2:=a0o hS b2 (by omega);replace b3:=a0o hS b3 (by omega);replace hx:=a0E hS hx (by omega);replace b1:=a0s hS b1;clear hS hsz
  have hz:=a0l b2
  simp [u0e,h0,b0,b1,b2,k3.cells,k3.plain,k4.cells,k4.plain,hz]
  exact fun _=>⟨s3,s4,rfl,k3.setT b2 (by decide),k4.setT b2 (by decide)⟩
 ·have hcz:¬ c0z (a0z j) 0 < 0:=by unfold c0z;rw [h1C hneg];split <;> omega
  rw [h1C hneg] at hg
  rw [← hg] at k2 b3
  simp [hcz]
  simp [u0c,h0,b0,b3]
  refine (b0T k0 ⟨s1,rfl,k2⟩ hx.1 hn (by rw [a0g];exact hgl2) (by rw [a0h];exact hg0)).mono ?_
  rintro _ G2 ⟨⟨_,_,rfl,⟨s3,rfl,k3⟩,k4⟩,hx2⟩
  replace b0:=hx2.blk b0;replace b1:=hx2.blk b1;replace b2:=hx2.blk b2;replace b3:=hx2.blk b3;replace hx:=hx.trans hx2;replace k0:=k0.mono hx2;replace k1:=k1.mono hx2;replace k2:=k2.mono hx2
  rw [a0h] at k3 ⊢
  have hz:=a0l b0
  simp [h0,b0,k3.cells,k3.plain,hz]
  generalize hS:Array.setIfInBounds _ _ _=G3
  have hsz:=hx.1;replace k0:=k0.setS hS b0 (by decide);replace k1:=k1.setS hS b0 (by decide);replace k2:=k2.setS hS b0 (by decide);replace k3:=k3.setS hS b0 (by decide);replace k4:=k4.setS hS b0 (by decide);replace b1:=a0o hS b1 (by omega);replace b2:=a0o hS b2 (by omega);replace b3:=a0o hS b3 (by omega);replace hx:=a0E hS hx (by omega);replace b0:=a0s hS b0;clear hS hsz
  simp [u0d,h0,b1,b3]
  refine (b0T k1 ⟨s1,rfl,k2⟩ hx.1 hm (by rw [a0g];exact hgl2) (by rw [a0h];exact hg0)).mono ?_
  rintro _ G2 ⟨⟨_,_,rfl,⟨s4,rfl,k4⟩,k5⟩,hx2⟩
  replace b0:=hx2.blk b0;replace b1:=hx2.blk b1;replace b2:=hx2.blk b2;replace b3:=hx2.blk b3;replace hx:=hx.trans hx2;replace k0:=k0.mono hx2;replace k1:=k1.mono hx2;replace k2:=k2.mono hx2;replace k3:=k3.mono hx2
  rw [a0h] at k4 ⊢
  have hz:=a0l b1
  simp [h0,b1,k4.cells,k4.plain,hz]
  generalize hS:Array.setIfInBounds _ _ _=G3
  have hsz:=hx.1;replace k0:=k0.setS hS b1 (by decide);replace k1:=k1.setS hS b1 (by decide);replace k2:=k2.setS hS b1 (by decide);replace k3:=k3.setS hS b1 (by decide);replace k4:=k4.setS hS b1 (by decide);replace k5:=k5.setS hS b1 (by decide);replace b0:=a0o hS b0 (by omega);replace b2:=a0o hS b2 (by omega);replace b3:=a0o hS b3 (by omega);replace hx:=a0E hS hx (by omega);replace b1:=a0s hS b1;clear hS hsz
  have hz:=a0l b2
  simp [u0e,h0,b0,b1,b2,k3.cells,k3.plain,k4.cells,k4.plain,hz]
  exact fun _=>⟨s3,s4,rfl,k3.setT b2 (by decide),k4.setT b2 (by decide)⟩
end
section
open Go
set_option maxHeartbeats 4000000
variable {fl:Nat} {H G:a0f} {R:a0G} {v w:Value} {i j:Bool × List Nat} {a b:b0q}
theorem b0L.p (h:b0L H v a):∃ s u,v=.agg #[.bool a.1.1,s,.bool a.2.1,u]∧Lim H s a.1.2∧Lim H u a.2.2∧b0d H (.agg #[.bool a.1.1,s]) a.1∧b0d H (.agg #[.bool a.2.1,u]) a.2:=by
 obtain ⟨s,u,h1,h2,h3⟩:=h;exact ⟨s,u,h1,h2,h3,⟨s,rfl,h2⟩,⟨u,rfl,h3⟩⟩
theorem b0L.ok (h:b0L H v a):b0u a.1.2∧b0u a.2.2:=by obtain ⟨s,u,_,h2,h3⟩:=h;exact ⟨h2.ok,h3.ok⟩
theorem c0O (x:Rat):lz x.num≤szR x:=by unfold szR;omega
theorem d0m (x:Rat):lz x.den≤szR x:=by unfold szR;omega
theorem i0I (h:b0d H v i) (k:b0d H w j) (hf:fl≤H.size) (hn:i.2.length < 536870912) (hm:j.2.length < 536870912) (hj0:a0z j ≠ 0) :
  a0S env fl X0o [v,w] H (fun r H'=>b0L H' r (a0e (Rat.divInt (a0z i) (a0z j)))∧Ext H H') R:=by
 have k0:=h
 have k1:=k
 obtain ⟨s,rfl,hs⟩:=h
 obtain ⟨u,rfl,hu⟩:=k
 refine a0i h1b hf (h:=?_)
 intro ρ h0
 simp [c1t,T0f,h0]
 generalize hG:Array.push (Array.push (Array.push H _) _) _=G
 have hx:Ext H G:=by rw [← hG];exact (Ext.refl H).push.push.push
 have b0:a0f.blk G H.size=.row false a0a [.bool i.1,s]:=by rw [← hG];simp
 have b1:a0f.blk G (H.size + 1)=.row false a0a [.bool j.1,u]:=by rw [← hG];simp
 have b2:a0f.blk G (H.size + 2)=.row false a0b [.bool false,.slice none 0 0,.bool false,.slice none 0 0]:=by rw [← hG];simp
 clear hG
 replace k0:=k0.mono hx
 replace k1:=k1.mono hx
 simp [T0g,h0,b0,b1]
 refine (d0K k0 k1 hx.1 hn hm hj0).mono ?_
 rintro _ G2 ⟨⟨q,rfl,s1,s2,rfl,k2,k3⟩,hx2⟩
 replace b2:=hx2.blk b2;replace hx:=hx.trans hx2
 have hsz:=hx.1
 simp [h0,k2.cells,k2.plain,k3.cells,k3.plain,hsz]
 generalize hN:Array.setIfInBounds (Array.push _ _) _ _=G3
 obtain ⟨hx2,b3⟩:=new1 hN
 clear hN
 replace b2:=hx2.blk b2;replace hx:=hx.trans hx2;replace k2:=k2.mono hx2;replace k3:=k3.mono hx2
 have hz:=a0l b2
 simp [T0h,h0,b2,b3,k2.cells,k2.plain,k3.cells,k3.plain,hz]
 exact fun _=>⟨s1,s2,rfl,k2.setT b2 (by decide),k3.setT b2 (by decide)⟩
def x0O (H:a0f) (v:Value) (l:List (Bool × List Nat)):Prop :=
 ∃ cs,Sl H a0a 2 v l.length cs∧∀ k,(h:k < l.length)→b0d H (.agg ((cs.drop (k * 2)).take 2).toArray) l[k]
theorem k0E (h:b0d H v i) (hl:b0d H w j) {c:Nat} {p:Nat} (hb:H.blk p=.row false a0a (a0U w)) (hf:fl≤H.size) (hn:i.2.length < 536870912) (hm:j.2.length < 536870912) :
  a0S env fl Y0X [.func (.func K0s) #[] #[],v,.slice (some ⟨p,0,none⟩) 1 c] H (fun r H'=>b0d H' r (a0j (a0z i + a0z j))∧Ext H H') R:=by
 have k0:=h
 have k1:=hl
 obtain ⟨s,rfl,hs⟩:=h
 obtain ⟨u,rfl,hu⟩:=hl
 simp at hb
 refine a0i h1d hf (h:=?_)
 intro ρ h0
 have hpl:=a0l hb
 simp [c1u,T0i,T0j,h0,i0r]
 generalize hG:Array.push (Array.push H _) _=G
 have hx2:Ext H G:=by rw [← hG];exact (Ext.refl H).push.push
 have b0:a0f.blk G H.size=.row false a0a [.bool i.1,s]:=by rw [← hG];simp
 have b1:a0f.blk G (H.size + 1)=.row false a0a [.bool false,.slice none 0 0]:=by rw [← hG];simp
 have b2:a0f.blk G p=.row false a0a [.bool j.1,u]:=hx2.blk hb
 have hx:=hx2
 clear hG
 replace k0:=k0.mono hx2
 replace k1:=k1.mono hx2
 clear hb
 refine b0Y (fun c' t G=>∃ n:Nat,n + c' = 1∧t.length=21∧get t 0=.func (.func K0s) #[] #[]∧get t 4=.pointer (some ⟨H.size,0,none⟩)∧get t 6=.pointer (some ⟨H.size + 1,0,none⟩)∧get t 9=.slice (some ⟨p,0,none⟩) 1 c∧get t 10=.int .i64 1∧get t 11=.int .i64 (n:Int) ∧
   Ext H G∧a0f.blk G (H.size + 1)=.row false a0a [.bool false,.slice none 0 0] ∧
   (n=0→a0f.blk G H.size=.row false a0a [.bool i.1,s]∧a0f.blk G p=.row false a0a [.bool j.1,u]∧b0d G (.agg #[.bool i.1,s]) i∧b0d G (.agg #[.bool j.1,u]) j) ∧
   (n=1→∃ s2,a0f.blk G H.size=.row false a0a [.bool (a0j (a0z i + a0z j)).1,s2]∧Lim G s2 (a0j (a0z i + a0z j)).2))
  (fun t G=>∃ s2,t.length=21∧get t 4=.pointer (some ⟨H.size,0,none⟩)∧get t 6=.pointer (some ⟨H.size + 1,0,none⟩)∧Ext H G∧a0f.blk G (H.size + 1)=.row false a0a [.bool false,.slice none 0 0] ∧
   a0f.blk G H.size=.row false a0a [.bool (a0j (a0z i + a0z j)).1,s2]∧Lim G s2 (a0j (a0z i + a0z j)).2) 1 ?_ ?_ ?_
 ·exact ⟨0,rfl,by simp,by simp [h0],by simp,by simp,by simp [h0],by simp,by simp,hx,b1,fun _=>⟨b0,b2,k0,k1⟩,by omega⟩
 ·clear h0 ρ k0 k1 b0 b1 b2 hx hx2 G
  rintro c' t G ⟨n,hnc,ht,g0,g4,g6,g9,g10,g11,hx,b1,hc0,hc1⟩
  obtain ⟨ρ,rfl⟩:=toT ht
  simp only [b0V,Nat.reduceLT] at g0 g4 g6 g9 g10 g11
  by_cases hn0:n=0
  ·subst hn0
   obtain ⟨b0,b2,k0,k1⟩:=hc0 rfl
   have hlt:=hx.1
   have hbl:=a0l b1
   have e9:IntKind.i64.wrap ((0:Int) + 1)=1:=by decide
   simp [J0x,T0k,g0,g4,g6,g9,g10,g11,iaV,b2]
   have hc:(a0U (Value.agg #[.bool j.1,u])).length=2:=rfl
   simp [hu.cells,hu.plain,hlt]
   generalize hN:Array.setIfInBounds (Array.push _ _) _ _=G3
   obtain ⟨hx2,b3⟩:=new1 hN
   clear hN
   replace b0:=hx2.blk b0;replace b1:=hx2.blk b1;replace b2:=hx2.blk b2;replace hx:=hx.trans hx2;replace k0:=k0.mono hx2;replace k1:=k1.mono hx2
   simp [T0l,T0m,g0,g4,g6,g9,g10,g11,b0,b3]
   refine (f0c k0 k1 hx.1 hn hm).mono ?_
   rintro _ G2 ⟨⟨s2,rfl,k2⟩,hx2⟩
   replace b0:=hx2.blk b0;replace b1:=hx2.blk b1;replace b2:=hx2.blk b2;replace hx:=hx.trans hx2;replace k0:=k0.mono hx2;replace k1:=k1.mono hx2
   have hz:=a0l b0
   simp [g0,g4,g6,g9,g10,g11,b0,k2.cells,k2.plain,hz,e9]
   exact ⟨0,by omega,1,rfl,rfl,hx.set (by omega),b1,by omega,fun _=>k2.setT b0 (by decide)⟩
  ·have:n=1:=by omega
   subst this
   obtain ⟨s2,b0,k0⟩:=hc1 rfl
   simp [J0x,g0,g4,g6,g9,g10,g11]
   exact ⟨hx,b1,s2,b0,k0⟩
 ·clear h0 ρ k0 k1 b0 b1 b2 hx hx2 G
  rintro t G ⟨s2,ht,g4,g6,hx,b1,b0,k0⟩
  obtain ⟨ρ,rfl⟩:=toT ht
  simp only [b0V,Nat.reduceLT] at g4 g6
  have hz:=a0l b1
  simp [T0n,g4,g6,b0,b1,k0.cells,k0.plain,hz]
  exact fun _=>⟨s2,rfl,k0.setT b1 (by decide)⟩
theorem c0j (h:b0L H v a) (k:b0L H w b) (hf:fl≤H.size) (hn:d0W a < 67108864) (hm:d0W b < 67108864) :
  a0S env fl v0X [v,w] H (fun r H'=>b0L H' r (a0e (b0o a + b0o b))∧Ext H H') R:=by
 have k0:=h
 have k1:=k
 obtain ⟨s,u,rfl,hs,hu⟩:=h
 obtain ⟨s',u',rfl,hs',hu'⟩:=k
 refine a0i g1E hf (h:=?_)
 intro ρ h0
 simp [b1W,R0i,h0]
 generalize hG:Array.push (Array.push (Array.push H _) _) _=G
 have hx:Ext H G:=by rw [← hG];exact (Ext.refl H).push.push.push
 have b0:a0f.blk G H.size=.row false a0b [.bool a.1.1,s,.bool a.2.1,u]:=by rw [← hG];simp
 have b1:a0f.blk G (H.size + 1)=.row false a0b [.bool b.1.1,s',.bool b.2.1,u']:=by rw [← hG];simp
 have b2:a0f.blk G (H.size + 2)=.row false a0b [.bool false,.slice none 0 0,.bool false,.slice none 0 0]:=by rw [← hG];simp
 clear hG
 replace k0:=k0.mono hx
 replace k1:=k1.mono hx
 have sa:=b0E k0.ok.1 k0.ok.2
 have sb:=b0E k1.ok.1 k1.ok.2
 refine a0B ?_
 simp [R0j,h0,b0,b1]
 refine (b0K k0 (by have:=hx.1;omega) (by omega)).mono ?_
 rintro _ G2 ⟨⟨s1,s2,rfl,k2,k3⟩,hx2⟩
 replace b0:=hx2.blk b0;replace b1:=hx2.blk b1;replace b2:=hx2.blk b2;replace hx:=hx.trans hx2;replace k0:=k0.mono hx2;replace k1:=k1.mono hx2
 simp [h0,b1]
 refine (b0K k1 hx.1 (by omega)).mono ?_
 rintro _ G2 ⟨⟨s3,s4,rfl,k4,k5⟩,hx2⟩
 replace b0:=hx2.blk b0;replace b1:=hx2.blk b1;replace b2:=hx2.blk b2;replace hx:=hx.trans hx2;replace k0:=k0.mono hx2;replace k1:=k1.mono hx2;replace k2:=k2.mono hx2;replace k3:=k3.mono hx2
 clear k0 k1
 have hz0:=a0l b0
 simp [h0,b0,k2.cells,k2.plain,k3.cells,k3.plain,hz0]
 generalize hS:Array.setIfInBounds _ _ _=G3
 have hsz:=hx.1;replace k2:=k2.setS hS b0 (by decide);replace k3:=k3.setS hS b0 (by decide);replace k4:=k4.setS hS b0 (by decide);replace k5:=k5.setS hS b0 (by decide);replace b1:=a0o hS b1 (by omega);replace b2:=a0o hS b2 (by omega);replace hx:=a0E hS hx (by omega);replace b0:=a0s hS b0;clear hS hsz
 have hz0:=a0l b1
 simp [b1,k4.cells,k4.plain,k5.cells,k5.plain,hz0]
 generalize hS:Array.setIfInBounds _ _ _=G3
 have hsz:=hx.1;replace k2:=k2.setS hS b1 (by decide);replace k3:=k3.setS hS b1 (by decide);replace k4:=k4.setS hS b1 (by decide);replace k5:=k5.setS hS b1 (by decide);replace b0:=a0o hS b0 (by omega);replace b2:=a0o hS b2 (by omega);replace hx:=a0E hS hx (by omega);replace b1:=a0s hS b1;clear hS hsz
 obtain ⟨x,hxv⟩:∃ x,x=b0o a:=⟨_,rfl⟩
 obtain ⟨y,hyv⟩:∃ y,y=b0o b:=⟨_,rfl⟩
 rw [← hxv] at sa k2 k3 b0 ⊢
 rw [← hyv] at sb k4 k5 b1 ⊢
 have k0:b0d _ (.agg #[.bool (a0e x).1.1,s1]) (a0j x.num):=⟨s1,rfl,k2⟩
 have k1:b0d _ (.agg #[.bool (a0e x).2.1,s2]) (a0j x.den):=⟨s2,rfl,k3⟩
 have k6:b0d _ (.agg #[.bool (a0e y).1.1,s3]) (a0j y.num):=⟨s3,rfl,k4⟩
 have k7:b0d _ (.agg #[.bool (a0e y).2.1,s4]) (a0j y.den):=⟨s4,rfl,k5⟩
 have l1:=c0O x
 have l2:=d0m x
 have l3:=c0O y
 have l4:=d0m y
 clear hs hu hs' hu' k2 k3 k4 k5
 refine a0B ?_
 simp [R0k,h0,b0,b1]
 refine (b0w k0 k7 (by have:=hx.1;omega) (by rw [a0g];omega) (by rw [a0g];omega)).mono ?_
 rintro _ G2 ⟨k2,hx2⟩
 replace b0:=hx2.blk b0;replace b1:=hx2.blk b1;replace b2:=hx2.blk b2;replace hx:=hx.trans hx2;replace k1:=k1.mono hx2;replace k6:=k6.mono hx2;replace k7:=k7.mono hx2
 rw [a0h,a0h] at k2
 simp [h0,b0,b1]
 refine (b0w k6 k1 (by have:=hx.1;omega) (by rw [a0g];omega) (by rw [a0g];omega)).mono ?_
 rintro _ G2 ⟨k3,hx2⟩
 replace b0:=hx2.blk b0;replace b1:=hx2.blk b1;replace b2:=hx2.blk b2;replace hx:=hx.trans hx2;replace k1:=k1.mono hx2;replace k2:=k2.mono hx2;replace k6:=k6.mono hx2;replace k7:=k7.mono hx2
 rw [a0h,a0h] at k3
 obtain ⟨s5,hk3,k3'⟩:=k3
 subst hk3
 simp [h0,k3'.cells]
 generalize hN:Array.push _ _=G3
 obtain ⟨hx2,b3⟩:=g0r hN
 have hGs:G3.size=G2.size + 1:=by rw [← hN];simp
 clear hN
 have k3:b0d G2 (.agg #[.bool (a0j (y.num * x.den)).1,s5]) (a0j (y.num * x.den)):=⟨s5,rfl,k3'⟩
 replace b0:=hx2.blk b0;replace b1:=hx2.blk b1;replace b2:=hx2.blk b2;replace hx:=hx.trans hx2;replace k1:=k1.mono hx2;replace k2:=k2.mono hx2;replace k3:=k3.mono hx2;replace k6:=k6.mono hx2;replace k7:=k7.mono hx2
 have m1:=c0a x.num y.den
 have m2:=c0a y.num x.den
 refine (k0E k2 k3 (by simpa using b3) (by have:=hx.1;omega) (by rw [a0g];omega) (by rw [a0g];omega)).mono ?_
 rintro _ G2 ⟨k4,hx2⟩
 replace b0:=hx2.blk b0;replace b1:=hx2.blk b1;replace b2:=hx2.blk b2;replace hx:=hx.trans hx2;replace k1:=k1.mono hx2;replace k6:=k6.mono hx2;replace k7:=k7.mono hx2
 rw [a0h,a0h] at k4
 simp [h0,b0,b1]
 refine (b0w k1 k7 hx.1 (by rw [a0g];omega) (by rw [a0g];omega)).mono ?_
 rintro _ G2 ⟨k5,hx2⟩
 replace b2:=hx2.blk b2;replace hx:=hx.trans hx2;replace k4:=k4.mono hx2;replace k6:=k6.mono hx2;replace k7:=k7.mono hx2
 rw [a0h,a0h] at k5
 simp [h0]
 have m3:=o0s (x.num * y.den) (y.num * x.den)
 have m4:=c0a (x.den:Int) y.den
 refine (i0I k4 k5 hx.1 (by rw [a0g];omega) (by rw [a0g];omega) (by rw [a0h];have:=x.den_nz;have:=y.den_nz;exact j1W (by omega) (by omega))).mono ?_
 rintro _ G2 ⟨⟨s6,s7,rfl,k6,k7⟩,hx2⟩
 replace b2:=hx2.blk b2;replace hx:=hx.trans hx2
 rw [a0h,a0h,← k0d] at k6 k7 ⊢
 have hz:=a0l b2
 simp [h0,b2,k6.cells,k6.plain,k7.cells,k7.plain,hz]
 exact fun _=>⟨s6,s7,rfl,k6.setT b2 (by decide),k7.setT b2 (by decide)⟩
theorem h0w (h:b0L H v a) (k:b0L H w b) (hf:fl≤H.size) (hn:d0W a < 67108864) (hm:d0W b < 67108864) :
  a0S env fl V0l [v,w] H (fun r H'=>b0L H' r (a0e (b0o a * b0o b))∧Ext H H') R:=by
 have k0:=h
 have k1:=k
 obtain ⟨s,u,rfl,hs,hu⟩:=h
 obtain ⟨s',u',rfl,hs',hu'⟩:=k
 refine a0i h1h hf (h:=?_)
 intro ρ h0
 simp [c1y,T0F,h0]
 generalize hG:Array.push (Array.push (Array.push H _) _) _=G
 have hx:Ext H G:=by rw [← hG];exact (Ext.refl H).push.push.push
 have b0:a0f.blk G H.size=.row false a0b [.bool a.1.1,s,.bool a.2.1,u]:=by rw [← hG];simp
 have b1:a0f.blk G (H.size + 1)=.row false a0b [.bool b.1.1,s',.bool b.2.1,u']:=by rw [← hG];simp
 have b2:a0f.blk G (H.size + 2)=.row false a0b [.bool false,.slice none 0 0,.bool false,.slice none 0 0]:=by rw [← hG];simp
 clear hG
 replace k0:=k0.mono hx
 replace k1:=k1.mono hx
 have sa:=b0E k0.ok.1 k0.ok.2
 have sb:=b0E k1.ok.1 k1.ok.2
 refine a0B ?_
 simp [T0G,h0,b0,b1]
 refine (b0K k0 (by have:=hx.1;omega) (by omega)).mono ?_
 rintro _ G2 ⟨⟨s1,s2,rfl,k2,k3⟩,hx2⟩
 replace b0:=hx2.blk b0;replace b1:=hx2.blk b1;replace b2:=hx2.blk b2;replace hx:=hx.trans hx2;replace k0:=k0.mono hx2;replace k1:=k1.mono hx2
 simp [h0,b1]
 refine (b0K k1 hx.1 (by omega)).mono ?_
 rintro _ G2 ⟨⟨s3,s4,rfl,k4,k5⟩,hx2⟩
 replace b0:=hx2.blk b0;replace b1:=hx2.blk b1;replace b2:=hx2.blk b2;replace hx:=hx.trans hx2;replace k0:=k0.mono hx2;replace k1:=k1.mono hx2;replace k2:=k2.mono hx2;replace k3:=k3.mono hx2
 clear k0 k1
 have hz0:=a0l b0
 simp [h0,b0,k2.cells,k2.plain,k3.cells,k3.plain,hz0]
 generalize hS:Array.setIfInBounds _ _ _=G3
 have hsz:=hx.1;replace k2:=k2.setS hS b0 (by decide);replace k3:=k3.setS hS b0 (by decide);replace k4:=k4.setS hS b0 (by decide);replace k5:=k5.setS hS b0 (by decide);replace b1:=a0o hS b1 (by omega);replace b2:=a0o hS b2 (by omega);replace hx:=a0E hS hx (by omega);replace b0:=a0s hS b0;clear hS hsz
 have hz0:=a0l b1
 simp [b1,k4.cells,k4.plain,k5.cells,k5.plain,hz0]
 generalize hS:Array.setIfInBounds _ _ _=G3
 have hsz:=hx.1;replace k2:=k2.setS hS b1 (by decide);replace k3:=k3.setS hS b1 (by decide);replace k4:=k4.setS hS b1 (by decide);replace k5:=k5.setS hS b1 (by decide);replace b0:=a0o hS b0 (by omega);replace b2:=a0o hS b2 (by omega);replace hx:=a0E hS hx (by omega);replace b1:=a0s hS b1;clear hS hsz
 obtain ⟨x,hxv⟩:∃ x,x=b0o a:=⟨_,rfl⟩
 obtain ⟨y,hyv⟩:∃ y,y=b0o b:=⟨_,rfl⟩
 rw [← hxv] at sa k2 k3 b0 ⊢
 rw [← hyv] at sb k4 k5 b1 ⊢
 have k0:b0d _ (.agg #[.bool (a0e x).1.1,s1]) (a0j x.num):=⟨s1,rfl,k2⟩
 have k1:b0d _ (.agg #[.bool (a0e x).2.1,s2]) (a0j x.den):=⟨s2,rfl,k3⟩
 have k6:b0d _ (.agg #[.bool (a0e y).1.1,s3]) (a0j y.num):=⟨s3,rfl,k4⟩
 have k7:b0d _ (.agg #[.bool (a0e y).2.1,s4]) (a0j y.den):=⟨s4,rfl,k5⟩
 have l1:=c0O x
 have l2:=d0m x
 have l3:=c0O y
 have l4:=d0m y
 clear hs hu hs' hu' k2 k3 k4 k5
 refine a0B ?_
 simp [T0H,h0,b0,b1]
 refine (b0w k0 k6 (by have:=hx.1;omega) (by rw [a0g];omega) (by rw [a0g];omega)).mono ?_
 rintro _ G2 ⟨k2,hx2⟩
 replace b0:=hx2.blk b0;replace b1:=hx2.blk b1;replace b2:=hx2.blk b2;replace hx:=hx.trans hx2;replace k1:=k1.mono hx2;replace k6:=k6.mono hx2;replace k7:=k7.mono hx2
 rw [a0h,a0h] at k2
 simp [h0,b0,b1]
 refine (b0w k1 k7 hx.1 (by rw [a0g];omega) (by rw [a0g];omega)).mono ?_
 rintro _ G2 ⟨k5,hx2⟩
 replace b2:=hx2.blk b2;replace hx:=hx.trans hx2;replace k2:=k2.mono hx2;replace k6:=k6.mono hx2;replace k7:=k7.mono hx2
 rw [a0h,a0h] at k5
 simp [h0]
 have m3:=c0a x.num y.num
 have m4:=c0a (x.den:Int) y.den
 refine (i0I k2 k5 hx.1 (by rw [a0g];omega) (by rw [a0g];omega) (by rw [a0h];have:=x.den_nz;have:=y.den_nz;exact j1W (by omega) (by omega))).mono ?_
 rintro _ G2 ⟨⟨s6,s7,rfl,k6,k7⟩,hx2⟩
 replace b2:=hx2.blk b2;replace hx:=hx.trans hx2
 rw [a0h,a0h,← k0p] at k6 k7 ⊢
 have hz:=a0l b2
 simp [h0,b2,k6.cells,k6.plain,k7.cells,k7.plain,hz]
 exact fun _=>⟨s6,s7,rfl,k6.setT b2 (by decide),k7.setT b2 (by decide)⟩
theorem s0I (h:b0L H v a) (k:b0L H w b) (hf:fl≤H.size) (hn:d0W a < 67108864) (hm:d0W b < 67108864) :
  a0S env fl Y0Y [v,w] H (fun r H'=>r=.int .i64 (t0o (b0o a) (b0o b))∧Ext H H') R:=by
 have k0:=h
 have k1:=k
 obtain ⟨s,u,rfl,hs,hu⟩:=h
 obtain ⟨s',u',rfl,hs',hu'⟩:=k
 refine a0i h1j hf (h:=?_)
 intro ρ h0
 simp [c1A,T0N,h0]
 generalize hG:Array.push (Array.push H _) _=G
 have hx:Ext H G:=by rw [← hG];exact (Ext.refl H).push.push
 have b0:a0f.blk G H.size=.row false a0b [.bool a.1.1,s,.bool a.2.1,u]:=by rw [← hG];simp
 have b1:a0f.blk G (H.size + 1)=.row false a0b [.bool b.1.1,s',.bool b.2.1,u']:=by rw [← hG];simp
 clear hG
 replace k0:=k0.mono hx
 replace k1:=k1.mono hx
 have sa:=b0E k0.ok.1 k0.ok.2
 have sb:=b0E k1.ok.1 k1.ok.2
 refine a0B ?_
 simp [T0O,h0,b0,b1]
 refine (b0K k0 (by have:=hx.1;omega) (by omega)).mono ?_
 rintro _ G2 ⟨⟨s1,s2,rfl,k2,k3⟩,hx2⟩
 replace b0:=hx2.blk b0;replace b1:=hx2.blk b1;replace hx:=hx.trans hx2;replace k0:=k0.mono hx2;replace k1:=k1.mono hx2
 simp [h0,b1]
 refine (b0K k1 hx.1 (by omega)).mono ?_
 rintro _ G2 ⟨⟨s3,s4,rfl,k4,k5⟩,hx2⟩
 replace b0:=hx2.blk b0;replace b1:=hx2.blk b1;replace hx:=hx.trans hx2;replace k0:=k0.mono hx2;replace k1:=k1.mono hx2;replace k2:=k2.mono hx2;replace k3:=k3.mono hx2
 clear k0 k1
 have hz0:=a0l b0
 simp [h0,b0,k2.cells,k2.plain,k3.cells,k3.plain,hz0]
 generalize hS:Array.setIfInBounds _ _ _=G3
 have hsz:=hx.1;replace k2:=k2.setS hS b0 (by decide);replace k3:=k3.setS hS b0 (by decide);replace k4:=k4.setS hS b0 (by decide);replace k5:=k5.setS hS b0 (by decide);replace b1:=a0o hS b1 (by omega);replace hx:=a0E hS hx (by omega);replace b0:=a0s hS b0;clear hS hsz
 have hz0:=a0l b1
 simp [b1,k4.cells,k4.plain,k5.cells,k5.plain,hz0]
 generalize hS:Array.setIfInBounds _ _ _=G3
 have hsz:=hx.1;replace k2:=k2.setS hS b1 (by decide);replace k3:=k3.setS hS b1 (by decide);replace k4:=k4.setS hS b1 (by decide);replace k5:=k5.setS hS b1 (by decide);replace b0:=a0o hS b0 (by omega);replace hx:=a0E hS hx (by omega);replace b1:=a0s hS b1;clear hS hsz
 obtain ⟨x,hxv⟩:∃ x,x=b0o a:=⟨_,rfl⟩
 obtain ⟨y,hyv⟩:∃ y,y=b0o b:=⟨_,rfl⟩
 rw [← hxv] at sa k2 k3 b0 ⊢
 rw [← hyv] at sb k4 k5 b1 ⊢
 have k0:b0d _ (.agg #[.bool (a0e x).1.1,s1]) (a0j x.num):=⟨s1,rfl,k2⟩
 have k1:b0d _ (.agg #[.bool (a0e x).2.1,s2]) (a0j x.den):=⟨s2,rfl,k3⟩
 have k6:b0d _ (.agg #[.bool (a0e y).1.1,s3]) (a0j y.num):=⟨s3,rfl,k4⟩
 have k7:b0d _ (.agg #[.bool (a0e y).2.1,s4]) (a0j y.den):=⟨s4,rfl,k5⟩
 have l1:=c0O x
 have l2:=d0m x
 have l3:=c0O y
 have l4:=d0m y
 clear hs hu hs' hu' k2 k3 k4 k5
 refine a0B ?_
 simp [T0P,h0,b0,b1]
 refine (b0w k0 k7 (by have:=hx.1;omega) (by rw [a0g];omega) (by rw [a0g];omega)).mono ?_
 rintro _ G2 ⟨k2,hx2⟩
 replace b0:=hx2.blk b0;replace b1:=hx2.blk b1;replace hx:=hx.trans hx2;replace k1:=k1.mono hx2;replace k6:=k6.mono hx2
 rw [a0h,a0h] at k2
 simp [h0,b0,b1]
 refine (b0w k6 k1 hx.1 (by rw [a0g];omega) (by rw [a0g];omega)).mono ?_
 rintro _ G2 ⟨k5,hx2⟩
 replace hx:=hx.trans hx2;replace k2:=k2.mono hx2
 rw [a0h,a0h] at k5
 simp [h0]
 have m3:=c0a x.num y.den
 have m4:=c0a y.num x.den
 refine (c0V k2 k5 hx.1 (by rw [a0g];omega) (by rw [a0g];omega)).mono ?_
 rintro _ G2 ⟨rfl,hx2⟩
 rw [a0h,a0h,z0U]
 simp
theorem e0S {n:Int} (hf:fl≤H.size) (h1:-9223372036854775808≤n) (h2:n < 9223372036854775808) :
  a0S env fl z0u [.int .i64 n] H (fun r H'=>b0L H' r (a0e (n:Rat))∧Ext H H') R:=by
 refine a0i h1g hf (h:=?_)
 intro ρ h0
 simp [c1x,T0D,T0E,h0]
 have hx:=(Ext.refl H).push (r:=.row false a0b [.bool false,.slice none 0 0,.bool false,.slice none 0 0])
 have b2:a0f.blk (Array.push H (.row false a0b [.bool false,.slice none 0 0,.bool false,.slice none 0 0])) H.size=_:=a0C
 generalize Array.push H _=G at *
 refine (c0W hx.1 h1 h2).mono ?_
 rintro _ G2 ⟨⟨s1,rfl,k2⟩,hx2⟩
 replace b2:=hx2.blk b2;replace hx:=hx.trans hx2
 simp [h0]
 refine (f0l hx.1).mono ?_
 rintro _ G2 ⟨⟨s2,rfl,k3⟩,hx2⟩
 replace b2:=hx2.blk b2;replace hx:=hx.trans hx2;replace k2:=k2.mono hx2
 have hz:=a0l b2
 simp [h0,b2,k2.cells,k2.plain,k3.cells,k3.plain,hz]
 refine fun _=>⟨s1,s2,?_,?_,?_⟩
 ·unfold a0e;rw [k1A,k1y];rfl
 ·unfold a0e;rw [k1A];exact k2.setT b2 (by decide)
 ·unfold a0e;rw [k1y];exact k3.setT b2 (by decide)
end
section
open Go
set_option maxHeartbeats 4000000
variable {fl:Nat} {H G:a0f} {R:a0G} {v w:Value} {a b:b0q}
abbrev d0h:=Int × b0q
def i0w (H:a0f) (v:Value) (e:d0h):Prop:=∃ s u,v=.agg #[.int .i64 e.1,.bool e.2.1.1,s,.bool e.2.2.1,u]∧Lim H s e.2.1.2∧Lim H u e.2.2.2
variable {e f:d0h}
theorem i0w.mono (h:i0w H v e) (hx:Ext H G):i0w G v e:=by obtain ⟨s,u,h1,h2,h3⟩:=h;exact ⟨s,u,h1,h2.mono hx,h3.mono hx⟩
theorem i0w.setT (h:i0w H v e) {p:Nat} {ro:Bool} {e':TypeId} {cs':List Value} {r:Blk} (hb:H.blk p=.row ro e' cs') (hne:e' ≠ a0k):i0w (H.setIfInBounds p r) v e:=by
 obtain ⟨s,u,h1,h2,h3⟩:=h;exact ⟨s,u,h1,h2.setT hb hne,h3.setT hb hne⟩
theorem i0w.setS {G3:a0f} {q:Nat} {X:Blk} {ro:Bool} {e':TypeId} {cs:List Value} (k:i0w H v e) (hS:Array.setIfInBounds H q X=G3) (hb:a0f.blk H q=.row ro e' cs) (hne:e' ≠ a0k):i0w G3 v e:=by rw [← hS];exact k.setT hb hne
theorem i0w.ok (h:i0w H v e):b0u e.2.1.2∧b0u e.2.2.2:=by obtain ⟨s,u,_,h2,h3⟩:=h;exact ⟨h2.ok,h3.ok⟩
def m0n (e:d0h):Bool:=if e.1 = -1 ∨ e.1=1 then d0F e.2 else if e.1=0 then l0D e.2 else false
def i0u (e:d0h):Int × Rat:=if m0n e then (if e.1=0 then (0,b0o e.2) else (e.1,0)) else (0,0)
def c0l (x:Int × Rat):d0h:=if x.1=0 then (0,a0e x.2) else (x.1,((false,[]),(false,[])))
def K0r (x y:Int × Rat):Int:=if x.1 < y.1 then -1 else if x.1 > y.1 then 1 else if x.1 ≠ 0 then 0 else t0o x.2 y.2
def d0P:b0q:=((false,[]),(false,[]))
theorem z0r:d0F d0P=true:=rfl
theorem c0C:b0o d0P=0:=by unfold b0o;rw [z0r];rfl
theorem e0T:b0L H (.agg #[.bool false,.slice none 0 0,.bool false,.slice none 0 0]) d0P:=⟨_,_,rfl,Lim.nil,Lim.nil⟩
theorem j0o (h:b0L H v a) (hf:fl≤H.size):a0S env fl Z0b [v] H (fun r H'=>r=.bool (d0F a)∧Ext H H') R:=by
 obtain ⟨s,u,rfl,hs,hu⟩:=h
 refine a0i h1o hf (h:=?_)
 intro ρ h0
 simp [c1F,U0c,h0]
 have hsl:=hs.slen
 have hul:=hu.slen
 cases h1:a.1.1
 ·by_cases h2:a.1.2=[]
  ·cases h3:a.2.1
   ·simp [s0H,h0,h1,h2,h3,hsl,hul,d0F]
   ·simp [s0H,h0,h1,h2,h3,hsl,hul,d0F]
  ·simp [s0H,h0,h1,h2,hsl,hul,d0F]
 ·simp [s0H,h0,h1,hsl,hul,d0F]
theorem k0T (h:i0w H v e) (hf:fl≤H.size) (hn:d0W e.2 < 67108864):a0S env fl X0k [v] H (fun r H'=>r=.bool (m0n e)∧Ext H H') R:=by
 obtain ⟨s,u,rfl,hs,hu⟩:=h
 have k0:b0L H (.agg #[.bool e.2.1.1,s,.bool e.2.2.1,u]) e.2:=⟨s,u,rfl,hs,hu⟩
 refine a0i g1N hf (h:=?_)
 intro ρ h0
 simp [c1f,R0W,R0X,R0Y,h0]
 generalize hG:Array.push H _=G
 obtain ⟨hx2,b0⟩:=g0r hG
 have hx:=Ext.refl H
 clear hG
 replace hx:=hx.trans hx2;replace k0:=k0.mono hx2
 unfold m0n
 by_cases h1:e.1 = -1
 ·simp [h1,J0m,h0,b0]
  refine (j0o k0 hx.1).mono ?_
  rintro _ G2 ⟨rfl,hx2⟩
  simp
 ·by_cases h2:e.1=1
  ·simp [h2,x0y,J0m,h0,b0]
   refine (j0o k0 hx.1).mono ?_
   rintro _ G2 ⟨rfl,hx2⟩
   simp
  ·by_cases h3:e.1=0
   ·simp [h3,x0y,J0n,R0Z,h0,b0]
    refine (h0v k0 hx.1 (by omega)).mono ?_
    rintro _ G2 ⟨rfl,hx2⟩
    simp
   ·simp [h1,h2,h3,x0y,J0n,S0a,h0,b0]
theorem i0P (h:b0L H v a) (hf:fl≤H.size) (hn:d0W a < 67108864):a0S env fl V0k [v] H (fun r H'=>i0w H' r (0,a0e (b0o a))∧Ext H H') R:=by
 have k0:=h
 obtain ⟨s,u,rfl,hs,hu⟩:=h
 refine a0i g1G hf (h:=?_)
 intro ρ h0
 simp [b1Y,R0y,R0z,h0]
 generalize hG:Array.push (Array.push H _) _=G
 have hx2:Ext H G:=by rw [← hG];exact (Ext.refl H).push.push
 have b0:a0f.blk G H.size=.row false a0b [.bool a.1.1,s,.bool a.2.1,u]:=by rw [← hG];simp
 have b1:a0f.blk G (H.size + 1)=.row false b0v [.int .i64 0,.bool false,.slice none 0 0,.bool false,.slice none 0 0]:=by rw [← hG];simp
 have hx:=Ext.refl H
 clear hG
 replace hx:=hx.trans hx2;replace k0:=k0.mono hx2
 try simp [b0]
 refine (c0j k0 (b:=d0P) e0T hx.1 hn (by decide)).mono ?_
 rintro _ G2 ⟨⟨s1,s2,rfl,k2,k3⟩,hx2⟩
 replace b1:=hx2.blk b1;replace hx:=hx.trans hx2
 rw [c0C,j1O] at k2 k3 ⊢
 have hz:=a0l b1
 simp [h0,b1,k2.cells,k2.plain,k3.cells,k3.plain,hz]
 exact fun _=>⟨s1,s2,rfl,k2.setT b1 (by decide),k3.setT b1 (by decide)⟩
theorem i0B (h:i0w H v e) (hf:fl≤H.size) (hn:d0W e.2 < 67108864):a0S env fl X0p [v] H (fun r H'=>i0w H' r (c0l (i0u e))∧Ext H H') R:=by
 have k0:=h
 obtain ⟨s,u,rfl,hs,hu⟩:=h
 have k1:b0L H (.agg #[.bool e.2.1.1,s,.bool e.2.2.1,u]) e.2:=⟨s,u,rfl,hs,hu⟩
 refine a0i h1i hf (h:=?_)
 intro ρ h0
 simp [c1z,T0I,h0]
 generalize hG:Array.push (Array.push H _) _=G
 have hx2:Ext H G:=by rw [← hG];exact (Ext.refl H).push.push
 have b0:a0f.blk G H.size=.row false b0v [.int .i64 e.1,.bool e.2.1.1,s,.bool e.2.2.1,u]:=by rw [← hG];simp
 have b1:a0f.blk G (H.size + 1)=.row false b0v [.int .i64 0,.bool false,.slice none 0 0,.bool false,.slice none 0 0]:=by rw [← hG];simp
 have hx:=Ext.refl H
 clear hG
 replace hx:=hx.trans hx2;replace k0:=k0.mono hx2;replace k1:=k1.mono hx2
 simp [T0J,h0,b0]
 refine (k0T k0 hx.1 hn).mono ?_
 rintro _ G2 ⟨rfl,hx2⟩
 replace b0:=hx2.blk b0;replace b1:=hx2.blk b1;replace hx:=hx.trans hx2;replace k1:=k1.mono hx2
 unfold i0u
 cases hm:m0n e
 ·simp [T0K,h0]
  refine (i0P (a:=d0P) e0T hx.1 (by decide)).mono ?_
  rintro _ G2 ⟨⟨s1,s2,rfl,k2,k3⟩,hx2⟩
  replace b0:=hx2.blk b0;replace b1:=hx2.blk b1;replace hx:=hx.trans hx2;replace k1:=k1.mono hx2
  rw [c0C] at k2 k3 ⊢
  have hz:=a0l b1
  simp [h0,b1,k2.cells,k2.plain,k3.cells,k3.plain,hz,c0l]
  exact fun _=>⟨s1,s2,rfl,k2.setT b1 (by decide),k3.setT b1 (by decide)⟩
 ·by_cases h3:e.1=0
  ·simp [h3,J0H,T0L,h0,b0]
   refine (i0P k1 hx.1 hn).mono ?_
   rintro _ G2 ⟨⟨s1,s2,rfl,k2,k3⟩,hx2⟩
   replace b0:=hx2.blk b0;replace b1:=hx2.blk b1;replace hx:=hx.trans hx2
   have hz:=a0l b1
   simp [h0,b1,k2.cells,k2.plain,k3.cells,k3.plain,hz,c0l]
   exact fun _=>⟨s1,s2,rfl,k2.setT b1 (by decide),k3.setT b1 (by decide)⟩
  ·have hz:=a0l b1
   simp [h3,J0H,T0M,h0,b0,b1,hz,c0l]
   exact fun _=>⟨_,_,rfl,Lim.nil,Lim.nil⟩
theorem r0U (h:i0w H v e):d0W (c0l (i0u e)).2≤max (d0W e.2) 1:=by
 unfold i0u c0l
 have h1:=b0E h.ok.1 h.ok.2
 by_cases hm:m0n e=true
 ·by_cases h0:e.1=0
  ·simp [hm,h0,a0I];omega
  ·simp [hm,h0,d0W]
 ·simp [hm,a0I,d0U];omega
theorem r0C (h:i0w H v e) (k:i0w H w f) (hf:fl≤H.size) (hn:d0W e.2 < 67108864) (hm:d0W f.2 < 67108864):a0S env fl Y0O [v,w] H (fun r H'=>r=.int .i64 (K0r (i0u e) (i0u f))∧Ext H H') R:=by
 have k0:=h
 have k1:=k
 have l1:=r0U h
 have l2:=r0U k
 obtain ⟨s,u,rfl,hs,hu⟩:=h
 obtain ⟨s',u',rfl,hs',hu'⟩:=k
 refine a0i g1F hf (h:=?_)
 intro ρ h0
 simp [b1X,R0r,h0]
 generalize hG:Array.push (Array.push H _) _=G
 have hx2:Ext H G:=by rw [← hG];exact (Ext.refl H).push.push
 have b0:a0f.blk G H.size=.row false b0v [.int .i64 e.1,.bool e.2.1.1,s,.bool e.2.2.1,u]:=by rw [← hG];simp
 have b1:a0f.blk G (H.size + 1)=.row false b0v [.int .i64 f.1,.bool f.2.1.1,s',.bool f.2.2.1,u']:=by rw [← hG];simp
 have hx:=Ext.refl H
 clear hG
 replace hx:=hx.trans hx2;replace k0:=k0.mono hx2;replace k1:=k1.mono hx2
 refine a0B ?_
 simp [R0s,h0,b0]
 refine (i0B k0 (by have:=hx.1;omega) hn).mono ?_
 rintro _ G2 ⟨⟨s1,s2,rfl,k2,k3⟩,hx2⟩
 replace b0:=hx2.blk b0;replace b1:=hx2.blk b1;replace hx:=hx.trans hx2;replace k0:=k0.mono hx2;replace k1:=k1.mono hx2
 simp [h0,b1]
 refine (i0B k1 hx.1 hm).mono ?_
 rintro _ G2 ⟨⟨s3,s4,rfl,k4,k5⟩,hx2⟩
 replace b0:=hx2.blk b0;replace b1:=hx2.blk b1;replace hx:=hx.trans hx2;replace k0:=k0.mono hx2;replace k1:=k1.mono hx2;replace k2:=k2.mono hx2;replace k3:=k3.mono hx2
 clear k0 k1
 have hz0:=a0l b0
 simp [h0,b0,k2.cells,k2.plain,k3.cells,k3.plain,hz0]
 generalize hS:Array.setIfInBounds _ _ _=G3
 have hsz:=hx.1;replace k2:=k2.setS hS b0 (by decide);replace k3:=k3.setS hS b0 (by decide);replace k4:=k4.setS hS b0 (by decide);replace k5:=k5.setS hS b0 (by decide);replace b1:=a0o hS b1 (by omega);replace hx:=a0E hS hx (by omega);replace b0:=a0s hS b0;clear hS hsz
 have hz0:=a0l b1
 simp [b1,k4.cells,k4.plain,k5.cells,k5.plain,hz0]
 generalize hS:Array.setIfInBounds _ _ _=G3
 have hsz:=hx.1;replace k2:=k2.setS hS b1 (by decide);replace k3:=k3.setS hS b1 (by decide);replace k4:=k4.setS hS b1 (by decide);replace k5:=k5.setS hS b1 (by decide);replace b0:=a0o hS b0 (by omega);replace hx:=a0E hS hx (by omega);replace b1:=a0s hS b1;clear hS hsz
 obtain ⟨x,hxv⟩:∃ x,x=i0u e:=⟨_,rfl⟩
 obtain ⟨y,hyv⟩:∃ y,y=i0u f:=⟨_,rfl⟩
 rw [← hxv] at l1 k2 k3 b0 ⊢
 rw [← hyv] at l2 k4 k5 b1 ⊢
 have kx:(c0l x).1=x.1:=by unfold c0l;split <;> simp_all
 have ky:(c0l y).1=y.1:=by unfold c0l;split <;> simp_all
 rw [kx] at b0
 rw [ky] at b1
 unfold K0r
 simp [R0t,h0,b0,b1]
 by_cases h1:x.1 < y.1
 ·have h1':¬ y.1≤x.1:=by omega
  simp [h1,h1',R0u]
 ·by_cases h2:y.1 < x.1
  ·have h2':¬ x.1≤y.1:=by omega
   have h1':y.1≤x.1:=by omega
   simp [h1,h1',h2,h2',x0u,R0v,h0,b0,b1]
  ·by_cases h3:x.1=0
   ·have h4:y.1=0:=by omega
    have kr:b0L _ (.agg #[.bool (c0l x).2.1.1,s1,.bool (c0l x).2.2.1,s2]) (c0l x).2:=⟨s1,s2,rfl,k2,k3⟩
    have kq:b0L _ (.agg #[.bool (c0l y).2.1.1,s3,.bool (c0l y).2.2.1,s4]) (c0l y).2:=⟨s3,s4,rfl,k4,k5⟩
    simp [h1,h2,h3,h4,x0u,I0Y,R0x,h0,b0,b1]
    refine (s0I kr kq hx.1 (by omega) (by omega)).mono ?_
    rintro _ G2 ⟨rfl,hx2⟩
    have e1:b0o (c0l x).2=x.2:=by unfold c0l;rw [h1F h3];exact a0D _
    have e2:b0o (c0l y).2=y.2:=by unfold c0l;rw [h1F h4];exact a0D _
    simp [e1,e2]
   ·have h4:y.1 ≠ 0:=by omega
    simp [h1,h2,h3,h4,x0u,I0Y,R0w,h0,b0,b1]
end
section
open Go
def z0v (b2 b:Nat) (A:b0b→a0f→Prop) (Z:b0b→a0f→Prop) (Q:d0X):d0X
 | .normal,t,H=>A t H
 | .exit j,t,H=>if j=b2 then A t H else if j=b then Z t H else Q (.exit j) t H
 | .ret,t,H=>Q .ret t H
section
variable {b2 b:Nat} {A Z:b0b→a0f→Prop} {Q:d0X} {t:b0b} {H:a0f}
@[simp] theorem V0o:z0v b2 b A Z Q .normal t H=A t H:=nr rfl
@[simp] theorem Z0f {j:Nat}:z0v b2 b A Z Q (.exit j) t H=if j=b2 then A t H else if j=b then Z t H else Q (.exit j) t H:=nr rfl
@[simp] theorem b1l:z0v b2 b A Z Q .ret t H=Q .ret t H:=nr rfl
end
def Rnd (nt ti tn n i:Nat) (Inv:Nat→(Nat→Value)→a0f→Prop) (t:b0b) (H:a0f):Prop :=
 ∃ ρ,t=T nt ρ∧ρ ti=.int .i64 (i:Int)∧ρ tn=.int .i64 (n:Int)∧Inv (i + 1) ρ H
theorem Rnd.mk {nt ti tn n i:Nat} {Inv:Nat→(Nat→Value)→a0f→Prop} {ρ:Nat→Value} {H:a0f} (h1:ρ ti=.int .i64 (i:Int)) (h2:ρ tn=.int .i64 (n:Int)) (h3:Inv (i + 1) ρ H):Rnd nt ti tn n i Inv (T nt ρ) H:=⟨ρ,rfl,h1,h2,h3⟩
theorem d0Q {E:Env} {fl nt ti tn tc tx b b2 n:Nat} {body:SCode} {Z:b0b→a0f→Prop} {Q:d0X} {R:a0G} {ρ:Nat→Value} {H:a0f} {rc rx:List a0L} (Inv:Nat→(Nat→Value)→a0f→Prop)
  (hrc:rc=[⟨some tc,none,.bin 0 .lss (.tmp ti) (.tmp tn)⟩]) (hrx:rx=[⟨some tx,none,.bin 0 .add (.tmp ti) (.const (.int .i64 1))⟩,⟨some ti,none,.mv (.tmp tx)⟩])
  (hl:ti < nt∧tn < nt∧tc < nt∧tx < nt∧tc ≠ ti∧tc ≠ tn∧tx ≠ ti∧tx ≠ tn∧ti ≠ tn) (hn:n < 4611686018427387904)
  (h0:ρ ti=.int .i64 0) (hN:ρ tn=.int .i64 (n:Int)) (hI:Inv 0 ρ H)
  (stab:∀ i (ρ ρ':Nat→Value) H,(∀ k,k ≠ tc→k ≠ tx→k ≠ ti→ρ' k=ρ k)→Inv i ρ H→Inv i ρ' H)
  (step:∀ i ρ H,i < n→ρ ti=.int .i64 (i:Int)→ρ tn=.int .i64 (n:Int)→Inv i ρ H→W E fl body (T nt ρ) H (z0v b2 b (Rnd nt ti tn n i Inv) Z Q) R)
  (rest:∀ ρ H,ρ ti=.int .i64 (n:Int)→ρ tn=.int .i64 (n:Int)→Inv n ρ H→Z (T nt ρ) H) :
  W E fl (.loop (.seq (.reg rc) (.seq (.cond (.tmp tc) .skip (.exit b)) (.seq (.block b2 body) (.reg rx))))) (T nt ρ) H (e0P b (i0s Z Q)) R:=by
 subst hrc hrx
 obtain ⟨l1,l2,l3,l4,n1,n2,n3,n4,n5⟩:=hl
 refine b0Y (fun k t G=>∃ i ρ,i + k=n∧t=T nt ρ∧ρ ti=.int .i64 (i:Int)∧ρ tn=.int .i64 (n:Int)∧Inv i ρ G) Z n ?_ ?_ (fun _ _ h=>h)
 ·exact ⟨0,ρ,by omega,rfl,h0,hN,hI⟩
 ·clear h0 hN hI ρ H
  rintro k t G ⟨i,ρ,hik,rfl,g1,g2,hI⟩
  have e9:IntKind.i64.wrap ((i:Int) + 1)=((i + 1:Nat):Int):=by rw [a0Y (by omega) (by omega)];omega
  have hstab:∀ v,Inv i (upd ρ tc v) G:=fun v=>stab i ρ _ G (fun k h1 _ _=>j0Z (j1q h1)) hI
  refine h0Y (l0Q ?_)
  simp only [l0M,z0K,k0S,b0V l1,b0V l2,g1,g2,K0J,q0b,z0J,e0x,V0A]
  by_cases hi:i < n
  ·have hs:=step i (upd ρ tc (.bool true)) G hi (by rw [j0Z n1];exact g1) (by rw [j0Z n2];exact g2) (hstab _)
   have hd:decide ((i:Int) < (n:Int))=true:=by rw [i1w];omega
   rw [hd]
   refine h0Y (l0O true (by rw [k0S,b0V l3,l0I]) (fun _=>v0H ?_) (by simp))
   refine h0Y (p0u ?_)
   have hfin:∀ t' H',Rnd nt ti tn n i Inv t' H'→WR E fl [⟨some tx,none,.bin 0 .add (.tmp ti) (.const (.int .i64 1))⟩,⟨some ti,none,.mv (.tmp tx)⟩] t' H' (fun t' H'=>∃ k',k' < k∧∃ i ρ,i + k' = n∧t' = T nt ρ∧ρ ti=.int .i64 (i:Int)∧ρ tn=.int .i64 (n:Int)∧Inv i ρ H') R:=by
    rintro t' H' ⟨ρ',rfl,q1,q2,q3⟩
    simp only [l0M,z0K,K0C,k0S,K0X,b0V l1,q1,K0H,e9,q0b,z0J,V0A,b0V l4,l0I]
    refine ⟨k - 1,by omega,i + 1,_,by omega,rfl,l0I,?_,?_⟩
    ·rw [j0Z n5,j0Z n4];exact q2
    ·exact stab (i + 1) ρ' _ H' (fun k h1 h2 h3=>by rw [j0Z (j1q h3),j0Z (j1q h2)]) q3
   refine hs.mono fun e t' H' hq=>?_
   cases e with
   | normal=>exact l0Q (hfin _ _ hq)
   | exit j =>
    simp only [z0v] at hq
    show (if j=b2 then _ else _)
    by_cases hj:j=b2
    ·rw [h1F hj] at hq ⊢;exact l0Q (hfin _ _ hq)
    ·rw [h1C hj] at hq ⊢
     show (if j=b then _ else _)
     by_cases hj2:j=b
     ·rw [h1F hj2] at hq ⊢;exact hq
     ·rw [h1C hj2] at hq ⊢;exact hq
   | ret=>exact hq
  ·have:i=n:=by omega
   subst this
   have hd:decide ((i:Int) < (i:Int))=false:=by simp
   rw [hd]
   refine h0Y (l0O false (by rw [k0S,b0V l3,l0I]) (by simp) (fun _=>v0G ?_))
   show (if b=b then _ else _)
   rw [h1F rfl]
   exact rest _ _ (by rw [j0Z n1];exact g1) (by rw [j0Z n2];exact g2) (hstab _)
theorem h0V {Q:d0X}:i0s (fun t H=>Q .normal t H) Q=Q:=by
 funext e t H;cases e <;> rfl
theorem r0q {E:Env} {fl nt ti tn tc tx b b2 n:Nat} {body:SCode} {Q:d0X} {R:a0G} {ρ:Nat→Value} {H:a0f} {rc rx:List a0L} (Inv:Nat→(Nat→Value)→a0f→Prop)
  (hrc:rc=[⟨some tc,none,.bin 0 .lss (.tmp ti) (.tmp tn)⟩]) (hrx:rx=[⟨some tx,none,.bin 0 .add (.tmp ti) (.const (.int .i64 1))⟩,⟨some ti,none,.mv (.tmp tx)⟩])
  (hl:ti < nt∧tn < nt∧tc < nt∧tx < nt∧tc ≠ ti∧tc ≠ tn∧tx ≠ ti∧tx ≠ tn∧ti ≠ tn) (hn:n < 4611686018427387904)
  (h0:ρ ti=.int .i64 0) (hN:ρ tn=.int .i64 (n:Int)) (hI:Inv 0 ρ H)
  (stab:∀ i (ρ ρ':Nat→Value) H,(∀ k,k ≠ tc→k ≠ tx→k ≠ ti→ρ' k=ρ k)→Inv i ρ H→Inv i ρ' H)
  (step:∀ i ρ H,i < n→ρ ti=.int .i64 (i:Int)→ρ tn=.int .i64 (n:Int)→Inv i ρ H→W E fl body (T nt ρ) H (z0v b2 b (Rnd nt ti tn n i Inv) (fun t H=>Q .normal t H) Q) R)
  (rest:∀ ρ H,ρ ti=.int .i64 (n:Int)→ρ tn=.int .i64 (n:Int)→Inv n ρ H→Q .normal (T nt ρ) H) :
  W E fl (.loop (.seq (.reg rc) (.seq (.cond (.tmp tc) .skip (.exit b)) (.seq (.block b2 body) (.reg rx))))) (T nt ρ) H (e0P b Q) R:=by
 rw [← h0V (Q:=Q)]
 exact d0Q (Z:=fun t H=>Q .normal t H) (Q:=Q) Inv hrc hrx hl hn h0 hN hI stab step rest
def Sls {α:Type} (P:a0f→List Value→α→Prop) (H:a0f) (e sz:Nat) (v:Value) (l:List α):Prop :=
 ∃ cs,Sl H e sz v l.length cs∧∀ k (h:k < l.length),P H ((cs.drop (k * sz)).take sz) l[k]
def l0i {α:Type} (P:a0f→List Value→α→Prop):Prop:=∀ H G cs x,Ext H G→P H cs x→P G cs x
section
variable {α:Type} {P:a0f→List Value→α→Prop} {H G:a0f} {e sz:Nat} {v:Value} {l:List α}
theorem Sls.mono (hP:l0i P) (h:Sls P H e sz v l) (hx:Ext H G):Sls P G e sz v l:=by
 obtain ⟨cs,h1,h2⟩:=h;exact ⟨cs,h1.mono hx,fun k hk=>hP _ _ _ _ hx (h2 k hk)⟩
theorem Sls.slen (h:Sls P H e sz v l):i0r v=some (.int .i64 l.length):=by obtain ⟨cs,h1,_⟩:=h;exact h1.slen
theorem Sls.ia (h:Sls P H e sz v l) {k:IntKind} {j:Nat} (hj:j < l.length):iaV sz v (.int k j)=some (adr sz v j):=by obtain ⟨cs,h1,_⟩:=h;exact h1.ia hj
theorem Sls.load (h:Sls P H e sz v l) {j:Nat} (hj:j < l.length) (hs:0 < sz):∃ cs,b0x H true sz (adr sz v j)=some (.agg cs.toArray)∧cs.length=sz∧P H cs l[j]:=by
 obtain ⟨cs,h1,h2⟩:=h
 refine ⟨_,h1.load (Ext.refl H) hj hs,?_,h2 j hj⟩
 have:=h1.1
 have:(j + 1) * sz≤l.length * sz:=h1J _ hj
 rw [h1X,i1r] at this
 simp;omega
theorem Sls.load1 (h:Sls P H e 1 v l) {j:Nat} (hj:j < l.length):∃ w,b0x H false 1 (adr 1 v j)=some w∧P H [w] l[j]:=by
 obtain ⟨cs,h1,h2⟩:=h
 refine ⟨_,h1.load1 (Ext.refl H) hj,?_⟩
 have h3:=h2 j hj
 have hl:=h1.1
 have:(cs.drop (j * 1)).take 1=[cs.getD j undef]:=by
  have hjc:j < cs.length:=by omega
  have e1:cs.getD j undef=cs[j]:=by simp [h1z,hjc]
  rw [i1H,i1t hjc,e1];rfl
 rw [this] at h3;exact h3
theorem Sls.cells (h:Sls P H e sz v l):a0U v=[v]:=by obtain ⟨cs,h1,_⟩:=h;exact h1.cells
theorem Sls.plain (h:Sls P H e sz v l):a0F v=true:=by obtain ⟨cs,h1,_⟩:=h;exact h1.plain
theorem Sls.nil:Sls P H e sz (.slice none 0 0) ([]:List α):=⟨[],Sl.nil,fun k hk=>by simp at hk⟩
end
def b0e {α:Type} (P:a0f→List Value→α→Prop) (fl:Nat) (H:a0f) (e sz:Nat) (v:Value) (l:List α):Prop :=
 ∃ cs,Own fl H e sz v l.length cs∧∀ k (h:k < l.length),P H ((cs.drop (k * sz)).take sz) l[k]
section
variable {α:Type} {P:a0f→List Value→α→Prop} {H G:a0f} {fl e sz:Nat} {v:Value} {l:List α}
theorem b0e.sls (h:b0e P fl H e sz v l):Sls P H e sz v l:=by obtain ⟨cs,h1,h2⟩:=h;exact ⟨cs,h1.sl,h2⟩
theorem b0e.mono (hP:l0i P) (h:b0e P fl H e sz v l) (hx:Ext H G):b0e P fl G e sz v l:=by
 obtain ⟨cs,h1,h2⟩:=h;exact ⟨cs,h1.mono hx,fun k hk=>hP _ _ _ _ hx (h2 k hk)⟩
theorem b0e.nil:b0e P fl H e sz (.slice none 0 0) ([]:List α):=⟨[],Own.nil,fun k hk=>by simp at hk⟩
theorem b0e.slen (h:b0e P fl H e sz v l):i0r v=some (.int .i64 l.length):=h.sls.slen
def Lx (H G:a0f):Prop:=∀ b ro cs,H.blk b=.row ro a0k cs→G.blk b=.row ro a0k cs
theorem b0e.lx (h:b0e P fl G e sz v l) (he:e ≠ a0k) {G':a0f} (hx:e0p (slB v) G G'):Lx G G':=by
 intro b ro cs hb
 obtain ⟨cs',⟨hl,⟨rfl,_⟩ | ⟨p,cap,rfl,hp,_⟩⟩,_⟩:=h
 ·rw [hx.2 b (a0l hb) (by simp [slB])];exact hb
 ·rw [hx.2 b (a0l hb) (by simp [slB];rintro rfl;rw [hp] at hb;cases hb;exact he rfl)];exact hb
theorem b0e.app (he:e ≠ a0k) (hO:∀ G' cs x,e0p (slB v) G G'→Lx G G'→P G cs x→P G' cs x) (h:b0e P fl G e sz v l) {e2 c bytes:Nat} {new:List Value} {x:α} (hx:P G new x) (hl:new.length=sz) (hp:new.all a0F=true) (hn:l.length < 1073741824) (hb:bytes≤1024) (hs:0 < sz) (hfl:fl≤G.size) :
  ∃ v' G',k0c fl (G.push (.row false e2 new)) e sz bytes v (.slice (some ⟨G.size,0,none⟩) 1 c)=some (v',G')∧b0e P fl G' e sz v' (l ++ [x])∧e0p (slB v) G G'∧(∀ H0,H0.size≤fl→Ext H0 G→Ext H0 G'):=by
 obtain ⟨cs,h1,h2⟩:=h
 obtain ⟨v',G',a1,a2,a3,a4⟩:=e0b (e2:=e2) (c:=c) h1 hl hp hn hb hs hfl (bytes:=bytes)
 refine ⟨v',G',a1,⟨cs ++ new,by simpa using a2,fun k hk=>?_⟩,a3,a4⟩
 have hcs:=h1.1
 by_cases hkl:k < l.length
 ·have h3:(k + 1) * sz≤l.length * sz:=h1J _ hkl
  rw [h1X,i1r] at h3
  rw [i1L hkl,j1e (by omega),j1s (by simp;omega)]
  exact hO _ _ _ a3 (b0e.lx ⟨cs,h1,h2⟩ he a3) (h2 k hkl)
 ·have hke:k=l.length:=by simp at hk;omega
  subst hke
  rw [i1h (h1A _),j1e (by omega),j1k (by omega),j1o,← hl,h1T]
  simpa using hO _ _ _ a3 (b0e.lx ⟨cs,h1,h2⟩ he a3) hx
end
theorem Lim.lx {H G:a0f} {v:Value} {l:List Nat} (h:Lim H v l) (hx:Lx H G):Lim G v l:=by
 obtain ⟨⟨hl,h1 | ⟨b,off,cap,ro,cells,rfl,hb,ho,hcs⟩⟩,h2⟩:=h
 ·exact ⟨⟨hl,.inl h1⟩,h2⟩
 ·exact ⟨⟨hl,.inr ⟨b,off,cap,ro,cells,rfl,hx _ _ _ hb,ho,hcs⟩⟩,h2⟩
theorem b0L.lx {H G:a0f} {v:Value} {a:b0q} (h:b0L H v a) (hx:Lx H G):b0L G v a:=by obtain ⟨s,u,h1,h2,h3⟩:=h;exact ⟨s,u,h1,h2.lx hx,h3.lx hx⟩
theorem i0w.lx {H G:a0f} {v:Value} {e:d0h} (h:i0w H v e) (hx:Lx H G):i0w G v e:=by obtain ⟨s,u,h1,h2,h3⟩:=h;exact ⟨s,u,h1,h2.lx hx,h3.lx hx⟩
end
section
open Go
set_option maxHeartbeats 4000000
variable {fl:Nat} {H G:a0f} {R:a0G} {v w:Value}
def PR (H:a0f) (cs:List Value) (a:b0q):Prop:=b0L H (.agg cs.toArray) a
def PE (H:a0f) (cs:List Value) (e:d0h):Prop:=i0w H (.agg cs.toArray) e
theorem a0u:l0i PR:=fun _ _ _ _ hx h=>b0L.mono h hx
theorem d0J:l0i PE:=fun _ _ _ _ hx h=>i0w.mono h hx
abbrev a0O (H:a0f) (v:Value) (l:List b0q):Prop:=Sls PR H a0b 4 v l
abbrev d0n (H:a0f) (v:Value) (l:List d0h):Prop:=Sls PE H b0v 5 v l
def PS (H:a0f) (cs:List Value) (l:List b0q):Prop:=∃ v,cs=[v]∧a0O H v l
theorem b0F:l0i PS:=fun _ _ _ _ hx ⟨v,h1,h2⟩=>⟨v,h1,h2.mono a0u hx⟩
abbrev d0o (H:a0f) (v:Value) (l:List (List b0q)):Prop:=Sls PS H a0R 1 v l
theorem a0O.load {l:List b0q} (h:a0O H v l) {j:Nat} (hj:j < l.length):∃ w,b0x H true 4 (adr 4 v j)=some w∧b0L H w l[j]:=by
 obtain ⟨cs,h1,_,h3⟩:=Sls.load h hj (by omega);exact ⟨_,h1,h3⟩
theorem d0n.load {l:List d0h} (h:d0n H v l) {j:Nat} (hj:j < l.length):∃ w,b0x H true 5 (adr 5 v j)=some w∧i0w H w l[j]:=by
 obtain ⟨cs,h1,_,h3⟩:=Sls.load h hj (by omega);exact ⟨_,h1,h3⟩
theorem d0o.load {l:List (List b0q)} (h:d0o H v l) {j:Nat} (hj:j < l.length):∃ w,b0x H false 1 (adr 1 v j)=some w∧a0O H w l[j]:=by
 obtain ⟨w,h1,w',h2,h3⟩:=Sls.load1 h hj
 simp at h2;subst h2;exact ⟨_,h1,h3⟩
def d0V (a b:List b0q):Nat→Rat
 | 0=>0
 | n + 1=>d0V a b n + b0o (a.getD n d0P) * b0o (b.getD n d0P)
def Few (S:Nat) (l:List b0q):Prop:=∀ x ∈ l,d0W x≤S∧b0u x.1.2∧b0u x.2.2
theorem Few.sz {S:Nat} {l:List b0q} (h:Few S l) (n:Nat):szR (b0o (l.getD n d0P))≤S + 1:=by
 rw [h1z]
 by_cases hn:n < l.length
 ·rw [h1E hn]
  obtain ⟨h1,h2,h3⟩:=h _ (h1I hn)
  have:=b0E h2 h3
  simp;omega
 ·rw [h1M (by omega)]
  show szR (b0o d0P)≤_
  rw [c0C,d0U];omega
theorem h0C {S:Nat} {a b:List b0q} (ha:Few S a) (hb:Few S b):∀ n,szR (d0V a b n)≤n * (2 * S + 3) + 1
 | 0=>by simp [d0V,d0U]
 | n + 1=>by
  have h1:=h0C ha hb n
  have h2:=K0e (d0V a b n) (b0o (a.getD n d0P) * b0o (b.getD n d0P))
  have h3:=h0D (b0o (a.getD n d0P)) (b0o (b.getD n d0P))
  have h4:=ha.sz n
  have h5:=hb.sz n
  rw [d0V,h1X];omega
theorem z0p {a b:List b0q} (ha:a0O H v a) (hb:a0O H w b) (hf:fl≤H.size) (hne:a.length ≠ b.length) :
  a0S env fl X0g [v,w] H (fun r H'=>(∃ q,r=.tuple #[q,.int .i64 1]∧b0L H' q d0P)∧Ext H H') R:=by
 refine a0i f1C hf (h:=?_)
 intro ρ h0
 have hne':¬ ((a.length:Int)=(b.length:Int)):=by omega
 simp [a1x,I0W,I0X,R0l,h0,ha.slen,hb.slen,hne,hne']
 exact ⟨_,_,rfl,Lim.nil,Lim.nil⟩
theorem s0X {S:Nat} {a b:List b0q} (ha:a0O H v a) (hb:a0O H w b) (hf:fl≤H.size) (he:a.length=b.length) (hfa:Few S a) (hfb:Few S b) (hS:(a.length + 1) * (2 * S + 3) + 1 < 67108864) :
  a0S env fl X0g [v,w] H (fun r H'=>(∃ q,r=.tuple #[q,.int .i64 0]∧b0L H' q (a0e (d0V a b a.length)))∧Ext H H') R:=by
 refine a0i f1C hf (h:=?_)
 intro ρ h0
 have hal:a.length < 67108864:=by
  have:(a.length + 1) * 1≤(a.length + 1) * (2 * S + 3):=i1b _ (by omega)
  omega
 have hSl:S < 33554432:=by
  have:1 * (2 * S + 3)≤(a.length + 1) * (2 * S + 3):=h1J _ (by omega)
  omega
 have hne:(a.length == b.length)=true:=by simpa using he
 simp [a1x,I0W,I0X,h0,ha.slen,hb.slen,he]
 generalize hG:Array.push H _=G
 obtain ⟨hx2,b0⟩:=g0r hG
 have hx:=Ext.refl H
 clear hG
 replace hx:=hx.trans hx2
 simp [R0m]
 refine (e0S (n:=0) hx.1 (by omega) (by omega)).mono ?_
 rintro _ G2 ⟨⟨s1,s2,rfl,k0,k1⟩,hx2⟩
 replace b0:=hx2.blk b0;replace hx:=hx.trans hx2
 have hsz:=hx.1
 simp [h0,k0.cells,k0.plain,k1.cells,k1.plain,hsz]
 generalize hN:Array.setIfInBounds (Array.push _ _) _ _=G3
 obtain ⟨hx2,b1⟩:=new1 hN
 have hb0l:=a0l b0
 clear hN
 replace b0:=hx2.blk b0;replace hx:=hx.trans hx2;replace k0:=k0.mono hx2;replace k1:=k1.mono hx2
 obtain ⟨P,hP⟩:∃ P,P=G2.size:=⟨_,rfl⟩
 rw [← hP] at b1 hsz hb0l ⊢
 simp [R0n,h0,ha.slen]
 refine d0Q (n:=a.length) (fun i ρ G=>ρ 0=v∧ρ 1=w∧ρ 4=.pointer (some ⟨H.size,0,none⟩)∧ρ 5=.int .i64 0∧ρ 6=.pointer (some ⟨P,0,none⟩)∧Ext H G ∧
   a0f.blk G H.size=.row false a0b [.bool false,.slice none 0 0,.bool false,.slice none 0 0] ∧
   ∃ s1 s2,a0f.blk G P=.row false a0b [.bool (a0e (d0V a b i)).1.1,s1,.bool (a0e (d0V a b i)).2.1,s2]∧Lim G s1 (a0e (d0V a b i)).1.2∧Lim G s2 (a0e (d0V a b i)).2.2)
  rfl rfl (by decide) (by omega) (by simp) (by simp) ?_ ?_ ?_ ?_
 ·exact ⟨by simp [h0],by simp [h0],by simp,by simp,by simp,hx,b0,s1,s2,b1,k0,k1⟩
 ·intro i ρ ρ' G h hI;simpa [h] using hI
 ·clear h0 ρ k0 k1 b0 b1 hx hx2
  rintro i ρ G hi gi gn ⟨g0,g1,g4,g5,g6,hx,b0,s1,s2,b1,k0,k1⟩
  have ka:=ha.mono a0u hx
  have kb:=hb.mono a0u hx
  obtain ⟨wa,hla,k2⟩:=a0O.load ka hi
  obtain ⟨wb,hlb,k3⟩:=a0O.load kb (show i < b.length by omega)
  have k4:b0L G (.agg #[.bool (a0e (d0V a b i)).1.1,s1,.bool (a0e (d0V a b i)).2.1,s2]) (a0e (d0V a b i)):=⟨s1,s2,rfl,k0,k1⟩
  have fa:=hfa _ (h1I hi)
  have fb:=hfb _ (h1I (show i < b.length by omega))
  simp [R0o,gi]
  refine a0B ?_
  simp [R0p,g0,g1,g6,ka.ia hi,kb.ia (show i < b.length by omega),hla,hlb,b1]
  refine (h0w k2 k3 (by have:=hx.1;omega) (by omega) (by omega)).mono ?_
  rintro _ G2 ⟨k5,hx2⟩
  replace b0:=hx2.blk b0;replace b1:=hx2.blk b1;replace hx:=hx.trans hx2;replace k0:=k0.mono hx2;replace k1:=k1.mono hx2;replace k4:=k4.mono hx2
  have hsd:=h0C hfa hfb i
  have hsd2:i * (2 * S + 3)≤a.length * (2 * S + 3):=h1J _ (by omega)
  rw [h1X,i1r] at hS
  have hsm:=h0D (b0o a[i]) (b0o b[i])
  have hs1:=b0E fa.2.1 fa.2.2
  have hs2:=b0E fb.2.1 fb.2.2
  simp
  refine (c0j k4 k5 hx.1 (by rw [a0I];omega) (by rw [a0I];omega)).mono ?_
  rintro _ G2 ⟨⟨s3,s4,rfl,k6,k7⟩,hx2⟩
  replace b0:=hx2.blk b0;replace b1:=hx2.blk b1;replace hx:=hx.trans hx2;replace k0:=k0.mono hx2;replace k1:=k1.mono hx2
  rw [a0D,a0D] at k6 k7 ⊢
  have hd:d0V a b (i + 1)=d0V a b i + b0o a[i] * b0o b[i]:=by
   rw [d0V,h1z,h1z,h1E hi,h1E (show i < b.length by omega)];rfl
  rw [← hd] at k6 k7 ⊢
  have hz:=a0l b1
  simp [g0,g1,g4,g5,g6,b1,k6.cells,k6.plain,k7.cells,k7.plain,hsz]
  generalize hS':Array.setIfInBounds _ _ _=G3
  have hS:=hS'
  replace k6:=k6.setS hS b1 (by decide)
  replace k7:=k7.setS hS b1 (by decide)
  replace b0:=a0o hS b0 (by omega)
  replace hx:=a0E hS hx (by omega)
  replace b1:=a0s hS b1
  exact Rnd.mk (by simp [gi]) (by simp [gn]) ⟨by simp [g0],by simp [g1],by simp [g4],by simp [g5],by simp [g6],hx,b0,s3,s4,b1,k6,k7⟩
 ·clear h0 ρ k0 k1 b0 b1 hx hx2
  rintro ρ G gi gn ⟨g0,g1,g4,g5,g6,hx,b0,s1,s2,b1,k0,k1⟩
  have hz:=a0l b0
  simp [R0q,g4,g6,b1,b0,k0.cells,k0.plain,k1.cells,k1.plain,hz]
  refine fun _=>⟨s1,s2,?_,?_,?_⟩
  ·rw [← he]
  ·rw [← he];exact k0.setT b0 (by decide)
  ·rw [← he];exact k1.setT b0 (by decide)
end
section
open Go
set_option maxHeartbeats 4000000
variable {fl:Nat} {H G:a0f} {R:a0G} {v w:Value} {a b:List d0h}
theorem b0e.cast {α:Type} {P:a0f→List Value→α→Prop} {fl e sz:Nat} {v v':Value} {l:List α} (h:v=v') (k:b0e P fl H e sz v' l):b0e P fl H e sz v l:=by rw [h];exact k
def z0s (l:List d0h):Prop:=∀ x ∈ l,d0W x.2 < 67108864
def d0G {α:Type} (p:α→Bool) (l:List α):Bool:=l.any p
def p0v {α:Type} (p:α→Bool) (l:List α):Bool:=l.all p
section
variable {α:Type} {p:α→Bool} {l:List α} {i:Nat}
theorem f0M:d0G p []=false:=rfl
theorem j0i:p0v p []=true:=rfl
theorem e0O (h:i < l.length):d0G p (l.take (i + 1))=(d0G p (l.take i) || p l[i]):=by
 unfold d0G;rw [i1I h,List.any_append];simp
theorem g0R (h:i < l.length):p0v p (l.take (i + 1))=(p0v p (l.take i) && p l[i]):=by
 unfold p0v;rw [i1I h,k1r];simp
theorem f0N (h:i < l.length) (hp:p l[i]=true):d0G p l=true:=j1d.2 ⟨_,h1I h,hp⟩
theorem g0Q (h:i < l.length) (hp:p l[i]=false):p0v p l=false:=by
 unfold p0v;rw [List.all_eq_false];exact ⟨l[i],h1I h,by simp [hp]⟩
end
theorem n0B {p:d0h→Bool} {g:FuncId} (ha:d0n H v a) (hf:fl≤H.size) (hfa:z0s a) (hal:a.length < 1073741824)
  (hg:∀ (fl:Nat) (G:a0f) (v:Value) (e:d0h),fl≤G.size→i0w G v e→d0W e.2 < 67108864→a0S env fl g [v] G (fun r H'=>r=.bool (p e)∧Ext G H') R) :
  a0S env fl Z0a [v,.func (.func g) #[] #[]] H (fun r H'=>(∃ z:Int,r=.int .i64 z∧(0≤z ↔ d0G p a=true))∧Ext H H') R:=by
 refine a0i h1n hf (h:=?_)
 intro ρ h0
 simp [c1E,T0W,T0X,h0,ha.slen]
 refine d0Q (n:=a.length) (fun i ρ G=>ρ 0=v∧ρ 1=.func (.func g) #[] #[]∧Ext H G∧d0G p (a.take i)=false)
  rfl rfl (by decide) (by omega) (by simp) (by simp) ?_ ?_ ?_ ?_
 ·exact ⟨by simp [h0],by simp [h0],Ext.refl H,by rw [k1g];exact f0M⟩
 ·intro i ρ ρ' G h hI;simpa [h] using hI
 ·clear h0 ρ
  rintro i ρ G hi gi gn ⟨g0,g1,hx,hc⟩
  have ka:=ha.mono d0J hx
  obtain ⟨w,hl,k0⟩:=d0n.load ka hi
  simp [T0Y,T0Z,gi,g0,g1,ka.ia hi,hl]
  refine (hg _ _ _ _ hx.1 k0 (hfa _ (h1I hi))).mono ?_
  rintro _ G2 ⟨rfl,hx2⟩
  have hx':=hx.trans hx2
  cases hp:p a[i]
  ·simp
   refine Rnd.mk (by simp [gi]) (by simp [gn]) ⟨by simp [g0],by simp [g1],hx',by rw [e0O hi,hc,hp];rfl⟩
  ·simp [U0a,gi]
   exact fun _=>f0N hi hp
 ·clear h0 ρ
  rintro ρ G gi gn ⟨g0,g1,hx,hc⟩
  rw [h1T] at hc
  simp [U0b,hc]
theorem f0z {p:d0h→Bool} {g:FuncId} (ha:d0n H v a) (hf:fl≤H.size) (hfa:z0s a) (hal:a.length < 1073741824)
  (hg:∀ (fl:Nat) (G:a0f) (v:Value) (e:d0h),fl≤G.size→i0w G v e→d0W e.2 < 67108864→a0S env fl g [v] G (fun r H'=>r=.bool (p e)∧Ext G H') R) :
  a0S env fl X0j [v,.func (.func g) #[] #[]] H (fun r H'=>r=.bool (d0G p a)∧Ext H H') R:=by
 refine a0i g1L hf (h:=?_)
 intro ρ h0
 simp [c1d,R0S,R0T,h0]
 refine (n0B (p:=p) ha (h1A _) hfa hal hg).mono ?_
 rintro _ G2 ⟨⟨z,rfl,hz⟩,hx2⟩
 simp
 intro _
 rw [k1o,i1w];exact hz
theorem l0Y {e:d0h} (h:i0w H v e) (hf:fl≤H.size):a0S env fl Y0W [v] H (fun r H'=>r=.bool (decide (e.1 < 0))∧Ext H H') R:=by
 obtain ⟨s,u,rfl,hs,hu⟩:=h
 refine a0i g1Z hf (h:=?_)
 intro ρ h0
 simp [c1r,T0a,T0b,h0]
theorem p0D (ha:d0n H v a) (hf:fl≤H.size) (hfa:z0s a) (hal:a.length < 1073741824) :
  a0S env fl Y0N [v] H (fun r H'=>r=.bool (d0G (fun e=>decide (e.1 < 0)) a)∧Ext H H') R:=by
 refine a0i g1C hf (h:=?_)
 intro ρ h0
 simp [b1U,R0a,R0b,h0]
 refine (f0z (p:=fun e=>decide (e.1 < 0)) ha (h1A _) hfa hal (fun fl G v e hf h hn=>l0Y h hf)).mono ?_
 rintro _ G2 ⟨rfl,hx2⟩
 simp
theorem l0l {e:d0h} (h:i0w H v e) (hf:fl≤H.size) (hn:d0W e.2 < 67108864):a0S env fl Y0R [v] H (fun r H'=>r=.bool (!m0n e)∧Ext H H') R:=by
 have k0:=h
 obtain ⟨s,u,rfl,hs,hu⟩:=h
 refine a0i g1M hf (h:=?_)
 intro ρ h0
 simp [c1e,R0U,R0V,h0]
 generalize hG:Array.push H _=G
 obtain ⟨hx2,b0⟩:=g0r hG
 have hx:=Ext.refl H
 clear hG
 replace hx:=hx.trans hx2;replace k0:=k0.mono hx2
 try simp [b0]
 refine (k0T k0 hx.1 hn).mono ?_
 rintro _ G2 ⟨rfl,hx2⟩
 simp
def d0q (H:a0f) (v:Value) (rows:List (List b0q)):Prop:=∃ s,v=.agg #[s]∧d0o H s rows
def k0G (n:Int) (r:List b0q):Bool:=decide ((r.length:Int)=n) && p0v l0D r
def h0x (rows:List (List b0q)) (n:Int):Bool:=decide (0≤n) && decide (n≤6) && decide (rows.length≤40) && p0v (k0G n) rows
theorem l0v {S:Nat} {rows:List (List b0q)} {n:Int} (h:d0q H v rows) (hf:fl≤H.size) (hS:S < 67108864) (hr:∀ r ∈ rows,Few S r∧r.length < 1073741824) (hrl:rows.length < 1073741824) :
  a0S env fl Y0Q [v,.int .i64 n] H (fun r H'=>r=.bool (h0x rows n)∧Ext H H') R:=by
 obtain ⟨s,rfl,hs⟩:=h
 refine a0i g1K hf (h:=?_)
 intro ρ h0
 simp [c1c,R0O,h0,hs.cells]
 generalize hG:Array.push H _=G
 obtain ⟨hx2,b0⟩:=g0r hG
 have hx:=Ext.refl H
 clear hG
 replace hx:=hx.trans hx2
 unfold h0x
 by_cases h1:n < 0
 ·have h1':¬ 0≤n:=by omega
  simp [s0F,x0x,h0,h1,h1']
 ·have h1':0≤n:=by omega
  by_cases h2:6 < n
  ·have h2':¬ n≤6:=by omega
   simp [s0F,x0x,h0,h1,h1',h2,h2']
  ·have h2':n≤6:=by omega
   by_cases h3:40 < rows.length
   ·have h3':¬ rows.length≤40:=by omega
    have h3'':(40:Int) < (rows.length:Int):=by omega
    simp [s0F,x0x,h0,b0,(hs.mono b0F hx).slen,hs.slen,h1,h1',h2,h2',h3,h3',h3'']
   ·have h3':rows.length≤40:=by omega
    have h3'':¬ (40:Int) < (rows.length:Int):=by omega
    simp [s0F,R0P,h0,b0,hs.slen,h1,h1',h2,h2',h3,h3',h3'']
    refine d0Q (n:=rows.length) (fun i ρ G=>ρ 1=.int .i64 n∧ρ 22=s∧Ext H G∧p0v (k0G n) (rows.take i)=true)
     rfl rfl (by decide) (by omega) (by simp) (by simp) ?_ ?_ ?_ ?_
    ·exact ⟨by simp [h0],by simp,hx,by rw [k1g];exact j0i⟩
    ·intro i ρ ρ' G h hI;simpa [h] using hI
    ·clear h0 ρ hx b0 hx2
     rintro i ρ G hi gi gn ⟨g1,g22,hx,hc⟩
     have ks:=hs.mono b0F hx
     obtain ⟨w,hl,kw⟩:=d0o.load ks hi
     obtain ⟨hfew,hrl2⟩:=hr _ (h1I hi)
     by_cases hlen:(rows[i].length:Int)=n
     ·simp [J0k,J0l,R0R,g1,g22,gi,ks.ia hi,hl,kw.slen,hlen]
      refine r0q (n:=rows[i].length) (fun j ρ G=>ρ 1=.int .i64 n∧ρ 22=s∧ρ 24=.int .i64 (i:Int)∧ρ 23=.int .i64 (rows.length:Int)∧ρ 32=w∧Ext H G∧a0O G w rows[i]∧p0v l0D (rows[i].take j)=true)
       rfl rfl (by decide) (by omega) (by simp) (by simp [hlen]) ?_ ?_ ?_ ?_
      ·exact ⟨by simp [g1],by simp [g22],by simp [gi],by simp [gn],by simp,hx,kw,by rw [k1g];exact j0i⟩
      ·intro i ρ ρ' G h hI;simpa [h] using hI
      ·clear g1 g22 gi gn hx kw hl ks ρ G
       rintro j ρ G hj gj gm ⟨g1,g22,gi,gn,g32,hx,kw,hcj⟩
       obtain ⟨x,hlx,k0⟩:=a0O.load kw hj
       obtain ⟨s1,s2,rfl,k1,k2⟩:=id k0
       have hf2:=hfew _ (h1I hj)
       have hsz:=hx.1
       simp [J0g,g1,g22,g32,gj,kw.ia hj,hlx,k1.cells,k1.plain,k2.cells,k2.plain,hsz]
       generalize hN:Array.setIfInBounds (Array.push _ _) _ _=G3
       obtain ⟨hx2,b1⟩:=new1 hN
       clear hN
       replace hx:=hx.trans hx2;replace k0:=k0.mono hx2
       replace kw:=kw.mono a0u hx2
       simp [J0h,b1]
       refine (h0v k0 hx.1 (by omega)).mono ?_
       rintro _ G2 ⟨rfl,hx2⟩
       replace hx:=hx.trans hx2
       replace kw:=kw.mono a0u hx2
       cases hm:l0D rows[i][j]
       ·simp [J0i]
        intros
        exact g0Q hi (by unfold k0G;rw [g0Q hj hm];simp)
       ·simp
        exact Rnd.mk (by simp [gj]) (by simp [gm]) ⟨by simp [g1],by simp [g22],by simp [gi],by simp [gn],by simp [g32],hx,kw,by rw [g0R hj,hcj,hm];rfl⟩
      ·rintro ρ G gj gm ⟨g1,g22,gi,gn,g32,hx,kw,hcj⟩
       rw [h1T] at hcj
       simp
       exact Rnd.mk gi gn ⟨g1,g22,hx,by rw [g0R hi,hc];unfold k0G;simp [hlen,hcj]⟩
     ·simp [J0k,J0l,R0Q,g1,g22,gi,ks.ia hi,hl,kw.slen,hlen]
      intro _
      exact g0Q hi (by unfold k0G;simp [hlen])
    ·clear h0 ρ hx b0 hx2
     rintro ρ G gi gn ⟨g1,g22,hx,hc⟩
     rw [h1T] at hc
     simp [J0j,hc]
def c0x (rows:List (List b0q)) (n:Int) (d:List d0h):Bool:=h0x rows n && decide (d.length=rows.length) && !d0G (fun e=>!m0n e) d
theorem i0A {S:Nat} {rows:List (List b0q)} {n:Int} {d:List d0h} (h:d0q H v rows) (hd:d0n H w d) (hf:fl≤H.size) (hS:S < 67108864) (hr:∀ r ∈ rows,Few S r∧r.length < 1073741824) (hrl:rows.length < 1073741824) (hfd:z0s d) (hdl:d.length < 1073741824) :
  a0S env fl W0Y [v,.int .i64 n,w] H (fun r H'=>r=.bool (c0x rows n d)∧Ext H H') R:=by
 have kt:=h
 obtain ⟨s,rfl,hs⟩:=h
 refine a0i g1n hf (h:=?_)
 intro ρ h0
 simp [b1F,P0r,h0,hs.cells]
 generalize hG:Array.push H _=G
 obtain ⟨hx2,b0⟩:=g0r hG
 have hx:=Ext.refl H
 clear hG
 replace hx:=hx.trans hx2
 have kt2:d0q G (.agg #[s]) rows:=⟨s,rfl,hs.mono b0F hx⟩
 unfold c0x
 simp [P0s,h0,b0]
 refine (l0v (n:=n) kt2 hx.1 hS hr hrl).mono ?_
 rintro _ G2 ⟨rfl,hx2⟩
 replace b0:=hx2.blk b0;replace hx:=hx.trans hx2
 cases h1:h0x rows n
 ·simp
 ·by_cases h2:d.length=rows.length
  ·have h2':(d.length:Int)=(rows.length:Int):=by omega
   simp [h0,b0,hd.slen,hs.slen,h2,h2']
   refine (f0z (p:=fun e=>!m0n e) (hd.mono d0J hx) hx.1 hfd hdl (fun fl G v e hf h hn=>l0l h hf hn)).mono ?_
   rintro _ G2 ⟨rfl,hx2⟩
   simp
  ·have h2':¬ (d.length:Int)=(rows.length:Int):=by omega
   simp [h0,b0,hd.slen,hs.slen,h2,h2']
end
section
open Go
set_option maxHeartbeats 4000000
variable {fl:Nat} {H G:a0f} {R:a0G} {v w u:Value}
theorem v0w (q:Rat):i0u (0,a0e q)=(0,q):=by
 unfold i0u m0n;simp [h0M,a0D]
def L0j (x:List b0q) (r:List b0q) (e:d0h):Bool:=decide (r.length=x.length) && !decide (0 < K0r (0,d0V r x r.length) (i0u e))
def Z0h (rows:List (List b0q)) (d:List d0h) (x:List b0q):Bool:=decide (d.length=rows.length) && p0v id (List.zipWith (L0j x) rows d)
theorem r0x {S:Nat} {rows:List (List b0q)} {d:List d0h} {x:List b0q} (h:d0q H v rows) (hd:d0n H w d) (hxv:a0O H u x) (hf:fl≤H.size)
  (hr:∀ r ∈ rows,Few S r) (hfx:Few S x) (hS:(x.length + 1) * (2 * S + 3) + 1 < 67108864) (hrl:rows.length < 1073741824) (hfd:z0s d) :
  a0S env fl Y0H [v,w,u] H (fun r H'=>r=.bool (Z0h rows d x)∧Ext H H') R:=by
 obtain ⟨s,rfl,hs⟩:=h
 refine a0i g1j hf (h:=?_)
 intro ρ h0
 simp [b1B,O0R,h0,hs.cells]
 generalize hG:Array.push H _=G
 obtain ⟨hx2,b0⟩:=g0r hG
 have hx:=Ext.refl H
 clear hG
 replace hx:=hx.trans hx2
 unfold Z0h
 by_cases hl:d.length=rows.length
 ·have hl':(d.length:Int)=(rows.length:Int):=by omega
  simp [I0D,O0T,h0,b0,hd.slen,hs.slen,hl,hl']
  refine d0Q (n:=rows.length) (fun i ρ G=>ρ 1=w∧ρ 2=u∧ρ 18=s∧Ext H G∧p0v id ((List.zipWith (L0j x) rows d).take i)=true)
   rfl rfl (by decide) (by omega) (by simp) (by simp) ?_ ?_ ?_ ?_
  ·exact ⟨by simp [h0],by simp [h0],by simp,hx,by rw [k1g];exact j0i⟩
  ·intro i ρ ρ' G h hI;simpa [h] using hI
  ·clear h0 ρ hx b0 hx2
   rintro i ρ G hi gi gn ⟨g1,g2,g18,hx,hc⟩
   have hid:i < d.length:=by omega
   have ks:=hs.mono b0F hx
   have kd:=hd.mono d0J hx
   have kx:=hxv.mono a0u hx
   obtain ⟨wr,hlr,kr⟩:=d0o.load ks hi
   have hz:(List.zipWith (L0j x) rows d).length=rows.length:=by simp;omega
   have hzi:(List.zipWith (L0j x) rows d)[i]'(by omega)=L0j x rows[i] d[i]:=by simp
   have hfr:=hr _ (h1I hi)
   by_cases hlen:rows[i].length=x.length
   ·simp [I0F,I0G,g1,g2,g18,gi,ks.ia hi,hlr]
    refine (s0X kr kx hx.1 hlen hfr hfx (by rw [hlen];exact hS)).mono ?_
    rintro _ G2 ⟨⟨_,rfl,s1,s2,rfl,k0,k1⟩,hx2⟩
    replace hx:=hx.trans hx2
    replace kd:=kd.mono d0J hx2
    have hsz:=hx.1
    simp [k0.cells,k0.plain,k1.cells,k1.plain,hsz]
    generalize hN:Array.setIfInBounds (Array.push _ _) _ _=G3
    obtain ⟨hx2,b1⟩:=new1 hN
    clear hN
    replace hx:=hx.trans hx2;replace k0:=k0.mono hx2;replace k1:=k1.mono hx2
    replace kd:=kd.mono d0J hx2
    refine a0B ?_
    have k2:b0L G3 (.agg #[.bool (a0e (d0V rows[i] x rows[i].length)).1.1,s1,.bool (a0e (d0V rows[i] x rows[i].length)).2.1,s2]) (a0e (d0V rows[i] x rows[i].length)):=⟨s1,s2,rfl,k0,k1⟩
    have hsd:=h0C hfr hfx rows[i].length
    have hsd2:rows[i].length * (2 * S + 3)≤(x.length + 1) * (2 * S + 3):=h1J _ (by omega)
    simp [I0H,b1]
    refine (i0P k2 (by have:=hx.1;omega) (by rw [a0I];omega)).mono ?_
    rintro _ G2 ⟨k3,hx2⟩
    rw [a0D] at k3
    replace hx:=hx.trans hx2;replace k0:=k0.mono hx2;replace k1:=k1.mono hx2
    replace kd:=kd.mono d0J hx2
    obtain ⟨we,hle,k4⟩:=d0n.load kd hid
    simp [g1,kd.ia hid,hle]
    refine (r0C k3 k4 hx.1 (by show d0W (a0e _) < _;rw [a0I];omega) (hfd _ (h1I hid))).mono ?_
    rintro _ G2 ⟨rfl,hx2⟩
    replace hx:=hx.trans hx2;replace k0:=k0.mono hx2;replace k1:=k1.mono hx2
    rw [v0w]
    by_cases hc0:0 < K0r (0,d0V rows[i] x rows[i].length) (i0u d[i])
    ·have hc0':¬ K0r (0,d0V rows[i] x rows[i].length) (i0u d[i])≤0:=by omega
     simp [hc0,hc0',I0I]
     intros
     exact g0Q (i:=i) (by omega) (by rw [hzi];unfold L0j;simp [hc0])
    ·have hc0':K0r (0,d0V rows[i] x rows[i].length) (i0u d[i])≤0:=by omega
     simp [hc0,hc0']
     exact Rnd.mk (by simp [gi]) (by simp [gn]) ⟨by simp [g1],by simp [g2],by simp [g18],hx,by rw [g0R (by omega),hc,hzi];unfold L0j;simp [hlen];rw [← hlen];exact hc0'⟩
   ·simp [I0F,I0G,g1,g2,g18,gi,ks.ia hi,hlr]
    refine (z0p kr kx hx.1 hlen).mono ?_
    rintro _ G2 ⟨⟨_,rfl,s1,s2,rfl,k0,k1⟩,hx2⟩
    replace hx:=hx.trans hx2
    have hsz:=hx.1
    simp [k0.cells,k0.plain,k1.cells,k1.plain,hsz]
    refine a0B ?_
    simp [I0H,I0I]
    intros
    exact g0Q (i:=i) (by omega) (by rw [hzi];unfold L0j;simp [hlen])
  ·clear h0 ρ hx b0 hx2
   rintro ρ G gi gn ⟨g1,g2,g18,hx,hc⟩
   rw [h1O (by simp;omega)] at hc
   simp [I0E,hc]
 ·have hl':¬ (d.length:Int)=(rows.length:Int):=by omega
  simp [I0D,O0S,h0,b0,hd.slen,hs.slen,hl,hl']
def h0P (l:List b0q):List b0q:=l.map fun x=>a0e (b0o x)
theorem r0i {α β:Type} {f:α→β} {l:List α} {i:Nat} (h:i < l.length):(l.map f).take (i + 1)=(l.map f).take i ++ [f l[i]]:=by
 rw [i1I (by simpa using h)];simp
theorem k0R {S:Nat} {l:List b0q} (hv:a0O H v l) (hf:fl≤H.size) (hfw:Few S l) (hS:S < 67108864) (hl:l.length < 1073741824) :
  a0S env fl X0f [v] H (fun r H'=>b0e PR H.size H' a0b 4 r (h0P l)∧Ext H H') R:=by
 refine a0i g1D hf (h:=?_)
 intro ρ h0
 simp [b1V,R0c,R0d,R0e,h0,hv.slen]
 refine d0Q (n:=l.length) (fun i ρ G=>ρ 6=v∧Ext H G∧b0e PR H.size G a0b 4 (ρ 3) ((h0P l).take i))
  rfl rfl (by decide) (by omega) (by simp) (by simp) ?_ ?_ ?_ ?_
 ·exact ⟨by simp [h0],Ext.refl H,by simpa using b0e.nil⟩
 ·intro i ρ ρ' G h hI;simpa [h] using hI
 ·clear h0 ρ
  rintro i ρ G hi gi gn ⟨g6,hx,ho⟩
  obtain ⟨s,g3⟩:∃ s,ρ 3=s:=⟨_,rfl⟩
  rw [g3] at ho
  have kv:=hv.mono a0u hx
  obtain ⟨x,hlx,k0⟩:=a0O.load kv hi
  obtain ⟨s1,s2,rfl,k1,k2⟩:=id k0
  have hf2:=hfw _ (h1I hi)
  have hsz:=hx.1
  simp [R0f,g6,gi,kv.ia hi,hlx,k1.cells,k1.plain,k2.cells,k2.plain,hsz]
  generalize hN:Array.setIfInBounds (Array.push _ _) _ _=G3
  obtain ⟨hx2,b1⟩:=new1 hN
  clear hN
  replace hx:=hx.trans hx2;replace k0:=k0.mono hx2
  replace ho:=ho.mono a0u hx2
  simp [R0g,b1]
  refine (c0j k0 (b:=d0P) e0T hx.1 (by omega) (by decide)).mono ?_
  rintro _ G2 ⟨⟨s3,s4,rfl,k3,k4⟩,hx2⟩
  replace hx:=hx.trans hx2
  replace ho:=ho.mono a0u hx2
  rw [c0C,j1O] at k3 k4 ⊢
  obtain ⟨s',G4,h1,h2,h3,h4⟩:=b0e.app (P:=PR) (sz:=4) (e:=a0b) (by decide) (fun G' cs x _ hl h=>b0L.lx h hl) ho (e2:=a0b) (c:=1) (bytes:=64) (new:=[.bool (a0e (b0o l[i])).1.1,s3,.bool (a0e (b0o l[i])).2.1,s4]) (x:=a0e (b0o l[i])) ⟨s3,s4,rfl,k3,k4⟩ rfl (by simp [k3.plain,k4.plain]) (by simp;omega) (by omega) (by omega) hx.1
  simp [g3,k3.cells,k4.cells,h1]
  exact Rnd.mk (by simp [gi]) (by simp [gn]) ⟨by simp [g6],h4 _ (h1A _) hx,b0e.cast (v':=s') (by simp) (by unfold h0P;rw [r0i hi];exact h2)⟩
 ·clear h0 ρ
  rintro ρ G gi gn ⟨g6,hx,ho⟩
  obtain ⟨s,g3⟩:∃ s,ρ 3=s:=⟨_,rfl⟩
  rw [g3] at ho
  rw [h1O (by simp [h0P])] at ho
  simp [R0h,g3]
  exact fun _=>ho
theorem e0t {fl e sz bytes n c:Nat} {H H':a0f} {s v':Value} {xb:Option Addr} (hn:n ≠ 0) (h:k0c fl H e sz bytes s (.slice xb n c)=some (v',H')):∃ m k,v' = .slice (some ⟨H.size,0,none⟩) m k:=by
 unfold k0c at h
 split at h
 ·rename_i base len cap xb' n' c' heq
  cases heq
  rw [h1C hn] at h
  split at h
  ·split at h
   ·cases h
   ·split at h
    ·cases h
    ·split at h
     ·cases h
     ·split at h
      ·split at h
       ·cases h;exact ⟨_,_,rfl⟩
       ·cases h
      ·split at h
       ·cases h;exact ⟨_,_,rfl⟩
       split at h
       ·cases h
       ·split at h
        ·cases h;exact ⟨_,_,rfl⟩
        ·split at h
         ·split at h
          ·cases h;exact ⟨_,_,rfl⟩
          ·cases h
         ·cases h
  ·cases h
 ·cases h
def LxT (e:Nat) (H G:a0f):Prop:=∀ b ro cs,H.blk b=.row ro e cs→G.blk b=.row ro e cs
theorem b0e.lxT {α:Type} {P:a0f→List Value→α→Prop} {fl e sz e':Nat} {v:Value} {l:List α} (h:b0e P fl G e sz v l) (he:e ≠ e') {G':a0f} (hx:e0p (slB v) G G'):LxT e' G G':=by
 intro b ro cs hb
 obtain ⟨cs',⟨hl,⟨rfl,_⟩ | ⟨p,cap,rfl,hp,_⟩⟩,_⟩:=h
 ·rw [hx.2 b (a0l hb) (by simp [slB])];exact hb
 ·rw [hx.2 b (a0l hb) (by simp [slB];rintro rfl;rw [hp] at hb;cases hb;exact he rfl)];exact hb
theorem a0O.lx2 {l:List b0q} (h:a0O H v l) (h1:LxT a0b H G) (h2:Lx H G):a0O G v l:=by
 obtain ⟨cs,⟨hl,hs⟩,hp⟩:=h
 refine ⟨cs,⟨hl,?_⟩,fun k hk=>b0L.lx (hp k hk) h2⟩
 rcases hs with hs | ⟨b,off,cap,ro,cells,rfl,hb,ho,hcs⟩
 ·exact .inl hs
 ·exact .inr ⟨b,off,cap,ro,cells,rfl,h1 _ _ _ hb,ho,hcs⟩
theorem a0O.off {l:List b0q} {o:Option Nat} (h:a0O H v l) (hx:e0p o H G) (hne:slB v=none ∨ slB v ≠ o) (h2:Lx H G):a0O G v l:=by
 obtain ⟨cs,⟨hl,hs⟩,hp⟩:=h
 refine ⟨cs,⟨hl,?_⟩,fun k hk=>b0L.lx (hp k hk) h2⟩
 rcases hs with hs | ⟨b,off,cap,ro,cells,rfl,hb,ho,hcs⟩
 ·exact .inl hs
 ·refine .inr ⟨b,off,cap,ro,cells,rfl,?_,ho,hcs⟩
  rw [hx.2 b (a0l hb) (by rcases hne with h | h;simp [slB] at h;exact fun h3=>h h3.symm)];exact hb
theorem a0O.lt {l:List b0q} (h:a0O H v l) {b:Nat} (hb:slB v=some b):b < H.size:=by
 obtain ⟨cs,⟨hl,⟨rfl,_⟩ | ⟨b',off,cap,ro,cells,rfl,hb',ho,hcs⟩⟩,hp⟩:=h
 ·simp [slB] at hb
 ·simp [slB] at hb;subst hb;exact a0l hb'
def PSo (o:Option Nat) (H:a0f) (cs:List Value) (l:List b0q):Prop:=∃ v,cs=[v]∧a0O H v l∧(slB v=none ∨ slB v ≠ o)
theorem i0T {o:Option Nat}:l0i (PSo o):=fun _ _ _ _ hx ⟨v,h1,h2,h3⟩=>⟨v,h1,h2.mono a0u hx,h3⟩
structure LPt where
 n:Int
 A:List (List b0q)
 B:List b0q
 C:List b0q
def LPV (H:a0f) (v:Value) (p:LPt):Prop:=∃ sA sB sC,v=.agg #[.int .i64 p.n,sA,sB,sC]∧d0o H sA p.A∧a0O H sB p.B∧a0O H sC p.C
def b0J:List (List b0q)→List d0h→List (List b0q)
 | r :: rs,e :: es=>if e.1=0 then h0P r :: b0J rs es else b0J rs es
 | _,_=>[]
def c0N:List (List b0q)→List d0h→List b0q
 | _ :: rs,e :: es=>if e.1=0 then a0e (b0o e.2) :: c0N rs es else c0N rs es
 | _,_=>[]
theorem h0Q:∀ {rows:List (List b0q)} {d:List d0h} {i:Nat} (h1:i < rows.length) (h2:i < d.length),b0J (rows.take (i + 1)) (d.take (i + 1))=b0J (rows.take i) (d.take i) ++ if d[i].1=0 then [h0P rows[i]] else []
 | [],_,_,h,_=>by simp at h
 | _ :: _,[],_,_,h=>by simp at h
 | r :: rs,e :: es,0,_,_=>by simp [b0J]
 | r :: rs,e :: es,i + 1,h1,h2=>by
  have:=h0Q (rows:=rs) (d:=es) (i:=i) (by simpa using h1) (by simpa using h2)
  simp only [List.take_succ_cons,b0J,this,j1V]
  split <;> simp
theorem h0R:∀ {rows:List (List b0q)} {d:List d0h} {i:Nat} (_:i < rows.length) (h2:i < d.length),c0N (rows.take (i + 1)) (d.take (i + 1))=c0N (rows.take i) (d.take i) ++ if d[i].1=0 then [a0e (b0o d[i].2)] else []
 | [],_,_,h,_=>by simp at h
 | _ :: _,[],_,_,h=>by simp at h
 | r :: rs,e :: es,0,_,_=>by simp [c0N]
 | r :: rs,e :: es,i + 1,h1,h2=>by
  have:=h0R (rows:=rs) (d:=es) (i:=i) (by simpa using h1) (by simpa using h2)
  simp only [List.take_succ_cons,c0N,this,j1V]
  split <;> simp
theorem r0d (H:a0f):∀ n:Nat,(f0y [.bool false,.slice none 0 0,.bool false,.slice none 0 0] n).length=n * 4∧∀ k,k < n→PR H (((f0y [.bool false,.slice none 0 0,.bool false,.slice none 0 0] n).drop (k * 4)).take 4) d0P
 | 0=>⟨rfl,fun k hk=>by omega⟩
 | n + 1=>by
  obtain ⟨h1,h2⟩:=r0d H n
  refine ⟨by rw [f0y,i1l,h1];simp;omega,fun k hk=>?_⟩
  cases k with
  | zero=>exact e0T
  | succ k =>
   have:=h2 k (by omega)
   rw [f0y,show (k + 1) * 4=4 + k * 4 by omega,← j1J]
   exact this
theorem b0e.ne {α:Type} {Q:a0f→List Value→α→Prop} {fl e sz e' p:Nat} {v:Value} {l:List α} {cs:List Value} {ro:Bool} (h:b0e Q fl G e sz v l) (hb:a0f.blk G p=.row ro e' cs) (he:e ≠ e'):slB v ≠ some p:=by
 obtain ⟨cs',⟨hl,⟨rfl,_⟩ | ⟨b,cap,rfl,hp,_⟩⟩,_⟩:=h
 ·simp [slB]
 ·simp [slB];rintro rfl;rw [hp] at hb;cases hb;exact he rfl
theorem b0e.ge {α:Type} {Q:a0f→List Value→α→Prop} {fl e sz:Nat} {v:Value} {l:List α} (h:b0e Q fl G e sz v l) {b:Nat} (hb:slB v=some b):fl≤b∧b < G.size:=by
 obtain ⟨cs',⟨hl,⟨rfl,_⟩ | ⟨b',cap,rfl,hp,hf⟩⟩,_⟩:=h
 ·simp [slB] at hb
 ·simp [slB] at hb;subst hb;exact ⟨hf,a0l hp⟩
theorem b0e.cells {α:Type} {Q:a0f→List Value→α→Prop} {fl e sz:Nat} {v:Value} {l:List α} (h:b0e Q fl G e sz v l):a0U v=[v]∧a0F v=true:=⟨h.sls.cells,h.sls.plain⟩
theorem b0e.low {α:Type} {Q:a0f→List Value→α→Prop} {fl fl' e sz:Nat} {v:Value} {l:List α} (h:b0e Q fl G e sz v l) (hl:fl'≤fl):b0e Q fl' G e sz v l:=by
 obtain ⟨cs',⟨hl',h1 | ⟨b',cap,rfl,hp,hf⟩⟩,h2⟩:=h
 ·exact ⟨cs',⟨hl',.inl h1⟩,h2⟩
 ·exact ⟨cs',⟨hl',.inr ⟨b',cap,rfl,hp,by omega⟩⟩,h2⟩
theorem b0e.off {α:Type} {Q:a0f→List Value→α→Prop} {fl e sz:Nat} {v:Value} {l:List α} {o:Option Nat} {G':a0f} (h:b0e Q fl G e sz v l) (hx:e0p o G G') (hne:slB v=none ∨ slB v ≠ o) (hQ:∀ cs x,Q G cs x→Q G' cs x):b0e Q fl G' e sz v l:=by
 obtain ⟨cs',⟨hl',h1 | ⟨b',cap,rfl,hp,hf⟩⟩,h2⟩:=h
 ·exact ⟨cs',⟨hl',.inl h1⟩,fun k hk=>hQ _ _ (h2 k hk)⟩
 ·refine ⟨cs',⟨hl',.inr ⟨b',cap,rfl,?_,hf⟩⟩,fun k hk=>hQ _ _ (h2 k hk)⟩
  rw [hx.2 b' (a0l hp) (by rcases hne with h | h;simp [slB] at h;exact fun h3=>h h3.symm)];exact hp
theorem b0e.lxm {α:Type} {Q:a0f→List Value→α→Prop} {fl e sz:Nat} {v:Value} {l:List α} {G':a0f} {Q':a0f→List Value→α→Prop} (h:b0e Q fl G e sz v l) (hx:LxT e G G') (hQ:∀ cs x,Q G cs x→Q' G' cs x):b0e Q' fl G' e sz v l:=by
 obtain ⟨cs',⟨hl',h1 | ⟨b',cap,rfl,hp,hf⟩⟩,h2⟩:=h
 ·exact ⟨cs',⟨hl',.inl h1⟩,fun k hk=>hQ _ _ (h2 k hk)⟩
 ·exact ⟨cs',⟨hl',.inr ⟨b',cap,rfl,hx _ _ _ hp,hf⟩⟩,fun k hk=>hQ _ _ (h2 k hk)⟩
theorem b0e.blkOf {α:Type} {Q:a0f→List Value→α→Prop} {fl e sz:Nat} {v:Value} {l:List α} (h:b0e Q fl G e sz v l):AI.blkW v=[] ∨ ∃ b,AI.blkW v=[b]∧slB v=some b:=by
 obtain ⟨cs',⟨hl',⟨rfl,_⟩ | ⟨b',cap,rfl,hp,hf⟩⟩,h2⟩:=h
 ·exact .inl rfl
 ·by_cases h00:l.length=0∧cap=0
  ·exact .inl (by simp only [AI.blkW];rw [h1F h00])
  ·exact .inr ⟨b',by simp only [AI.blkW];rw [h1C h00],rfl⟩
theorem b0m {G3:a0f} {q e e':Nat} {X:Blk} {cs:List Value} {ro:Bool} (hS:Array.setIfInBounds G q X=G3) (hb:a0f.blk G q=.row ro e' cs) (hne:e' ≠ e):LxT e G G3:=by
 intro b ro' cs' hb'
 rw [← hS,b0h (by rintro rfl;rw [hb] at hb';cases hb';exact hne rfl)];exact hb'
theorem d0o.lx3 {l:List (List b0q)} (h:d0o H v l) (h0:LxT a0R H G) (h1:LxT a0b H G) (h2:Lx H G):d0o G v l:=by
 obtain ⟨cs,⟨hl,hs⟩,hp⟩:=h
 refine ⟨cs,⟨hl,?_⟩,fun k hk=>?_⟩
 ·rcases hs with hs | ⟨b,off,cap,ro,cells,rfl,hb,ho,hcs⟩
  ·exact .inl hs
  ·exact .inr ⟨b,off,cap,ro,cells,rfl,h0 _ _ _ hb,ho,hcs⟩
 ·obtain ⟨w,q1,q2⟩:=hp k hk;exact ⟨w,q1,q2.lx2 h1 h2⟩
theorem j0F:∀ (rows:List (List b0q)) (d:List d0h),(b0J rows d).length≤d.length
 | [],_=>by simp [b0J]
 | _ :: _,[]=>by simp [b0J]
 | r :: rs,e :: es=>by have:=j0F rs es;simp only [b0J];split <;> simp <;> omega
theorem m0y:∀ (rows:List (List b0q)) (d:List d0h),(c0N rows d).length≤d.length
 | [],_=>by simp [c0N]
 | _ :: _,[]=>by simp [c0N]
 | r :: rs,e :: es=>by have:=m0y rs es;simp only [c0N];split <;> simp <;> omega
theorem b0e.imp {α:Type} {Q Q':a0f→List Value→α→Prop} {fl e sz:Nat} {v:Value} {l:List α} (h:b0e Q fl G e sz v l) (hQ:∀ cs x,Q G cs x→Q' G cs x):b0e Q' fl G e sz v l:=by
 obtain ⟨cs',h1,h2⟩:=h;exact ⟨cs',h1,fun k hk=>hQ _ _ (h2 k hk)⟩
def z0C (H:a0f) (P m:Nat) (s w sC:Value) (rows:List (List b0q)) (d:List d0h) (i:Nat) (ρ:Nat→Value) (G:a0f):Prop :=
 ρ 3=.pointer (some ⟨H.size,0,none⟩)∧ρ 6=.pointer (some ⟨H.size + 1,0,none⟩)∧ρ 8=.pointer (some ⟨P,0,none⟩)∧ρ 26=w∧Ext H G ∧
  a0f.blk G H.size=.row false a0J [s]∧a0f.blk G (H.size + 1)=.row false b0j [.int .i64 0,.slice none 0 0,.slice none 0 0,.slice none 0 0] ∧
  ∃ sA sB,a0f.blk G P=.row false b0j [.int .i64 (m:Int),sA,sB,sC]∧b0e (PSo (slB sB)) H.size G a0R 1 sA (b0J (rows.take i) (d.take i)) ∧
   b0e PR H.size G a0b 4 sB (c0N (rows.take i) (d.take i))∧a0O G sC (List.replicate m (a0e 0))∧(slB sC=none ∨ slB sC ≠ slB sB)
theorem l0k {S:Nat} {rows:List (List b0q)} {n:Int} {d:List d0h} (h:d0q H v rows) (hd:d0n H w d) (hf:fl≤H.size) (hS:S < 67108864) (hr:∀ r ∈ rows,Few S r∧r.length < 1073741824) (hrl:rows.length < 1073741824) (hfd:z0s d) (hdl:d.length < 1073741824) :
  a0S env fl Y0G [v,.int .i64 n,w] H (fun r H'=>(if c0x rows n d=true∧d0G (fun e=>decide (e.1 < 0)) d=false then ∃ p,r=.tuple #[p,.bool true]∧LPV H' p ⟨n,b0J rows d,c0N rows d,List.replicate n.toNat (a0e 0)⟩ else ∃ p,r=.tuple #[p,.bool false]∧LPV H' p ⟨0,[],[],[]⟩)∧Ext H H') R:=by
 obtain ⟨s,rfl,hs⟩:=h
 refine a0i g1i hf (h:=?_)
 intro ρ h0
 simp [b1A,O0L,h0,hs.cells]
 generalize hG:Array.push (Array.push H _) _=G
 have hx:Ext H G:=by rw [← hG];exact (Ext.refl H).push.push
 have b0:a0f.blk G H.size=.row false a0J [s]:=by rw [← hG];simp
 have b1:a0f.blk G (H.size + 1)=.row false b0j [.int .i64 0,.slice none 0 0,.slice none 0 0,.slice none 0 0]:=by rw [← hG];simp
 clear hG
 have kt:d0q G (.agg #[s]) rows:=⟨s,rfl,hs.mono b0F hx⟩
 simp [O0M,h0,b0]
 refine (i0A kt (hd.mono d0J hx) hx.1 hS hr hrl hfd hdl).mono ?_
 rintro _ G2 ⟨rfl,hx2⟩
 replace b0:=hx2.blk b0;replace b1:=hx2.blk b1;replace hx:=hx.trans hx2
 cases hv:c0x rows n d
 ·have hz:=a0l b1
  simp [I0g,h0,b1,hz]
  exact fun _=>⟨_,_,_,rfl,Sls.nil,Sls.nil,Sls.nil⟩
 simp [h0]
 refine (p0D (hd.mono d0J hx) hx.1 hfd hdl).mono ?_
 rintro _ G2 ⟨rfl,hx2⟩
 replace b0:=hx2.blk b0;replace b1:=hx2.blk b1;replace hx:=hx.trans hx2
 cases hno:d0G (fun e:d0h=>decide (e.1 < 0)) d
 case true =>
  have hz:=a0l b1
  simp [I0g,h0,b1,hz]
  exact fun _=>⟨_,_,_,rfl,Sls.nil,Sls.nil,Sls.nil⟩
 have hvv:=hv
 unfold c0x h0x at hvv
 simp at hvv
 obtain ⟨⟨⟨⟨⟨hn0,hn6⟩,_⟩,_⟩,hdr⟩,_⟩:=hvv
 obtain ⟨m,rfl⟩:∃ m:Nat,n=m:=⟨n.toNat,by omega⟩
 have hmk:=h0d (bytes:=64) (k:=.i64) (k':=.i64) (l:=m) (c:=m) (h1A _) (by omega) (by omega)
 simp [O0N,h0,hmk]
 generalize hN:Array.push G2 _=G3
 obtain ⟨hx2,b2⟩:=g0r hN
 clear hN
 replace b0:=hx2.blk b0;replace b1:=hx2.blk b1;replace hx:=hx.trans hx2
 obtain ⟨hrl1,hrl2⟩:=r0d G3 m
 have kz:a0O G3 (.slice (some ⟨G2.size,0,none⟩) m m) (List.replicate m d0P):=by
  refine ⟨_,(Own.mk (fl:=0) (cap:=m) b2 hrl1 (i1C _)).sl |> (fun h=>by simpa using h),fun k hk=>?_⟩
  rw [List.getElem_replicate];exact hrl2 k (by simpa using hk)
 refine (k0R (S:=0) kz hx.1 (fun x hx=>by rw [j1r] at hx;rw [hx.2];exact ⟨h1A _,by intro y hy;simp [d0P] at hy,by intro y hy;simp [d0P] at hy⟩) (by omega) (by simp;omega)).mono ?_
 rintro sC G4 ⟨hC,hx2⟩
 replace b0:=hx2.blk b0;replace b1:=hx2.blk b1;replace hx:=hx.trans hx2
 have hown:h0P (List.replicate m d0P)=List.replicate m (a0e 0):=by unfold h0P;simp [c0C]
 rw [hown] at hC
 have kC:=hC.sls
 have hsz:=hx.1
 have hb1l:=a0l b1
 simp [h0,kC.cells,kC.plain,hsz]
 generalize hN:Array.setIfInBounds (Array.push _ _) _ _=G5
 obtain ⟨hx2,b3⟩:=new1 hN
 clear hN
 replace b0:=hx2.blk b0;replace b1:=hx2.blk b1;replace hx:=hx.trans hx2
 replace kC:=kC.mono a0u hx2
 obtain ⟨P,hP⟩:∃ P,P=G4.size:=⟨_,rfl⟩
 rw [← hP] at b3 hsz ⊢
 have hPH:=hsz
 have hPne:P ≠ H.size + 1:=by omega
 simp [O0O,h0,hd.slen]
 refine d0Q (n:=d.length) (z0C H P m s w sC rows d) rfl rfl (by decide) (by omega) (by simp) (by simp) ?_ ?_ ?_ ?_
 ·exact ⟨by simp,by simp,by simp,by simp [h0],hx,b0,b1,_,_,b3,by simpa [b0J] using b0e.nil,by simpa [c0N] using b0e.nil,kC,by
   cases hsc:slB sC with
   | none=>exact .inl rfl
   | some b=>right;simp [slB]⟩
 ·intro i ρ ρ' G h hI;simpa [z0C,h] using hI
 ·clear h0 ρ hx b0 b1 b3 kC hC hx2
  rintro i ρ G hi gi gn ⟨g3,g6,g8,g26,hx,b0,b1,sA,sB,b3,hA,hB,kC,hCB⟩
  have hir:i < rows.length:=by omega
  have kd:=hd.mono d0J hx
  have ks:=hs.mono b0F hx
  obtain ⟨we,hle,k0⟩:=d0n.load kd hi
  obtain ⟨s1,s2,rfl,k1,k2⟩:=id k0
  have hsz:=hx.1
  simp [O0P,g26,gi,kd.ia hi,hle,k1.cells,k1.plain,k2.cells,k2.plain,hsz]
  generalize hN:Array.setIfInBounds (Array.push _ _) _ _=G3
  obtain ⟨hx2,b4⟩:=new1 hN
  clear hN
  replace b0:=hx2.blk b0;replace b1:=hx2.blk b1;replace b3:=hx2.blk b3;replace hx:=hx.trans hx2;replace k1:=k1.mono hx2;replace k2:=k2.mono hx2
  replace ks:=ks.mono b0F hx2
  replace hA:=hA.mono i0T hx2
  replace hB:=hB.mono a0u hx2
  replace kC:=kC.mono a0u hx2
  obtain ⟨P2,hP2⟩:∃ P2,P2=G.size:=⟨_,rfl⟩
  rw [← hP2] at b4 hsz ⊢
  by_cases he:d[i].1=0
  ·simp [I0h,b4,he]
   refine e0y ?_
   obtain ⟨wr,hlr,kr⟩:=d0o.load ks hir
   simp [O0Q,g3,g8,b3,b0,ks.ia hir,hlr]
   have hBlt:∀ b,slB sB=some b→b < G3.size:=fun b h=>(hB.ge h).2
   have hlA:=j0F (rows.take i) (d.take i)
   have hlB:=m0y (rows.take i) (d.take i)
   simp only [i1E] at hlA hlB
   refine (k0R kr (by have:=hx.1;omega) (hr _ (h1I hir)).1 hS (hr _ (h1I hir)).2).mono ?_
   rintro r G2 ⟨kw,hx2⟩
   replace b0:=hx2.blk b0;replace b1:=hx2.blk b1;replace b3:=hx2.blk b3;replace b4:=hx2.blk b4;replace hx:=hx.trans hx2;replace k1:=k1.mono hx2;replace k2:=k2.mono hx2
   replace hA:=hA.mono i0T hx2
   replace hB:=hB.mono a0u hx2
   replace kC:=kC.mono a0u hx2
   have hrB:slB r=none ∨ slB r ≠ slB sB:=by
    cases hr1:slB r with
    | none=>exact .inl rfl
    | some b =>
     right;intro h
     have:=(kw.ge hr1).1
     have:=hBlt b h.symm
     omega
   obtain ⟨cr,pr⟩:=kw.cells
   obtain ⟨sA',G5,h1,h2,h3,h4⟩:=b0e.app (P:=PSo (slB sB)) (sz:=1) (e:=a0R) (by decide)
    (fun G' cs x hxb hl ⟨w',q1,q2,q3⟩=>⟨w',q1,q2.lx2 (hA.lxT (by decide) hxb) hl,q3⟩) hA (e2:=a0R) (c:=1) (bytes:=24) (new:=[r]) (x:=h0P rows[i]) ⟨r,rfl,kw.sls,hrB⟩ rfl (by simp [pr]) (by omega) (by omega) (by omega) hx.1
   obtain ⟨_,_,hAe⟩:=e0t (by decide) h1
   have hlx:=hA.lx (by decide) h3
   have hlr:=hA.lxT (e':=a0b) (by decide) h3
   have nA0:=hA.ne b0 (by decide)
   have nA1:=hA.ne b1 (by decide)
   have nA3:=hA.ne b3 (by decide)
   have nA4:=hA.ne b4 (by decide)
   have hAo:=hA.blkOf
   replace b0:=(h3.2 _ (a0l b0) nA0).trans b0
   replace b1:=(h3.2 _ (a0l b1) nA1).trans b1
   replace b3:=(h3.2 _ (a0l b3) nA3).trans b3
   replace b4:=(h3.2 _ (a0l b4) nA4).trans b4
   replace hx:=h4 _ (h1A _) hx
   replace k1:=k1.lx hlx
   replace k2:=k2.lx hlx
   replace kC:=a0O.lx2 kC hlr hlx
   replace hB:=hB.lxm (Q':=PR) hlr (fun cs x h=>b0L.lx h hlx)
   simp [g8,b3,b4,cr,h1]
   refine (c0j (a:=d[i].2) ⟨s1,s2,rfl,k1,k2⟩ (b:=d0P) e0T (by have:=hx.1;omega) (hfd _ (h1I hi)) (by decide)).mono ?_
   rintro _ G6 ⟨⟨s3,s4,rfl,k3,k4⟩,hx2⟩
   replace b0:=hx2.blk b0;replace b1:=hx2.blk b1;replace b3:=hx2.blk b3;replace b4:=hx2.blk b4;replace hx:=hx.trans hx2
   replace hA:=h2.mono i0T hx2
   replace hB:=hB.mono a0u hx2
   replace kC:=kC.mono a0u hx2
   rw [c0C,j1O] at k3 k4 ⊢
   obtain ⟨sB',G7,p1,p2,p3,p4⟩:=b0e.app (P:=PR) (sz:=4) (e:=a0b) (by decide) (fun G' cs x _ hl h=>b0L.lx h hl) hB (e2:=a0b) (c:=1) (bytes:=64) (new:=[.bool (a0e (b0o d[i].2)).1.1,s3,.bool (a0e (b0o d[i].2)).2.1,s4]) (x:=a0e (b0o d[i].2)) ⟨s3,s4,rfl,k3,k4⟩ rfl (by simp [k3.plain,k4.plain]) (by omega) (by omega) (by omega) hx.1
   obtain ⟨_,_,hBe⟩:=e0t (by decide) p1
   have hlx:=hB.lx (by decide) p3
   have nB0:=hB.ne b0 (by decide)
   have nB1:=hB.ne b1 (by decide)
   have nB3:=hB.ne b3 (by decide)
   have nB4:=hB.ne b4 (by decide)
   have hsBn:slB sB' = some (G6.size + 1):=by rw [hBe];simp [slB]
   have hA':b0e (PSo (slB sB')) H.size G7 a0R 1 sA' (b0J (rows.take (i + 1)) (d.take (i + 1))):=by
    rw [h0Q hir hi,h1F he]
    refine hA.lxm (hB.lxT (by decide) p3) (fun cs x ⟨w',q1,q2,q3⟩=>⟨w',q1,q2.off p3 q3 hlx,?_⟩)
    cases hw:slB w' with
    | none=>exact .inl rfl
    | some b=>right;rw [hsBn];have:=q2.lt hw;simp;omega
   have hCB':slB sC=none ∨ slB sC ≠ slB sB':=by
    cases hw:slB sC with
    | none=>exact .inl rfl
    | some b=>right;rw [hsBn];have:=a0O.lt kC hw;simp;omega
   replace kC:=a0O.off kC p3 hCB hlx
   replace b0:=(p3.2 _ (a0l b0) nB0).trans b0
   replace b1:=(p3.2 _ (a0l b1) nB1).trans b1
   replace b3:=(p3.2 _ (a0l b3) nB3).trans b3
   replace hx:=p4 _ (h1A _) hx
   have hB':b0e PR H.size G7 a0b 4 sB' (c0N (rows.take (i + 1)) (d.take (i + 1))):=by rw [h0R hir hi,h1F he];exact p2
   obtain ⟨cA,pA⟩:=hA'.cells
   obtain ⟨cB,pB⟩:=hB'.cells
   have hz:=a0l b3
   simp [g8,b3,k3.cells,k4.cells,p1,cA,pA,cB,pB,hPH,hz]
   generalize hS1:Array.setIfInBounds G7 P _=G8
   have t1:∀ {e:Nat},b0j ≠ e→LxT e G7 G8:=fun hne=>b0m hS1 b3 hne
   have n0:P ≠ H.size:=by intro h;rw [h,b0] at b3;cases b3
   have hbo:∀ x,x ∈ blkW sA→slB sA=some x:=by
    rcases hAo with h | ⟨b,h,h'⟩
    ·rw [h];simp
    ·rw [h,h'];simp
   refine ⟨⟨fun x hx h=>nA3 (by rw [hbo x hx,h]),fun x hx h=>nA4 (by rw [hbo x hx,h])⟩,Rnd.mk (by simp [gi]) (by simp [gn]) ⟨by simp [g3],by simp [g6],by simp [g8],by simp [g26],a0E hS1 hx hPH,a0o hS1 b0 n0,a0o hS1 b1 hPne,sA',sB',a0s hS1 b3,?_,?_,?_,hCB'⟩⟩
   ·exact hA'.lxm (t1 (by decide)) (fun cs x ⟨w',q1,q2,q3⟩=>⟨w',q1,q2.lx2 (t1 (by decide)) (t1 (by decide)),q3⟩)
   ·exact hB'.lxm (t1 (by decide)) (fun cs x h=>b0L.lx h (t1 (by decide)))
   ·exact a0O.lx2 kC (t1 (by decide)) (t1 (by decide))
  ·simp [I0h,b4,he]
   refine Rnd.mk (by simp [gi]) (by simp [gn]) ⟨by simp [g3],by simp [g6],by simp [g8],by simp [g26],hx,b0,b1,sA,sB,b3,?_,?_,kC,hCB⟩
   ·rw [h0Q hir hi,h1C he,List.append_nil];exact hA
   ·rw [h0R hir hi,h1C he,List.append_nil];exact hB
 ·clear h0 ρ hx b0 b1 b3 kC hC hx2
  rintro ρ G gi gn ⟨g3,g6,g8,g26,hx,b0,b1,sA,sB,b3,hA,hB,kC,hCB⟩
  rw [h1O (by omega),h1T] at hA hB
  have hz:=a0l b1
  obtain ⟨cA,pA⟩:=hA.cells
  obtain ⟨cB,pB⟩:=hB.cells
  simp [I0f,g6,g8,b3,b1,cA,pA,cB,pB,kC.cells,kC.plain,hz]
  generalize hS:Array.setIfInBounds _ _ _=G9
  have t1:∀ {e:Nat},b0j ≠ e→LxT e G G9:=fun hne=>b0m hS b1 hne
  refine fun _=>⟨sA,sB,sC,rfl,?_,a0O.lx2 hB.sls (t1 (by decide)) (t1 (by decide)),a0O.lx2 kC (t1 (by decide)) (t1 (by decide))⟩
  exact d0o.lx3 (hA.imp (fun cs x ⟨w',q1,q2,_⟩=>⟨w',q1,q2⟩)).sls (t1 (by decide)) (t1 (by decide)) (t1 (by decide))
end
section
open Go
def c0f (nt i:Nat) (Inv:Nat→(Nat→Value)→a0f→Prop) (t:b0b) (H:a0f):Prop:=∃ ρ2,t=T nt ρ2∧Inv (i + 1) ρ2 H
theorem c0f.mk {nt i:Nat} {Inv:Nat→(Nat→Value)→a0f→Prop} {ρ:Nat→Value} {H:a0f} (h:Inv (i + 1) ρ H):c0f nt i Inv (T nt ρ) H:=⟨ρ,rfl,h⟩
theorem b0a {n:Nat} (h:n < 4611686018427387904):IntKind.i64.wrap ((n:Int) + 1)=((n + 1:Nat):Int):=by rw [a0Y (by omega) (by omega)];omega
def e0N (E:Env) (fl nt:Nat) (rx:List a0L) (R:a0G) (i:Nat) (Inv:Nat→(Nat→Value)→a0f→Prop) (t:b0b) (H:a0f):Prop :=
 WR E fl rx t H (c0f nt i Inv) R
def d0L (E:Env) (fl nt tc b b2 n:Nat) (body:SCode) (rx:List a0L) (Z:b0b→a0f→Prop) (Q:d0X) (R:a0G) (i:Nat) (Inv:Nat→(Nat→Value)→a0f→Prop) (t:b0b) (H:a0f):Prop :=
 ∃ ρ',t=T nt ρ'∧ρ' tc=.bool (decide (i < n))∧(i < n→W E fl body (T nt ρ') H (z0v b2 b (e0N E fl nt rx R i Inv) Z Q) R)∧(i=n→Z (T nt ρ') H)
section
variable {E:Env} {fl nt tc b b2 n i:Nat} {body:SCode} {rx rc:List a0L} {Z:b0b→a0f→Prop} {Q:d0X} {R:a0G} {Inv:Nat→(Nat→Value)→a0f→Prop} {ρ:Nat→Value} {H:a0f}
theorem d0L.mk (h1:ρ tc=.bool (decide (i < n))) (h2:i < n→W E fl body (T nt ρ) H (z0v b2 b (e0N E fl nt rx R i Inv) Z Q) R) (h3:i=n→Z (T nt ρ) H):d0L E fl nt tc b b2 n body rx Z Q R i Inv (T nt ρ) H:=⟨ρ,rfl,h1,h2,h3⟩
theorem c0q (Inv:Nat→(Nat→Value)→a0f→Prop) (n:Nat) (htc:tc < nt) (hI:Inv 0 ρ H)
  (step:∀ i ρ G,i≤n→Inv i ρ G→WR E fl rc (T nt ρ) G (d0L E fl nt tc b b2 n body rx Z Q R i Inv) R) :
  W E fl (.loop (.seq (.seq (.reg rc) (.cond (.tmp tc) .skip (.exit b))) (.seq (.block b2 body) (.reg rx)))) (T nt ρ) H (e0P b (i0s Z Q)) R:=by
 refine b0Y (fun k t G=>∃ i ρ,i + k=n∧t=T nt ρ∧Inv i ρ G) Z n ⟨0,ρ,by omega,rfl,hI⟩ ?_ (fun _ _ h=>h)
 clear hI
 rintro k t G ⟨i,ρ,hik,rfl,hI⟩
 refine h0Y (h0Y (l0Q ((step i ρ G (by omega) hI).mono ?_)))
 rintro t' G' ⟨ρ',rfl,h1,h2,h3⟩
 simp only [e0x]
 by_cases hi:i < n
 ·have hd:ρ' tc=.bool true:=by rw [h1,decide_eq_true hi]
  refine l0O true (by rw [k0S,b0V htc,hd]) (fun _=>v0H ?_) (by simp)
  simp only [e0x]
  refine h0Y (p0u ((h2 hi).mono fun e t2 G2 hq=>?_))
  have fin:e0N E fl nt rx R i Inv t2 G2→i0s (fun t' H'=>W E fl (.reg rx) t' H' (n0U b (fun t' H'=>∃ k',k' < k∧∃ i ρ,i + k' = n∧t' = T nt ρ∧Inv i ρ H') Z Q) R) (n0U b (fun t' H'=>∃ k',k' < k∧∃ i ρ,i + k' = n∧t' = T nt ρ∧Inv i ρ H') Z Q) .normal t2 G2:=by
   intro h
   refine l0Q (h.mono ?_)
   rintro t3 G3 ⟨ρ3,rfl,h4⟩
   exact ⟨k - 1,by omega,i + 1,ρ3,by omega,rfl,h4⟩
  cases e with
  | normal=>exact fin hq
  | exit j =>
   simp only [z0v] at hq
   show (if j=b2 then _ else _)
   by_cases hj:j=b2
   ·rw [h1F hj] at hq ⊢;exact fin hq
   ·rw [h1C hj] at hq ⊢
    show (if j=b then _ else _)
    by_cases hj2:j=b
    ·rw [h1F hj2] at hq ⊢;exact hq
    ·rw [h1C hj2] at hq ⊢;exact hq
  | ret=>exact hq
 ·have he:i=n:=by omega
  have hd:ρ' tc=.bool false:=by rw [h1,decide_eq_false hi]
  refine l0O false (by rw [k0S,b0V htc,hd]) (by simp) (fun _=>v0G ?_)
  show (if b=b then _ else _)
  rw [h1F rfl]
  exact h3 he
end
end
section
open Go
set_option maxHeartbeats 4000000
variable {fl:Nat} {H G:a0f} {R:a0G} {v w:Value}
theorem Sls.at_ {α:Type} {P:a0f→List Value→α→Prop} {e sz:Nat} {l:List α} (h:Sls P H e sz v l) {j:Nat} (hj:j < l.length) (hs:0 < sz) :
  ∃ b o cs,adr sz v j=.pointer (some ⟨b,o,none⟩)∧cs.length=sz∧P H cs l[j]∧b0x H true sz (.pointer (some ⟨b,o,none⟩))=some (.agg cs.toArray) ∧
   (∀ k n,k + n≤sz→0 < n→b0x H true n (.pointer (some ⟨b,o + k,none⟩))=some (.agg ((cs.drop k).take n).toArray)) ∧
   ∀ k,k < sz→b0x H false 1 (.pointer (some ⟨b,o + k,none⟩))=some (cs.getD k undef):=by
 obtain ⟨cs,⟨hl,h1⟩,h2⟩:=h
 have h3:=h2 j hj
 rcases h1 with ⟨rfl,h1⟩ | ⟨b,off,cap,ro,cells,rfl,hb,ho,rfl⟩
 ·omega
 ·have hj2:(j + 1) * sz≤l.length * sz:=h1J sz hj
  rw [h1X,i1r] at hj2
  have e1:(((cells.drop off).take (l.length * sz)).drop (j * sz)).take sz=(cells.drop (off + j * sz)).take sz:=by
   rw [k1C,k1f,j1J,i1N (by omega)]
  rw [e1] at h3
  have agg:∀ k n,k + n≤sz→0 < n→b0x H true n (.pointer (some ⟨b,off + j * sz + k,none⟩))=some (.agg ((((cells.drop (off + j * sz)).take sz).drop k).take n).toArray):=by
   intro k n hk hn
   have hc:=h0J (off:=off + j * sz + k) (n:=n) hb (by omega)
   simp only [b0x]
   rw [h1C (by omega),h1C (by simp)]
   simp only [i1s,hc]
   rw [k1C,k1f,j1J,i1N (by omega)]
  refine ⟨b,off + j * sz,_,rfl,by simp;omega,h3,?_,agg,?_⟩
  ·have:=agg 0 sz (by omega) hs
   simpa [k1f] using this
  ·intro k hk
   have hc:=h0J (off:=off + j * sz + k) (n:=1) hb (by omega)
   simp only [b0x]
   rw [h1C (by simp),h1C (by simp)]
   simp only [hc,i1a,i1F]
   rw [List.head?_take,h1C (by simp),List.head?_drop,h1z,i1S,h1F (by omega),i1Z]
   rw [h1E (by omega)]
   rfl
def f0r (a:b0q):Bool:=decide (6 < a.1.2.length) || decide (6 < a.2.2.length)
def g0B (e:d0h):Bool:=f0r e.2
theorem l0K {l:List b0q} (h:a0O H v l) (hf:fl≤H.size) (hl:l.length < 1073741824):a0S env fl X0e [v] H (fun r H'=>r=.bool (d0G f0r l)∧Ext H H') R:=by
 refine a0i g1B hf (h:=?_)
 intro ρ h0
 simp [b1T,Q0V,Q0W,h0]
 refine c0q (fun n ρ G=>ρ 0=v∧ρ 3=.int .i64 (n:Int)∧Ext H G∧d0G f0r (l.take n)=false) l.length (by decide) (by simp [h0,f0M]) ?_
 clear h0 ρ
 rintro n ρ G hn1 ⟨g0,g3,hx,hpre⟩
 have k:=h.mono a0u hx
 simp [Q0X,g0,g3,k.slen]
 refine d0L.mk (by simp) (fun hlt=>?_) (fun heq=>?_)
 ·obtain ⟨b,o,cs,ha,hcl,hp,hall,hagg,hc⟩:=k.at_ hlt (by decide)
  obtain ⟨s,u,hcs,hs,hu⟩:=hp
  have hcs2:cs=[.bool l[n].1.1,s,.bool l[n].2.1,u]:=by simpa using congrArg (fun v=>match v with | Value.agg a=>a.toList | _=>[]) hcs
  subst hcs2
  have c1:=hc 1 (by decide)
  have c3:=hc 3 (by decide)
  simp at c1 c3
  have hb:d0G f0r (l.take (n + 1))=f0r l[n]:=by rw [e0O hlt,hpre,k1b]
  have yes:f0r l[n]=true→d0G f0r l=true:=f0N hlt
  by_cases h1:6 < l[n].1.2.length
  ·have h1':(6:Int) < (l[n].1.2.length:Int):=by omega
   simp [x0t,g0,g3,k.ia hlt,ha,c1,c3,hs.slen,hu.slen,h1,h1',I0V]
   exact fun _=>yes (by simp [f0r,h1])
  ·have h1':¬ (6:Int) < (l[n].1.2.length:Int):=by omega
   by_cases h2:6 < l[n].2.2.length
   ·have h2':(6:Int) < (l[n].2.2.length:Int):=by omega
    simp [x0t,g0,g3,k.ia hlt,ha,c1,c3,hs.slen,hu.slen,h1,h1',h2,h2',I0V]
    exact fun _=>yes (by simp [f0r,h2])
   ·have h2':¬ (6:Int) < (l[n].2.2.length:Int):=by omega
    simp [x0t,g0,g3,k.ia hlt,ha,c1,c3,hs.slen,hu.slen,h1,h1',h2,h2']
    unfold e0N
    simp [Q0Y,g3,b0a (show n < 4611686018427387904 by omega)]
    refine c0f.mk ⟨by simp [g0],by simp,hx,?_⟩
    rw [hb];simp [f0r,h1,h2]
 ·subst heq
  rw [h1T] at hpre
  simp [Q0Z]
  exact fun _=>hpre
theorem J0L {a:b0q} {p:Nat} {ro:Bool} {cs:List Value} (hb:H.blk p=.row ro a0b cs) (h:b0L H (.agg cs.toArray) a):a0O H (.slice (some ⟨p,0,none⟩) 1 1) [a]:=by
 have hl:cs.length=4:=by
  obtain ⟨s,u,hc,_⟩:=h
  have hc':cs=[.bool a.1.1,s,.bool a.2.1,u]:=by simpa using congrArg (fun v=>match v with | Value.agg a=>a.toList | _=>[]) hc
  rw [hc'];rfl
 refine ⟨cs,⟨by simp [hl],.inr ⟨p,0,1,ro,cs,rfl,hb,by simp [hl],by simp [← hl]⟩⟩,?_⟩
 intro j hj
 have:j=0:=by simpa using hj
 subst this
 simp only [Nat.zero_mul,i1V,List.getElem_cons_zero]
 rw [← hl,h1T]
 exact h
theorem t0d {l:List d0h} (h:d0n H v l) (hf:fl≤H.size):a0S env fl Y0F [v] H (fun r H'=>r=.bool (decide (100 < l.length) || d0G g0B l)∧Ext H H') R:=by
 refine a0i g1h hf (h:=?_)
 intro ρ h0
 by_cases h1:100 < l.length
 ·have h1':(100:Int) < (l.length:Int):=by omega
  simp [a1w,H0K,H0L,O0E,h0,h.slen,h1,h1']
 have h1':¬ (100:Int) < (l.length:Int):=by omega
 have hl:l.length < 1073741824:=by omega
 simp [a1w,H0K,H0L,O0F,h0,h.slen,h1,h1']
 refine c0q (fun n ρ G=>ρ 0=v∧ρ 3=.int .i64 (n:Int)∧Ext H G∧d0G g0B (l.take n)=false) l.length (by decide) (by simp [h0,f0M]) ?_
 clear h0 ρ
 rintro n ρ G hn1 ⟨g0,g3,hx,hpre⟩
 have k:=h.mono d0J hx
 simp [O0G,g0,g3,k.slen]
 refine d0L.mk (by simp) (fun hlt=>?_) (fun heq=>?_)
 ·obtain ⟨b,o,cs,ha,hcl,hp,hall,hagg,hc⟩:=k.at_ hlt (by decide)
  obtain ⟨s,u,hcs,hs,hu⟩:=hp
  have hcs2:cs=[.int .i64 l[n].1,.bool l[n].2.1.1,s,.bool l[n].2.2.1,u]:=by simpa using congrArg (fun v=>match v with | Value.agg a=>a.toList | _=>[]) hcs
  subst hcs2
  have c1:=hagg 1 4 (by decide) (by decide)
  simp at c1
  have hb:d0G g0B (l.take (n + 1))=g0B l[n]:=by rw [e0O hlt,hpre,k1b]
  have yes:g0B l[n]=true→d0G g0B l=true:=f0N hlt
  simp [O0H,g0,g3,k.ia hlt,ha,c1]
  generalize hG:Array.push G _=G1
  obtain ⟨hx2,b0⟩:=g0r hG
  clear hG
  replace hx:=hx.trans hx2
  replace k:=k.mono d0J hx2
  have k0:a0O G1 (.slice (some ⟨G.size,0,none⟩) 1 1) [l[n].2]:=J0L b0 ⟨s,u,rfl,hs.mono hx2,hu.mono hx2⟩
  refine (l0K k0 hx.1 (by simp)).mono ?_
  rintro _ G2 ⟨rfl,hx2⟩
  replace hx:=hx.trans hx2
  have hone:d0G f0r [l[n].2]=g0B l[n]:=by simp [d0G,g0B]
  by_cases h2:g0B l[n]=true
  ·simp [hone,h2,O0I]
   exact fun _=>yes h2
  ·rw [j1D] at h2
   simp [hone,h2]
   unfold e0N
   simp [O0J,g3,b0a (show n < 4611686018427387904 by omega)]
   refine c0f.mk ⟨by simp [g0],by simp,hx,?_⟩
   rw [hb,h2]
 ·subst heq
  rw [h1T] at hpre
  simp [O0K]
  exact fun _=>hpre
end
end Go.Proofs.YtjlohmnnldbjoaaGreat.AI
