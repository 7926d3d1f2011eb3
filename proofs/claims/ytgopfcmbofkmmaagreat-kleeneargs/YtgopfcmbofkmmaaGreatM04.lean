/- Part 5 of the proof. -/
import Derived.Test.YtgopfcmbofkmmaaGreatM03
set_option linter.unusedVariables false
set_option linter.unusedSimpArgs false
set_option linter.unusedSectionVars false
namespace Go.Proofs.YtgopfcmbofkmmaaGreat.AI
section
open Go
noncomputable def evK:Opd->(Nat->Value)->Value:=@Opd.rec (fun _=>(Nat->Value)->Value) (fun t g=>g t) (fun v _=>v) (fun f _=>.func (.func f) #[] #[])
theorem d0g (o:Opd) (g:Nat->Value):evK o g=evG g o:=by cases o <;> rfl
noncomputable def o0D:Value->(IntKind->Int->OpResE)->OpResE->OpResE :=
 @Value.rec (fun _=>(IntKind->Int->OpResE)->OpResE->OpResE) (fun _=>Unit) (fun _=>Unit)
  (fun _ _ d=>d) (fun k n f _=>f k n) (fun _ _ _ d=>d) (fun _ _ _ _ d=>d) (fun _ _ d=>d) (fun _ _ d=>d) (fun _ _ _ _ d=>d) (fun _ _ d=>d) (fun _ _ d=>d)
  (fun _ _ _ _ _ _ d=>d) (fun _ d=>d) (fun _ _ _ _ d=>d) (fun _ d=>d) (fun _ _ _ d=>d) (fun _ _ _ d=>d) (fun _ _=>()) () (fun _ _ _ _=>())
noncomputable def w0r:Value->(Addr->OpResE)->OpResE :=
 @Value.rec (fun _=>(Addr->OpResE)->OpResE) (fun _=>Unit) (fun _=>Unit)
  (fun _ _=>.bad) (fun _ _ _=>.bad) (fun _ _ _=>.bad) (fun _ _ _ _=>.bad) (fun _ _=>.bad) (fun a f=>@Option.rec Addr (fun _=>OpResE) .bad f a) (fun _ _ _ _=>.bad) (fun _ _=>.bad) (fun _ _=>.bad)
  (fun _ _ _ _ _ _=>.bad) (fun _=>.bad) (fun _ _ _ _=>.bad) (fun _=>.bad) (fun _ _ _=>.bad) (fun _ _ _=>.bad) (fun _ _=>()) () (fun _ _ _ _=>())
noncomputable def E0V:Value->(Option Addr->Nat->Nat->OpResE)->OpResE :=
 @Value.rec (fun _=>(Option Addr->Nat->Nat->OpResE)->OpResE) (fun _=>Unit) (fun _=>Unit)
  (fun _ _=>.bad) (fun _ _ _=>.bad) (fun _ _ _=>.bad) (fun _ _ _ _=>.bad) (fun _ _=>.bad) (fun _ _=>.bad) (fun a n c f=>f a n c) (fun _ _=>.bad) (fun _ _=>.bad)
  (fun _ _ _ _ _ _=>.bad) (fun _=>.bad) (fun _ _ _ _=>.bad) (fun _=>.bad) (fun _ _ _=>.bad) (fun _ _ _=>.bad) (fun _ _=>()) () (fun _ _ _ _=>())
noncomputable def F1b:Value->(Option Addr->Nat->Nat->OpResE)->OpResE->OpResE :=
 @Value.rec (fun _=>(Option Addr->Nat->Nat->OpResE)->OpResE->OpResE) (fun _=>Unit) (fun _=>Unit)
  (fun _ _ d=>d) (fun _ _ _ d=>d) (fun _ _ _ d=>d) (fun _ _ _ _ d=>d) (fun _ _ d=>d) (fun _ _ d=>d) (fun a n c f _=>f a n c) (fun _ _ d=>d) (fun _ _ d=>d)
  (fun _ _ _ _ _ _ d=>d) (fun _ d=>d) (fun _ _ _ _ d=>d) (fun _ d=>d) (fun _ _ _ d=>d) (fun _ _ _ d=>d) (fun _ _=>()) () (fun _ _ _ _=>())
noncomputable def U0P:Value->(Array Value->OpResE)->OpResE :=
 @Value.rec (fun _=>(Array Value->OpResE)->OpResE) (fun _=>Unit) (fun _=>Unit)
  (fun _ _=>.bad) (fun _ _ _=>.bad) (fun _ _ _=>.bad) (fun _ _ _ _=>.bad) (fun _ _=>.bad) (fun _ _=>.bad) (fun _ _ _ _=>.bad) (fun _ _=>.bad) (fun _ _=>.bad)
  (fun _ _ _ _ _ _=>.bad) (fun _=>.bad) (fun _ _ _ _=>.bad) (fun _=>.bad) (fun cs _ f=>f cs) (fun _ _ _=>.bad) (fun _ _=>()) () (fun _ _ _ _=>())
noncomputable def U0Q:Value->(Array Value->OpResE)->OpResE :=
 @Value.rec (fun _=>(Array Value->OpResE)->OpResE) (fun _=>Unit) (fun _=>Unit)
  (fun _ _=>.bad) (fun _ _ _=>.bad) (fun _ _ _=>.bad) (fun _ _ _ _=>.bad) (fun _ _=>.bad) (fun _ _=>.bad) (fun _ _ _ _=>.bad) (fun _ _=>.bad) (fun _ _=>.bad)
  (fun _ _ _ _ _ _=>.bad) (fun _=>.bad) (fun _ _ _ _=>.bad) (fun _=>.bad) (fun _ _ _=>.bad) (fun cs _ f=>f cs) (fun _ _=>()) () (fun _ _ _ _=>())
noncomputable def E0U:Value->OpResE->OpResE->OpResE :=
 @Value.rec (fun _=>OpResE->OpResE->OpResE) (fun _=>Unit) (fun _=>Unit)
  (fun b x y=>@Bool.rec (fun _=>OpResE) y x b) (fun _ _ _ _=>.bad) (fun _ _ _ _=>.bad) (fun _ _ _ _ _=>.bad) (fun _ _ _=>.bad) (fun _ _ _=>.bad) (fun _ _ _ _ _=>.bad) (fun _ _ _=>.bad) (fun _ _ _=>.bad)
  (fun _ _ _ _ _ _ _=>.bad) (fun _ _=>.bad) (fun _ _ _ _ _=>.bad) (fun _ _=>.bad) (fun _ _ _ _=>.bad) (fun _ _ _ _=>.bad) (fun _ _=>()) () (fun _ _ _ _=>())
noncomputable def F0t:Value->Bool->Bool :=
 @Value.rec (fun _=>Bool->Bool) (fun _=>Unit) (fun _=>Unit)
  (fun b w=>@Bool.rec (fun _=>Bool) (@Bool.rec (fun _=>Bool) true false w) w b) (fun _ _ _=>false) (fun _ _ _=>false) (fun _ _ _ _=>false) (fun _ _=>false) (fun _ _=>false) (fun _ _ _ _=>false) (fun _ _=>false) (fun _ _=>false)
  (fun _ _ _ _ _ _=>false) (fun _=>false) (fun _ _ _ _=>false) (fun _=>false) (fun _ _ _=>false) (fun _ _ _=>false) (fun _ _=>()) () (fun _ _ _ _=>())
noncomputable def j0N:Value->List Value :=
 @Value.rec (fun _=>List Value) (fun _=>Unit) (fun _=>Unit)
  (fun b=>[.bool b]) (fun k n=>[.int k n]) (fun k b=>[.float k b]) (fun k a b=>[.complex k a b]) (fun s=>[.string s]) (fun a=>[.pointer a]) (fun a n c=>[.slice a n c]) (fun r=>[.map r]) (fun r=>[.chan r])
  (fun f a b _ _=>[.func f a b]) [.nilFunc] (fun t v _=>[.iface t v]) [.nilIface] (fun cs _=>cs.toList) (fun vs _=>[.tuple vs]) (fun _ _=>()) () (fun _ _ _ _=>())
noncomputable def A0e:Value->Bool :=
 @Value.rec (fun _=>Bool) (fun _=>Unit) (fun _=>Unit)
  (fun _=>true) (fun _ _=>true) (fun _ _=>true) (fun _ _ _=>true) (fun _=>true) (fun _=>true) (fun _ _ _=>true) (fun _=>true) (fun _=>true)
  (fun _ _ _ _ _=>true) true (fun _ _ _=>true) true (fun _ _=>false) (fun _ _=>false) (fun _ _=>()) () (fun _ _ _ _=>())
theorem m0g (v:Value):j0N v=a0t v:=by cases v <;> rfl
theorem A0f (v:Value):A0e v=a0n v:=by cases v <;> rfl
theorem w0z (v:Value) (w:Bool):F0t v w=(match v with | .bool b=>b == w | _=>false):=by
 cases v <;> try rfl
 rename_i b;cases b <;> cases w <;> rfl
noncomputable def u1W (l:List Value):Bool:=@List.rec Value (fun _=>Bool) true (fun v _ ih=>@Bool.rec (fun _=>Bool) false ih (A0e v)) l
theorem y0h (l:List Value):u1W l=l.all a0n:=by
 induction l with
 | nil=>rfl
 | cons v r ih =>
  show @Bool.rec (fun _=>Bool) false (u1W r) (A0e v)=_
  rw [N1u,A0f,ih];cases a0n v <;> rfl
noncomputable def H0u (l:List Value):Nat->OpResE:=@List.rec Value (fun _=>Nat->OpResE) (fun _=>.bad) (fun v _ ih k=>@Bool.rec (fun _=>OpResE) (ih (Nat.sub k (nat_lit 1))) (.val v .same) (Nat.beq k (nat_lit 0))) l
theorem p0l:∀ (l:List Value) (k:Nat),H0u l k=g0k l[k]?
 | [],k=>rfl
 | v :: r,0=>rfl
 | v :: r,k + 1=>by
  show H0u r k=_
  rw [p0l r k,List.getElem?_cons_succ]
noncomputable def q0w (l:List Value):Nat:=@List.rec Value (fun _=>Nat) (nat_lit 0) (fun _ _ ih=>Nat.add ih (nat_lit 1)) l
theorem h0T (l:List Value):q0w l=l.length:=by
 induction l with
 | nil=>rfl
 | cons v r ih=>show Nat.add (q0w r) 1=_;rw [ih];rfl
noncomputable def s0F (l:List Value):Nat->List Value:=@List.rec Value (fun _=>Nat->List Value) (fun _=>[]) (fun v r ih k=>@Bool.rec (fun _=>List Value) (ih (Nat.sub k (nat_lit 1))) (v :: r) (Nat.beq k (nat_lit 0))) l
theorem o0U:∀ (l:List Value) (k:Nat),s0F l k=l.drop k
 | [],k=>by simp [s0F]
 | v :: r,0=>rfl
 | v :: r,k + 1=>by show s0F r k=_;rw [o0U r k];rfl
noncomputable def u0J (l:List Value):Nat->List Value:=@List.rec Value (fun _=>Nat->List Value) (fun _=>[]) (fun v _ ih k=>@Bool.rec (fun _=>List Value) (v :: ih (Nat.sub k (nat_lit 1))) [] (Nat.beq k (nat_lit 0))) l
theorem q0s:∀ (l:List Value) (k:Nat),u0J l k=l.take k
 | [],k=>by simp [u0J]
 | v :: r,0=>rfl
 | v :: r,k + 1=>by show v :: u0J r k=_;rw [q0s r k];rfl
noncomputable def F1d (l:List Value):Nat->Value->List Value:=@List.rec Value (fun _=>Nat->Value->List Value) (fun _ _=>[]) (fun v r ih k x=>@Bool.rec (fun _=>List Value) (v :: ih (Nat.sub k (nat_lit 1)) x) (x :: r) (Nat.beq k (nat_lit 0))) l
theorem E0W:∀ (l:List Value) (k:Nat) (x:Value),F1d l k x=l.set k x
 | [],k,x=>by simp [F1d]
 | v :: r,0,x=>rfl
 | v :: r,k + 1,x=>by show v :: F1d r k x=_;rw [E0W r k x];rfl
noncomputable def o0K (vs:List Value):List Value->Nat->List Value:=@List.rec Value (fun _=>List Value->Nat->List Value) (fun cs _=>cs) (fun v _ ih cs off=>ih (F1d cs off v) (Nat.add off (nat_lit 1))) vs
theorem n0r:∀ (vs cs:List Value) (off:Nat),o0K vs cs off=b0e cs off vs
 | [],cs,off=>rfl
 | v :: r,cs,off=>by show o0K r (F1d cs off v) (off + 1)=_;rw [n0r r,E0W];rfl
noncomputable def u1c (l m:List Value):List Value:=@List.rec Value (fun _=>List Value) m (fun v _ ih=>v :: ih) l
theorem y0i (l m:List Value):u1c l m=l ++ m:=by
 induction l with
 | nil=>rfl
 | cons v r ih=>show v :: u1c r m=_;rw [ih];rfl
noncomputable def G1o (l:List Opd):(Nat->Value)->List Value:=@List.rec Opd (fun _=>(Nat->Value)->List Value) (fun _=>[]) (fun o _ ih g=>evK o g :: ih g) l
theorem X0j (l:List Opd) (g:Nat->Value):G1o l g=l.map (evG g):=by
 induction l with
 | nil=>rfl
 | cons o r ih=>show evK o g :: G1o r g=_;rw [ih,d0g];rfl
noncomputable def K1V:IntKind->Nat:=@IntKind.rec (fun _=>Nat) (nat_lit 0) (nat_lit 1) (nat_lit 2) (nat_lit 3) (nat_lit 4) (nat_lit 5) (nat_lit 6) (nat_lit 7)
noncomputable def S0D:IntKind->Nat:=@IntKind.rec (fun _=>Nat) (nat_lit 256) (nat_lit 65536) (nat_lit 4294967296) (nat_lit 18446744073709551616) (nat_lit 256) (nat_lit 65536) (nat_lit 4294967296) (nat_lit 18446744073709551616)
noncomputable def x0f:IntKind->Nat:=@IntKind.rec (fun _=>Nat) (nat_lit 128) (nat_lit 32768) (nat_lit 2147483648) (nat_lit 9223372036854775808) (nat_lit 128) (nat_lit 32768) (nat_lit 2147483648) (nat_lit 9223372036854775808)
noncomputable def K1J:IntKind->Bool:=@IntKind.rec (fun _=>Bool) true true true true false false false false
noncomputable def G1k (k:IntKind) (m:Nat):Int :=
 @Bool.rec (fun _=>Int) (.ofNat m) (@Bool.rec (fun _=>Int) (.ofNat m) (.negSucc (Nat.sub (Nat.sub (S0D k) m) (nat_lit 1))) (Nat.ble (x0f k) m)) (K1J k)
noncomputable def n0q (k:IntKind) (n:Int):Int :=
 @Int.rec (fun _=>Int) (fun a=>G1k k (Nat.mod a (S0D k))) (fun a=>G1k k (Nat.sub (S0D k) (Nat.succ (Nat.mod a (S0D k))))) n
noncomputable def n0d (k k':IntKind):Bool:=Nat.beq (K1V k) (K1V k')
theorem R0S (k k':IntKind):n0d k k' = decide (k=k'):=by cases k <;> cases k' <;> rfl
noncomputable def eqK (a b:Int):Bool:=@Int.rec (fun _=>Bool) (fun m=>@Int.rec (fun _=>Bool) (fun n=>Nat.beq m n) (fun _=>false) b) (fun m=>@Int.rec (fun _=>Bool) (fun _=>false) (fun n=>Nat.beq m n) b) a
noncomputable def ltK (a b:Int):Bool:=@Int.rec (fun _=>Bool) (fun m=>@Int.rec (fun _=>Bool) (fun n=>Nat.ble (Nat.succ m) n) (fun _=>false) b) (fun m=>@Int.rec (fun _=>Bool) (fun _=>true) (fun n=>Nat.ble (Nat.succ n) m) b) a
theorem S0k (a b:Int):eqK a b=(a == b):=by
 rw [O1d,beq_iff_eq]
 cases a with
 | ofNat m=>cases b with
  | ofNat n=>show Nat.beq m n=true <-> _;rw [Nat.beq_eq,Int.ofNat.injEq]
  | negSucc n=>show false=true <-> _;simp
 | negSucc m=>cases b with
  | ofNat n=>show false=true <-> _;simp
  | negSucc n=>show Nat.beq m n=true <-> _;rw [Nat.beq_eq,Int.negSucc.injEq]
theorem z0u (a b:Int):ltK a b=decide (a < b):=by
 rw [O1d,decide_eq_true_iff]
 cases a with
 | ofNat m=>cases b with
  | ofNat n=>show Nat.ble (m + 1) n=true <-> _;rw [Nat.ble_eq];simp only [Int.ofNat_eq_natCast];omega
  | negSucc n=>show false=true <-> _;simp only [Int.ofNat_eq_natCast,Int.negSucc_eq];simp;omega
 | negSucc m=>cases b with
  | ofNat n=>show true=true <-> _;simp only [Int.ofNat_eq_natCast,Int.negSucc_eq];simp;omega
  | negSucc n=>show Nat.ble (n + 1) m=true <-> _;rw [Nat.ble_eq];simp only [Int.negSucc_eq];omega
theorem i0s {k:IntKind} {n:Int} {M:Nat} (q:(2 ^ k.bits:Int)=M) (hp:0 < M) (c:S0D k=M) (w:(2 ^ (k.bits - 1):Int)=(x0f k:Nat)) (hs:k.signed=K1J k) (hb:x0f k<=M):n0q k n=k.wrap n:=by
 have j:∀ m:Nat,(m:Int)=n % (2 ^ k.bits:Int)->m < M->G1k k m=k.wrap n:=by
  intro m u s
  rw [q] at u
  unfold IntKind.wrap G1k
  simp only [w,q,hs,c]
  rw [<- u]
  cases K1J k with
  | false=>simp
  | true =>
   simp only [O1H]
   by_cases h:x0f k<=m
   ·have r:Nat.ble (x0f k) m=true:=by rw [Nat.ble_eq];exact h
    rw [r,M1Z (by simp only [N1s];omega)]
    show Int.negSucc (M - m - 1)=_
    rw [Int.negSucc_eq];omega
   ·have r:Nat.ble (x0f k) m=false:=by rw [Bool.eq_false_iff];simpa using h
    rw [r,M1V (by simp only [N1s];omega)];rfl
 cases n with
 | ofNat a =>
  refine j (Nat.mod a (S0D k)) ?_ (by rw [c];exact N1R _ hp)
  rw [q,c];rfl
 | negSucc a =>
  have s:a % M < M:=N1R _ hp
  refine j (Nat.sub (S0D k) (Nat.succ (Nat.mod a (S0D k)))) ?_ ?_
  ·rw [q,c]
   show ((M - (a % M + 1):Nat):Int)=Int.negSucc a % (M:Int)
   rw [Int.negSucc_emod a (by omega)]
   have:((a:Int) % (M:Int))=((a % M:Nat):Int):=rfl
   rw [this];omega
  ·rw [c];show M - (a % M + 1) < M;omega
theorem l0T (k:IntKind) (n:Int):n0q k n=k.wrap n:=by
 cases k
 ·exact i0s (M:=256) (by decide) (by decide) rfl (by decide) rfl (by decide)
 ·exact i0s (M:=65536) (by decide) (by decide) rfl (by decide) rfl (by decide)
 ·exact i0s (M:=4294967296) (by decide) (by decide) rfl (by decide) rfl (by decide)
 ·exact i0s (M:=18446744073709551616) (by decide) (by decide) rfl (by decide) rfl (by decide)
 ·exact i0s (M:=256) (by decide) (by decide) rfl (by decide) rfl (by decide)
 ·exact i0s (M:=65536) (by decide) (by decide) rfl (by decide) rfl (by decide)
 ·exact i0s (M:=4294967296) (by decide) (by decide) rfl (by decide) rfl (by decide)
 ·exact i0s (M:=18446744073709551616) (by decide) (by decide) rfl (by decide) rfl (by decide)
theorem f0Y {α:Type} (x y:α) (a b:Nat):@Bool.rec (fun _=>α) x y (Nat.beq a b)=if a=b then y else x:=by
 by_cases h:a=b
 ·rw [M1Z h,show Nat.beq a b=true by rw [Nat.beq_eq];exact h]
 ·rw [M1V h,show Nat.beq a b=false by rw [Bool.eq_false_iff];simpa using h]
theorem b0l {α:Type} (x y:α) (a b:Nat):@Bool.rec (fun _=>α) x y (Nat.ble a b)=if a<=b then y else x:=by
 by_cases h:a<=b
 ·rw [M1Z h,show Nat.ble a b=true by rw [Nat.ble_eq];exact h]
 ·rw [M1V h,show Nat.ble a b=false by rw [Bool.eq_false_iff];simpa using h]
theorem s0C {α:Type} (x y:α) (b:Bool):@Bool.rec (fun _=>α) x y b=if b=true then y else x:=by cases b <;> rfl
noncomputable def leK (a b:Int):Bool:=@Bool.rec (fun _=>Bool) true false (ltK b a)
theorem S0x (a b:Int):leK a b=decide (a<=b):=by
 unfold leK;rw [z0u]
 by_cases h:b < a
 ·rw [decide_eq_true h,decide_eq_false (by omega)]
 ·rw [decide_eq_false h,decide_eq_true (by omega)]
abbrev OpK:=(Nat->Blk)->Nat->Nat->(Nat->Value)->OpResE
noncomputable def K1U:BinOp->IntKind->Int->IntKind->Int->OpResE->OpResE :=
 @BinOp.rec (fun _=>IntKind->Int->IntKind->Int->OpResE->OpResE)
  (fun k a k' c d=>@Bool.rec (fun _=>OpResE) d (.val (.int k (n0q k (Int.add a c))) .same) (n0d k k'))
  (fun k a k' c d=>@Bool.rec (fun _=>OpResE) d (.val (.int k (n0q k (Int.sub a c))) .same) (n0d k k'))
  (fun k a k' c d=>@Bool.rec (fun _=>OpResE) d (.val (.int k (n0q k (Int.mul a c))) .same) (n0d k k'))
  (fun _ _ _ _ d=>d) (fun _ _ _ _ d=>d) (fun _ _ _ _ d=>d) (fun _ _ _ _ d=>d) (fun _ _ _ _ d=>d) (fun _ _ _ _ d=>d) (fun _ _ _ _ d=>d) (fun _ _ _ _ d=>d)
  (fun k a k' c d=>@Bool.rec (fun _=>OpResE) d (.val (.bool (eqK a c)) .same) (n0d k k'))
  (fun k a k' c d=>@Bool.rec (fun _=>OpResE) d (.val (.bool (@Bool.rec (fun _=>Bool) true false (eqK a c))) .same) (n0d k k'))
  (fun k a k' c d=>@Bool.rec (fun _=>OpResE) d (.val (.bool (ltK a c)) .same) (n0d k k'))
  (fun k a k' c d=>@Bool.rec (fun _=>OpResE) d (.val (.bool (leK a c)) .same) (n0d k k'))
  (fun k a k' c d=>@Bool.rec (fun _=>OpResE) d (.val (.bool (ltK c a)) .same) (n0d k k'))
  (fun k a k' c d=>@Bool.rec (fun _=>OpResE) d (.val (.bool (leK c a)) .same) (n0d k k'))
noncomputable def F1O (tag:Nat) (b:BinOp) (x y:Value):OpResE :=
 o0D x (fun k a=>o0D y (fun k' c=>K1U b k a k' c (g0k (c0k tag b x y))) (g0k (c0k tag b x y))) (g0k (c0k tag b x y))
theorem V0p (tag:Nat) (b:BinOp) (x y:Value):F1O tag b x y=g0k (c0k tag b x y):=by
 unfold F1O
 cases x <;> try rfl
 cases y <;> try rfl
 rename_i k a k' c
 show K1U b k a k' c (g0k (c0k tag b (.int k a) (.int k' c)))=g0k (c0k tag b (.int k a) (.int k' c))
 have fin:∀ v v':Value,v' = v->@Bool.rec (fun _=>OpResE) (g0k (if k=k' then some v else none)) (.val v' .same) (n0d k k')=g0k (if k=k' then some v else none):=by
  intro v v' j;rw [R0S,j]
  by_cases h:k=k'
  ·rw [M1Z h,decide_eq_true h];rfl
  ·rw [M1V h,decide_eq_false h]
 cases b <;> try rfl
 ·exact fin (.int k (k.wrap (a + c))) (.int k (n0q k (Int.add a c))) (by rw [l0T];rfl)
 ·exact fin (.int k (k.wrap (a - c))) (.int k (n0q k (Int.sub a c))) (by rw [l0T];rfl)
 ·exact fin (.int k (k.wrap (a * c))) (.int k (n0q k (Int.mul a c))) (by rw [l0T];rfl)
 ·exact fin (.bool (a == c)) (.bool (eqK a c)) (by rw [S0k])
 ·exact fin (.bool (a != c)) (.bool (@Bool.rec (fun _=>Bool) true false (eqK a c))) (by rw [S0k,bne];cases a == c <;> rfl)
 ·exact fin (.bool (decide (a < c))) (.bool (ltK a c)) (by rw [z0u])
 ·exact fin (.bool (decide (a<=c))) (.bool (leK a c)) (by rw [S0x])
 ·exact fin (.bool (decide (a > c))) (.bool (ltK c a)) (by rw [z0u])
 ·exact fin (.bool (decide (a ≥ c))) (.bool (leK c a)) (by rw [S0x])
noncomputable def u1A (b:Blk) (off n:Nat) (K:List Value->OpResE):OpResE :=
 @Blk.rec (fun _=>OpResE) .bad (fun _ _ cs=>@Bool.rec (fun _=>OpResE) .bad (K (u0J (s0F cs off) n)) (Nat.ble (Nat.add off n) (q0w cs))) b
theorem u0N (bk:Nat->Blk) (b off n:Nat) (K:List Value->OpResE):u1A (bk b) off n K=(match d0p bk b off n with | some cs=>K cs | none=>.bad):=by
 unfold u1A d0p
 cases bk b with
 | dead=>rfl
 | row ro e cs =>
  show @Bool.rec (fun _=>OpResE) .bad (K (u0J (s0F cs off) n)) (Nat.ble (Nat.add off n) (q0w cs))=_
  rw [b0l,q0s,o0U,h0T]
  show (if off + n<=cs.length then _ else _)=_
  by_cases h:off + n<=cs.length
  ·rw [M1Z h];simp only;rw [M1Z h]
  ·rw [M1V h];simp only;rw [M1V h]
noncomputable def M1D (x:Opd):OpK:=fun _ _ _ g=>.val (evK x g) .same
noncomputable def v1X (c a b:Opd):OpK:=fun _ _ _ g=>E0U (evK c g) (.val (evK a g) .same) (.val (evK b g) .same)
noncomputable def X0f (e:TypeId) (z:List Value):OpK:=fun _ size _ _=>.val (.pointer (some ⟨size,nat_lit 0,none⟩)) (.push (.row false e z))
noncomputable def J1H (e:TypeId) (x:Opd):OpK:=fun _ size _ g=>.val (.pointer (some ⟨size,nat_lit 0,none⟩)) (.push (.row false e (j0N (evK x g))))
noncomputable def x0d (ps:List (Nat × Nat × Opd)):(Nat->Value)->List Value->(List Value->OpResE)->OpResE :=
 @List.rec (Nat × Nat × Opd) (fun _=>(Nat->Value)->List Value->(List Value->OpResE)->OpResE) (fun _ cells K=>K cells)
  (fun p _ ih g cells K=>@Bool.rec (fun _=>OpResE) .bad (@Bool.rec (fun _=>OpResE) .bad (ih g (o0K (j0N (evK p.2.2 g)) cells p.1) K) (Nat.ble (Nat.add p.1 p.2.1) (q0w cells))) (Nat.beq (q0w (j0N (evK p.2.2 g))) p.2.1)) ps
theorem p0b:∀ (k:List (Nat × Nat × Opd)) (g:Nat->Value) (cells:List Value) (K:List Value->OpResE),x0d k g cells K=(match d0M cells (l0j g k) with | some cs=>K cs | none=>.bad)
 | [],g,cells,K=>rfl
 | p :: r,g,cells,K=>by
  show @Bool.rec (fun _=>OpResE) .bad (@Bool.rec (fun _=>OpResE) .bad (x0d r g (o0K (j0N (evK p.2.2 g)) cells p.1) K) (Nat.ble (Nat.add p.1 p.2.1) (q0w cells))) (Nat.beq (q0w (j0N (evK p.2.2 g))) p.2.1)=_
  rw [f0Y,b0l,p0b r,n0r,m0g,d0g,h0T,h0T]
  simp only [l0j,O1o,d0M,Nat.add_eq]
  by_cases c:(a0t (evG g p.2.2)).length=p.2.1
  ·rw [M1Z c]
   by_cases j:p.1 + p.2.1<=cells.length
   ·rw [M1Z j,M1Z ⟨c,j⟩]
   ·rw [M1V j,M1V (fun h=>j h.2)]
  ·rw [M1V c,M1V (fun h=>c h.1)]
noncomputable def R0k (z:List Value) (n:Nat):List Value:=@Nat.rec (fun _=>List Value) [] (fun _ ih=>u1c z ih) n
theorem R0l (z:List Value) (n:Nat):R0k z n=e0W z n:=by
 induction n with
 | zero=>rfl
 | succ n ih=>show u1c z (R0k z n)=_;rw [ih,y0i];rfl
noncomputable def X0h (z:List Value) (ps:List (Nat × Nat × Opd)):OpK:=fun _ _ _ g=>x0d ps g z (fun cs=>.val (.agg ⟨cs⟩) .same)
noncomputable def J1L (e:TypeId) (z:List Value) (n:Nat) (ps:List (Nat × Nat × Opd)):OpK:=fun _ size _ g=>x0d ps g (R0k z n) (fun cs=>.val (.slice (some ⟨size,nat_lit 0,none⟩) n n) (.push (.row false e cs)))
noncomputable def S0y (p:Addr) (bk:Nat->Blk):OpResE :=
 @Option.rec _ (fun _=>OpResE) (@Blk.rec (fun _=>OpResE) .bad (fun _ _ cs=>H0u cs p.off) (bk p.block)) (fun _=>.bad) p.spot
noncomputable def z0r (p:Addr) (n:Nat) (bk:Nat->Blk):OpResE :=
 @Bool.rec (fun _=>OpResE) (@Option.rec _ (fun _=>OpResE) (u1A (bk p.block) p.off n (fun cs=>.val (.agg ⟨cs⟩) .same)) (fun _=>.bad) p.spot) (.val (.agg #[]) .same) (Nat.beq n (nat_lit 0))
noncomputable def z0h (agg:Bool) (n:Nat) (a:Opd):OpK:=fun bk _ _ g=>w0r (evK a g) (fun p=>@Bool.rec (fun _=>OpResE) (S0y p bk) (z0r p n bk) agg)
noncomputable def w0w (b:Blk) (fl n:Nat) (p:Addr) (vs:List Value):OpResE :=
 @Blk.rec (fun _=>OpResE) .bad (fun ro e cs=>@Bool.rec (fun _=>OpResE)
  (@Bool.rec (fun _=>OpResE) .bad (@Bool.rec (fun _=>OpResE) .bad (@Bool.rec (fun _=>OpResE) .bad (.val undef (.set p.block (.row false e (o0K vs cs p.off)))) (u1W vs)) (Nat.ble (Nat.add p.off (q0w vs)) (q0w cs))) (Nat.ble fl p.block)) .bad ro) b
noncomputable def t0d (n:Nat) (a x:Opd):OpK:=fun bk _ fl g=>w0r (evK a g) (fun p =>
 @Option.rec _ (fun _=>OpResE) (@Bool.rec (fun _=>OpResE) .bad (w0w (bk p.block) fl n p (j0N (evK x g))) (Nat.beq (q0w (j0N (evK x g))) n)) (fun _=>.bad) p.spot)
noncomputable def J1G (tag:Nat) (b:BinOp) (x y:Opd):OpK:=fun _ _ _ g=>F1O tag b (evK x g) (evK y g)
noncomputable def v1W (k:IntKind) (x:Opd):OpK:=fun _ _ _ g=>o0D (evK x g) (fun _ n=>.val (.int k (n0q k n)) .same) .bad
noncomputable def M1B (off:Nat) (a:Opd):OpK:=fun _ _ _ g=>w0r (evK a g) (fun p=>@Option.rec _ (fun _=>OpResE) (.val (.pointer (some ⟨p.block,Nat.add p.off off,none⟩)) .same) (fun _=>.bad) p.spot)
noncomputable def J1J (agg:Bool) (off n:Nat) (x:Opd):OpK:=fun _ _ _ g=>U0P (evK x g) (fun cs =>
 @Bool.rec (fun _=>OpResE) (H0u cs.toList off) (@Bool.rec (fun _=>OpResE) .bad (.val (.agg ⟨u0J (s0F cs.toList off) n⟩) .same) (Nat.ble (Nat.add off n) (q0w cs.toList))) agg)
noncomputable def M1C (sz:Nat) (x i:Opd):OpK:=fun _ _ _ g=>E0V (evK x g) (fun a n _=>@Option.rec _ (fun _=>OpResE) .bad (fun p =>
 o0D (evK i g) (fun _ j=>@Int.rec (fun _=>OpResE) (fun j=>@Bool.rec (fun _=>OpResE) .bad (.val (.pointer (some ⟨p.block,Nat.add p.off (Nat.mul j sz),none⟩)) .same) (Nat.ble (Nat.succ j) n)) (fun _=>.bad) j) .bad) a)
noncomputable def J1I (x:Opd) (i:Nat):OpK:=fun _ _ _ g=>U0Q (evK x g) (fun vs=>H0u vs.toList i)
noncomputable def v1V (f:FuncId) (args:List Opd) (lone:Bool):OpK:=fun _ _ _ g=>.call f (G1o args g) lone
noncomputable def J1K (x:Opd):OpK:=fun _ _ _ g=>E0V (evK x g) (fun _ n _=>.val (.int .i64 (.ofNat n)) .same)
noncomputable def G1v (size n:Nat) (elem:TypeId) (cs:List Value):OpResE:=.val (.slice (some ⟨size,nat_lit 0,none⟩) n unk) (.push (.row false elem cs))
noncomputable def x0e (bk:Nat->Blk) (size fl:Nat) (elem sz:Nat) (sp:Addr) (len cap n:Nat) (new:List Value):OpResE :=
 u1A (bk sp.block) sp.off (Nat.mul len sz) (fun old =>
  @Bool.rec (fun _=>OpResE)
   (@Blk.rec (fun _=>OpResE) .bad (fun ro e _=>@Bool.rec (fun _=>OpResE)
    (@Bool.rec (fun _=>OpResE) .bad (@Bool.rec (fun _=>OpResE) .bad (.val (.slice (some ⟨size,nat_lit 0,none⟩) (Nat.add len n) unk) (.mv sp.block (.row false elem (u1c old new)))) (Nat.ble fl sp.block)) (Nat.beq e elem)) .bad ro) (bk sp.block))
   (G1v size (Nat.add len n) elem (u1c old new))
   (@Bool.rec (fun _=>Bool) (Nat.ble (Nat.succ cap) (Nat.add len n)) false (Nat.beq cap (nat_lit 18446744073709551616))))
noncomputable def X0g (elem:TypeId) (sz bytes:Nat) (s x:Opd):OpK:=fun bk size fl g=>E0V (evK s g) (fun base len cap=>F1b (evK x g) (fun xb n _ =>
 @Bool.rec (fun _=>OpResE)
  (@Bool.rec (fun _=>OpResE) .bad (@Bool.rec (fun _=>OpResE) .bad (@Bool.rec (fun _=>OpResE) .bad
   (@Option.rec _ (fun _=>OpResE) .bad (fun xp=>u1A (bk xp.block) xp.off (Nat.mul n sz) (fun new =>
    @Bool.rec (fun _=>OpResE) .bad
     (@Option.rec _ (fun _=>OpResE)
      (@Bool.rec (fun _=>OpResE) .bad (@Bool.rec (fun _=>OpResE) .bad (G1v size n elem new) (Nat.beq cap (nat_lit 0))) (Nat.beq len (nat_lit 0)))
      (fun sp=>@Bool.rec (fun _=>OpResE) (x0e bk size fl elem sz sp len cap n new) (@Bool.rec (fun _=>OpResE) (x0e bk size fl elem sz sp len cap n new) (G1v size n elem new) (Nat.beq cap (nat_lit 0))) (Nat.beq len (nat_lit 0)))
      base) (u1W new))) xb)
   (Nat.ble (nat_lit 1) sz)) (Nat.ble bytes (nat_lit 1024))) (Nat.ble (Nat.add len n) (nat_lit 1073741824)))
  (.val (.slice base len cap) .same) (Nat.beq n (nat_lit 0))) (X0n (u1b bk size fl elem sz bytes (.slice base len cap) (evK x g))))
section
variable (bk:Nat->Blk) (size fl:Nat) (g:Nat->Value)
theorem z0o (p:Addr) (n:Nat):S0y p bk=g0k (r0p bk false n (.pointer (some p))):=by
 obtain ⟨b,o,s⟩:=p
 cases s with
 | some s=>rfl
 | none =>
  show @Blk.rec (fun _=>OpResE) .bad (fun _ _ cs=>H0u cs o) (bk b)=g0k (match d0p bk b o 1 with | some cs=>cs.head? | none=>none)
  unfold d0p
  cases bk b with
  | dead=>rfl
  | row ro e cs =>
   show H0u cs o=_
   rw [p0l]
   simp only
   by_cases h:o + 1<=cs.length
   ·rw [M1Z h]
    simp only
    congr 1
    rw [List.head?_take,M1V (by decide),List.head?_drop]
   ·rw [M1V h,N1d (by omega)]
theorem z0s (p:Addr) (n:Nat):z0r p n bk=g0k (r0p bk true n (.pointer (some p))):=by
 obtain ⟨b,o,s⟩:=p
 unfold z0r
 rw [f0Y]
 by_cases c:n=0
 ·rw [M1Z c];unfold r0p;simp only [true_and];rw [M1Z c];rfl
 ·rw [M1V c];unfold r0p;simp only [true_and];rw [M1V c]
  cases s with
  | some s=>rfl
  | none =>
   show u1A (bk b) o n (fun cs=>.val (.agg ⟨cs⟩) .same)=g0k (match d0p bk b o n with | some cs=>some (.agg cs.toArray) | none=>none)
   rw [u0N]
   cases d0p bk b o n <;> rfl
theorem z0i (c:Bool) (n:Nat) (a:Opd):z0h c n a bk size fl g=opE bk size fl g (.load c n a):=by
 unfold z0h;simp only [opE]
 rw [d0g]
 cases evG g a <;> try rfl
 rename_i p;cases p with
 | none=>rfl
 | some p =>
  cases c
  ·exact z0o bk p n
  ·exact z0s bk p n
theorem x0g (n:Nat) (a x:Opd):t0d n a x bk size fl g=opE bk size fl g (.store n a x):=by
 unfold t0d;simp only [opE]
 simp only [d0g,m0g,f0Y,h0T]
 cases evG g a <;> try rfl
 rename_i p;cases p with
 | none=>rfl
 | some p =>
  simp only
  show (@Option.rec _ (fun _=>OpResE) (if (a0t (evG g x)).length=n then w0w (bk p.block) fl n p (a0t (evG g x)) else .bad) (fun _=>.bad) p.spot)=_
  obtain ⟨r,u,w⟩:=p
  cases w with
  | some s=>simp
  | none =>
   generalize hp:(⟨r,u,none⟩:Addr)=p
   have q:p.spot=none:=by rw [<- hp]
   rw [q]
   show (if (a0t (evG g x)).length=n then w0w (bk p.block) fl n p (a0t (evG g x)) else .bad)=_
   by_cases h:(a0t (evG g x)).length=n
   ·rw [M1Z h,M1V (by simp [h])]
    unfold w0w s0n
    cases bk p.block with
    | dead=>rfl
    | row ro e cs =>
     cases ro with
     | true=>rfl
     | false =>
      show @Bool.rec (fun _=>OpResE) .bad (@Bool.rec (fun _=>OpResE) .bad (@Bool.rec (fun _=>OpResE) .bad (.val undef (.set p.block (.row false e (o0K (a0t (evG g x)) cs p.off)))) (u1W (a0t (evG g x)))) (Nat.ble (Nat.add p.off (q0w (a0t (evG g x)))) (q0w cs))) (Nat.ble fl p.block)=_
      rw [b0l,b0l,s0C,n0r,y0h,h0T,h0T]
      simp only
      show (if fl<=p.block then (if p.off + (a0t (evG g x)).length<=cs.length then (if (a0t (evG g x)).all a0n=true then _ else _) else _) else _)=_
      by_cases c:fl<=p.block
      ·by_cases j:p.off + (a0t (evG g x)).length<=cs.length
       ·by_cases k:(a0t (evG g x)).all a0n=true
        ·rw [M1Z c,M1Z j,M1Z k,M1Z ⟨c,j,k⟩]
        ·rw [M1Z c,M1Z j,M1V k,M1V (fun h=>k h.2.2)]
       ·rw [M1Z c,M1V j,M1V (fun h=>j h.2.1)]
      ·rw [M1V c,M1V (fun h=>c h.1)]
   ·rw [M1V h,M1Z (.inr h)]
theorem H0m (e:TypeId) (sz bytes:Nat) (s x:Opd):X0g e sz bytes s x bk size fl g=opE bk size fl g (.app e sz bytes s x):=by
 unfold X0g;simp only [opE]
 simp only [d0g,f0Y,b0l]
 simp only [s0C]
 cases evG g s <;> try rfl
 rename_i base len cap
 cases evG g x <;> try (cases base <;> rfl)
 rename_i G n H
 unfold u1b
 show (if n=0 then _ else if len + n<=1073741824 then if bytes<=1024 then if 1<=sz then _ else _ else _ else _)=_
 simp only
 by_cases u:n=0
 ·rw [M1Z u,M1Z u];rfl
 rw [M1V u,M1V u]
 by_cases k:len + n<=1073741824/\bytes<=1024/\0 < sz
 ·rw [M1Z k,M1Z k.1,M1Z k.2.1,M1Z (show 1<=sz from k.2.2)]
  cases G with
  | none=>rfl
  | some xp =>
   simp only [u0N]
   show (match d0p bk xp.block xp.off (n * sz) with | some cs=>_ | none=>_)=_
   cases d0p bk xp.block xp.off (n * sz) with
   | none=>rfl
   | some new =>
    simp only
    rw [y0h]
    cases new.all a0n with
    | false=>rfl
    | true =>
     simp only [N1E,P1f,N1G]
     cases base with
     | none =>
      show (if len=0 then (if cap=0 then _ else _) else _)=_
      simp only
      by_cases c:len=0
      ·by_cases j:cap=0
       ·rw [M1Z c,M1Z j,M1Z ⟨c,j⟩];rfl
       ·rw [M1Z c,M1V j,M1V (fun h=>j h.2)];rfl
      ·rw [M1V c,M1V (fun h=>c h.1)];rfl
     | some sp =>
      have grow:¬ (len=0/\cap=0)->x0e bk size fl e sz sp len cap n new=X0n (match d0p bk sp.block sp.off (len * sz) with
        | none=>none
        | some old =>
         if cap ≠ unk/\cap < len + n then some (.slice (some ⟨size,0,none⟩) (len + n) unk,.push (.row false e (old ++ new)))
         else
          match bk sp.block with
          | .row false e' _ =>
           if e' = e/\fl<=sp.block then some (.slice (some ⟨size,0,none⟩) (len + n) unk,.mv sp.block (.row false e (old ++ new)))
           else none
          | _=>none):=by
       intro _
       unfold x0e
       rw [u0N]
       show (match d0p bk sp.block sp.off (len * sz) with | some cs=>_ | none=>_)=_
       cases d0p bk sp.block sp.off (len * sz) with
       | none=>rfl
       | some old =>
        simp only [f0Y,b0l,y0i]
        simp only [s0C]
        have F:(if cap=18446744073709551616 then false else Nat.ble (Nat.succ cap) (Nat.add len n))=decide (cap ≠ unk/\cap < len + n):=by
         by_cases hc:cap=18446744073709551616
         ·rw [M1Z hc];simp [unk,hc]
         ·rw [M1V hc,O1d,Nat.ble_eq,decide_eq_true_iff]
          exact ⟨fun h=>⟨hc,h⟩,fun h=>h.2⟩
        rw [F]
        by_cases w:cap ≠ unk/\cap < len + n
        ·rw [M1Z w];simp only [decide_eq_true w,N1E];rfl
        ·rw [M1V w];simp only [decide_eq_false w,N1g,N1G]
         cases bk sp.block with
         | dead=>rfl
         | row ro e' cs =>
          cases ro with
          | true=>rfl
          | false =>
           simp only [N1g,N1G]
           by_cases q:e' = e
           ·by_cases y:fl<=sp.block
            ·rw [M1Z q,M1Z y,M1Z ⟨q,y⟩];rfl
            ·rw [M1Z q,M1V y,M1V (fun h=>y h.2)];rfl
           ·rw [M1V q,M1V (fun h=>q h.1)];rfl
      show (if len=0 then (if cap=0 then G1v size n e new else x0e bk size fl e sz sp len cap n new) else x0e bk size fl e sz sp len cap n new)=_
      simp only
      by_cases c:len=0
      ·by_cases j:cap=0
       ·rw [M1Z c,M1Z j,M1Z ⟨c,j⟩];rfl
       ·rw [M1Z c,M1V j,M1V (fun h=>j h.2)];exact grow (fun h=>j h.2)
      ·rw [M1V c,M1V (fun h=>c h.1)];exact grow (fun h=>c h.1)
 ·rw [M1V k]
  by_cases r:len + n<=1073741824
  ·by_cases z:bytes<=1024
   ·rw [M1Z r,M1Z z,M1V (fun h:1<=sz=>k ⟨r,z,h⟩)];rfl
   ·rw [M1Z r,M1V z];rfl
  ·rw [M1V r];rfl
end
noncomputable def opK:SOp->OpK:=@SOp.rec (fun _=>OpK)
 M1D v1X X0f J1H X0h J1L z0h t0d
 (fun a0 bk size fl g=>I1H bk size fl g a0)
 J1G
 (fun a0 a1 bk size fl g=>M1x bk size fl g a0 a1)
 v1W
 (fun a0 a1 bk size fl g=>V0C bk size fl g a0 a1)
 (fun a0 a1 a2 bk size fl g=>v1t bk size fl g a0 a1 a2)
 (fun a0 a1 a2 a3 a4 bk size fl g=>M1v bk size fl g a0 a1 a2 a3 a4)
 (fun a0 a1 a2 a3 a4 a5 bk size fl g=>M1w bk size fl g a0 a1 a2 a3 a4 a5)
 M1B
 (fun a0 a1 bk size fl g=>I1I bk size fl g a0 a1)
 J1J M1C J1I v1V
 (fun a0 a1 a2 bk size fl g=>V0B bk size fl g a0 a1 a2)
 (fun a0 a1 a2 a3 bk size fl g=>I1J bk size fl g a0 a1 a2 a3)
 J1K
 (fun a0 bk size fl g=>I1G bk size fl g a0)
 (fun a0 a1 a2 bk size fl g=>I1K bk size fl g a0 a1 a2)
 X0g
 (fun a0 a1 a2 a3 a4 bk size fl g=>v1r bk size fl g a0 a1 a2 a3 a4)
 (fun a0 bk size fl g=>I1L bk size fl g a0)
 (fun a0 bk size fl g=>V0D bk size fl g a0)
 (fun a0 a1 a2 bk size fl g=>v1s bk size fl g a0 a1 a2)
 (fun a0 a1 a2 bk size fl g=>v1u bk size fl g a0 a1 a2)
 (fun a0 a1 bk size fl g=>I1M bk size fl g a0 a1)
 (fun a0 bk size fl g=>I1F bk size fl g a0)
theorem w1n (bk:Nat->Blk) (size fl:Nat) (g:Nat->Value) (op:SOp):opK op bk size fl g=opE bk size fl g op:=by
 cases op <;> try rfl
 case mv x=>show OpResE.val (evK x g) .same=.val (evG g x) .same;rw [d0g]
 case pick c a b =>
  show E0U (evK c g) (.val (evK a g) .same) (.val (evK b g) .same)=opE bk size fl g (.pick c a b)
  simp only [opE];rw [d0g,d0g,d0g]
  cases evG g c <;> try rfl
  rename_i b;cases b <;> rfl
 case box e x=>show OpResE.val _ (.push (.row false e (j0N (evK x g))))=.val _ (.push (.row false e (a0t (evG g x))));rw [d0g,m0g]
 case build z ps =>
  show x0d ps g z (fun cs=>.val (.agg ⟨cs⟩) .same)=g0k ((d0M z (l0j g ps)).map fun cs=>.agg cs.toArray)
  rw [p0b];cases d0M z (l0j g ps) <;> rfl
 case lit e z n ps =>
  show x0d ps g (R0k z n) _=opE bk size fl g (.lit e z n ps)
  rw [p0b,R0l];simp only [opE]
  cases d0M (e0W z n) (l0j g ps) <;> rfl
 case load agg n a=>exact z0i bk size fl g agg n a
 case store n a x=>exact x0g bk size fl g n a x
 case bin tag b x y=>show F1O tag b (evK x g) (evK y g)=g0k (c0k tag b (evG g x) (evG g y));rw [V0p,d0g,d0g]
 case conv k x =>
  show o0D (evK x g) (fun _ n=>.val (.int k (n0q k n)) .same) .bad=opE bk size fl g (.conv k x)
  simp only [opE];rw [d0g]
  cases evG g x <;> try rfl
  rename_i n;show OpResE.val (.int k (n0q k n)) .same=_;rw [l0T]
 case fa off a =>
  show w0r (evK a g) _=opE bk size fl g (.fa off a)
  simp only [opE];rw [d0g]
  cases evG g a <;> try rfl
  rename_i p;cases p with
  | none=>rfl
  | some p =>
   obtain ⟨b,o,s⟩:=p
   cases s <;> rfl
 case fld agg off n x =>
  show U0P (evK x g) _=g0k (S0r agg off n (evG g x))
  rw [d0g]
  cases evG g x <;> try rfl
  rename_i cs
  cases agg with
  | false =>
   show H0u cs.toList off=g0k cs[off]?
   rw [p0l];simp
  | true =>
   show @Bool.rec (fun _=>OpResE) .bad (.val (.agg ⟨u0J (s0F cs.toList off) n⟩) .same) (Nat.ble (Nat.add off n) (q0w cs.toList))=g0k (if off + n<=cs.size then some (.agg (cs.extract off (off + n))) else none)
   rw [b0l,h0T,q0s,o0U]
   show (if off + n<=cs.toList.length then _ else _)=_
   have hs:cs.toList.length=cs.size:=by simp
   rw [hs]
   by_cases h:off + n<=cs.size
   ·rw [M1Z h,M1Z h]
    have:(⟨(cs.toList.drop off).take n⟩:Array Value)=cs.extract off (off + n):=by
     apply O1K.1
     rw [Array.toList_extract,List.extract_eq_take_drop,Nat.add_sub_cancel_left]
    rw [this];rfl
   ·rw [M1V h,M1V h];rfl
 case ia sz x i =>
  show E0V (evK x g) _=opE bk size fl g (.ia sz x i)
  simp only [opE,d0g]
  cases evG g x <;> try rfl
  rename_i p n c;cases p with
  | none=>rfl
  | some p =>
   show o0D (evG g i) _ .bad=_
   cases evG g i <;> try rfl
   rename_i k j
   simp only
   cases j with
   | ofNat j =>
    show @Bool.rec (fun _=>OpResE) .bad (.val (.pointer (some ⟨p.block,p.off + j * sz,none⟩)) .same) (Nat.ble (Nat.succ j) n)=_
    rw [b0l]
    by_cases h:j < n
    ·rw [M1Z (show j.succ<=n from h),M1Z (by simp only [Int.ofNat_eq_natCast];omega)];rfl
    ·rw [M1V (show ¬ j.succ<=n from h),M1V (by simp only [Int.ofNat_eq_natCast];omega)]
   | negSucc j =>
    rw [M1V (by simp)];rfl
 case ext x i =>
  show U0Q (evK x g) _=opE bk size fl g (.ext x i)
  simp only [opE];rw [d0g]
  cases evG g x <;> try rfl
  rename_i vs;show H0u vs.toList i=g0k vs[i]?;rw [p0l];simp
 case call f args lone=>show OpResE.call f (G1o args g) lone=.call f (args.map (evG g)) lone;rw [X0j]
 case len x =>
  show E0V (evK x g) _=opE bk size fl g (.len x)
  simp only [opE];rw [d0g]
  cases evG g x <;> rfl
 case app e sz bytes s x=>exact H0m bk size fl g e sz bytes s x
