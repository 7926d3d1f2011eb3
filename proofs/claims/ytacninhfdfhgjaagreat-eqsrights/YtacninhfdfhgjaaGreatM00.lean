/- Part 1 of the proof. -/
import Derived.Calls
import Derived.Laws.AppendOwn
import Derived.Laws.MakeOwn
import Derived.Laws.Build
set_option linter.unusedVariables false
set_option linter.unusedSimpArgs false
set_option linter.unusedSectionVars false
namespace Go.Proofs.YtacninhfdfhgjaaGreat
abbrev Q0T:=@List.getD_eq_getElem?_getD
abbrev Q0U:=@Option.bind_eq_some_iff
abbrev Q0V:=@Option.some.injEq
abbrev Q0W:=@Nat.le_refl
abbrev Q0X:=@Option.bind_eq_bind
abbrev Q0Y:=@Option.pure_def
abbrev Q0Z:=@List.take_length
abbrev R0a:=@List.getElem?_eq_getElem
abbrev R0b:=@Nat.mul_add
abbrev R0c:=@if_neg
abbrev R0d:=@List.getElem?_eq_none
abbrev R0e:=@Array.getD_eq_getD_getElem?
abbrev R0f:=@Bool.and_eq_true
abbrev R0g:=@List.getElem_mem
abbrev R0h:=@Nat.mul_le_mul_right
abbrev R0i:=@Nat.mul_assoc
abbrev R0j:=@List.take_of_length_le
abbrev R0k:=@if_pos
abbrev R0l:=@List.take_succ_eq_append_getElem
abbrev R0m:=@Nat.pow_succ
abbrev R0n:=@Array.getElem?_eq_some_iff
abbrev R0o:=@Nat.add_mul
abbrev R0p:=@Bool.false_eq_true
abbrev R0q:=@absurd
abbrev R0r:=@Nat.lt_of_lt_of_le
abbrev R0s:=@Nat.mod_eq_of_lt
abbrev R0t:=@List.getElem?_eq_some_iff
abbrev R0u:=@Nat.mul_comm
abbrev R0v:=@List.mem_append
abbrev R0w:=@Array.getElem?_eq_getElem
abbrev R0x:=@List.length_eq_zero_iff
abbrev R0y:=@Nat.mul_le_mul_left
abbrev R0z:=@Nat.le_trans
abbrev R0A:=@List.length_append
abbrev R0B:=@Nat.zero_add
abbrev R0C:=@Classical.byContradiction
abbrev R0D:=@List.all_cons
abbrev R0E:=@decide_eq_true_eq
abbrev R0F:=@Array.toArray_toList
abbrev R0G:=@Option.getD_some
abbrev R0H:=@Nat.zero_le
abbrev R0I:=@Nat.min_eq_left
abbrev R0J:=@List.length_replicate
abbrev R0K:=@if_false
abbrev R0L:=@List.drop_eq_getElem_cons
abbrev R0M:=@List.getElem?_map
abbrev R0N:=@Nat.add_zero
abbrev R0O:=@Nat.mul_one
abbrev R0P:=@Option.map_some
abbrev R0Q:=@List.mem_range
abbrev R0R:=@Nat.add_assoc
abbrev R0S:=@Nat.one_mul
abbrev R0T:=@if_true
abbrev R0U:=@List.mem_singleton
abbrev R0V:=@Nat.mod_lt
abbrev R0W:=@Nat.lt_of_mul_lt_mul_left
abbrev R0X:=@List.drop_append_of_le_length
abbrev R0Y:=@List.length_cons
abbrev R0Z:=@Array.getElem?_toList
abbrev S0a:=@Array.getElem?_setIfInBounds
abbrev S0b:=@List.all_eq_true
abbrev S0c:=@List.length_take
abbrev S0d:=@Int.tdiv_eq_ediv_of_nonneg
abbrev S0e:=@Array.getElem?_eq_none
abbrev S0f:=@List.drop_eq_nil_of_le
abbrev S0g:=@List.getElem?_set_self
abbrev S0h:=@List.getElem?_range
abbrev S0i:=@List.drop_drop
abbrev S0j:=@List.drop_zero
abbrev S0k:=@Nat.mul_le_mul
abbrev S0l:=@Nat.div_lt_iff_lt_mul
abbrev S0m:=@List.getElem?_drop
abbrev S0n:=@Nat.eq_zero_or_pos
abbrev S0o:=@List.take_append_of_le_length
abbrev S0p:=@Nat.div_eq_of_lt
abbrev S0q:=@Nat.pow_le_pow_right
abbrev S0r:=@Nat.mul_left_comm
abbrev S0s:=@Bool.eq_iff_iff
abbrev S0t:=@Nat.two_pow_add_eq_or_of_lt
abbrev S0u:=@List.getElem_replicate
abbrev S0v:=@Option.map_eq_some_iff
abbrev S0w:=@Int.mul_nonpos_of_nonpos_of_nonneg
abbrev S0x:=@BitVec.toNat_ofInt
abbrev S0y:=@List.getElem?_take
abbrev S0z:=@List.getElem_append_right
abbrev S0A:=@List.take_take
abbrev S0B:=@List.take_zero
abbrev S0C:=@Nat.pow_add
abbrev S0D:=@List.mem_cons_of_mem
abbrev S0E:=@Bool.not_eq_true'
abbrev S0F:=@Int.natCast_mul
abbrev S0G:=@List.ext_getElem?
abbrev S0H:=@Nat.div_add_mod
abbrev S0I:=@List.all_nil
abbrev S0J:=@Int.toNat_of_nonneg
abbrev S0K:=@List.getElem?_replicate
abbrev S0L:=@Prod.mk.injEq
abbrev S0M:=@List.drop_take
abbrev S0N:=@List.mapM_cons
abbrev S0O:=@List.nil_append
abbrev S0P:=@Nat.mod_add_div
abbrev S0Q:=@Nat.two_pow_pos
abbrev S0R:=@Bool.false_or
abbrev S0S:=@Nat.lt_of_mul_lt_mul_right
abbrev S0T:=@List.mem_of_mem_take
abbrev S0U:=@Nat.div_add_mod'
abbrev S0V:=@Array.getElem?_push
abbrev S0W:=@Array.length_toList
abbrev S0X:=@List.getElem_of_mem
abbrev S0Y:=@List.getElem_append_left
abbrev S0Z:=@Array.size_push
abbrev T0a:=@List.all_append
abbrev T0b:=@List.mem_cons_self
abbrev T0c:=@List.mem_replicate
abbrev T0d:=@Nat.lt_of_le_of_lt
abbrev T0e:=@List.getElem?_set
abbrev T0f:=@congrArg
abbrev T0g:=@Nat.le_of_lt
abbrev T0h:=@Nat.sub_zero
end Go.Proofs.YtacninhfdfhgjaaGreat
namespace Go.Proofs.YtacninhfdfhgjaaGreat.AI
section
open Go
def unk:Nat:=18446744073709551616
inductive Blk where
 | dead
 | row (ro:Bool) (elem:TypeId) (cells:List Value)
 | emap
 deriving Inhabited
abbrev a0c:=Array Blk
abbrev a0Q:=List Value
inductive Opd where
 | tmp (t:Nat)
 | const (v:Value)
 | fn (f:FuncId)
 deriving Inhabited
inductive SOp where
 | mv (x:Opd)
 | pick (c a b:Opd)
 | alloc (elem:TypeId) (zero:List Value)
 | box (elem:TypeId) (x:Opd)
 | build (zero:List Value) (parts:List (Nat × Nat × Opd))
 | lit (elem:TypeId) (zero:List Value) (len:Nat) (parts:List (Nat × Nat × Opd))
 | load (agg:Bool) (n:Nat) (a:Opd)
 | store (n:Nat) (a x:Opd)
 | chk (x:Opd)
 | bin (tag:Nat) (b:BinOp) (x y:Opd)
 | un (u:UnOp) (x:Opd)
 | conv (k:IntKind) (x:Opd)
 | iface (t:TypeId) (x:Opd)
 | mkfn (fn:Fn) (first captured:List Opd)
 | mk (elem:TypeId) (bytes:Nat) (zero:List Value) (len cap:Opd)
 | sl (elem:TypeId) (size:Nat) (x:Opd) (lo hi mx:Option Opd)
 | fa (off:Nat) (a:Opd)
 | fa0 (elem:TypeId) (a:Opd)
 | fld (agg:Bool) (off n:Nat) (x:Opd)
 | ia (size:Nat) (x i:Opd)
 | ext (x:Opd) (i:Nat)
 | call (f:FuncId) (args:List Opd) (lone:Bool)
 | callv (x:Opd) (args:List Opd) (lone:Bool)
 | inv (x:Opd) (tbl:List (TypeId × FuncId)) (args:List Opd) (lone:Bool)
 | len (x:Opd)
 | cap (x:Opd)
 | mnx (big:Bool) (x:Opd) (ys:List Opd)
 | app (elem:TypeId) (size bytes:Nat) (s x:Opd)
 | appz (elem:TypeId) (bytes:Nat) (zero:List Value) (s n:Opd)
 | pan (x:Opd)
 | mkmap
 | look (z:Value) (x i:Opd)
 | stuck
 deriving Inhabited
structure a0w where
 dst:Option Nat
 g:Option (Nat × Bool)
 op:SOp
 deriving Inhabited
inductive SCode where
 | skip
 | seq (a b:SCode)
 | cond (c:Opd) (a b:SCode)
 | block (id:Nat) (c:SCode)
 | loop (c:SCode)
 | exit (id:Nat)
 | ret
 | reg (ops:List a0w)
 | draw (ops:List a0w) (bef:List Nat) (pairs:List (Nat × Nat))
 deriving Inhabited
inductive SRes where
 | tmp (t:Nat)
 | cell (a:Nat) (agg:Bool) (n:Nat)
 deriving Inhabited
structure q0b where
 np:Nat
 nt:Nat
 res:List SRes
 body:SCode
 deriving Inhabited
inductive XA where
 | normal
 | exit (id:Nat)
 | ret
 deriving DecidableEq,Inhabited
inductive Res (α:Type) where
 | bad
 | pan (v:Value)
 | ok (a:α)
namespace Res
def bind {α β:Type}:Res α→(α→Res β)→Res β
 | .bad,_=>.bad
 | .pan v,_=>.pan v
 | .ok a,f=>f a
end Res
def get (t:a0Q) (i:Nat):Value:=t.getD i undef
def put (t:a0Q):Option Nat→Value→a0Q
 | some d,v=>t.set d v
 | none,_=>t
def ev (t:a0Q):Opd→Value
 | .tmp i=>get t i
 | .const v=>v
 | .fn f=>.func (.func f) #[] #[]
def a0c.blk (H:a0c) (b:Nat):Blk:=H.getD b .dead
def a0c.cells? (H:a0c) (b off n:Nat):Option (List Value) :=
 match H.blk b with
 | .row _ _ cs=>if off + n≤cs.length then some ((cs.drop off).take n) else none
 | _=>none
def a0M:Value→List Value
 | .agg cs=>cs.toList
 | v=>[v]
def a0B:Value→Bool
 | .agg _ | .tuple _=>false
 | _=>true
def a0V (cs:List Value) (off:Nat):List Value→List Value
 | []=>cs
 | v :: r=>a0V (cs.set off v) (off + 1) r
def a0c.write? (H:a0c) (fl b off:Nat) (vs:List Value):Option a0c :=
 match H.blk b with
 | .row false e cs=>if fl≤b∧off + vs.length≤cs.length∧vs.all a0B=true then some (H.setIfInBounds b (.row false e (a0V cs off vs))) else none
 | _=>none
def f0x (cells:List Value):List (Nat × Nat × Value)→Option (List Value)
 | []=>some cells
 | (off,n,v) :: r=>if (a0M v).length=n∧off + n≤cells.length then f0x (a0V cells off (a0M v)) r else none
def b0a (t:a0Q) (ps:List (Nat × Nat × Opd)):List (Nat × Nat × Value):=ps.map fun p=>(p.1,p.2.1,ev t p.2.2)
def b0Q (zero:List Value):Nat→List Value
 | 0=>[]
 | n + 1=>zero ++ b0Q zero n
def b0X (tag:Nat) (op:BinOp) (x y:Value):Option Value :=
 match op,x,y with
 | .shl,.int k a,.int _ b=>if 0≤b then some (.int k (k.wrap (a * 2 ^ (min b.toNat k.bits)))) else none
 | .shr,.int k a,.int _ b=>if 0≤b then some (.int k (a.fdiv (2 ^ (min b.toNat k.bits)))) else none
 | op,.int k a,.int k' b =>
  if k=k' then
   match op with
   | .add=>some (.int k (k.wrap (a + b)))
   | .sub=>some (.int k (k.wrap (a - b)))
   | .mul=>some (.int k (k.wrap (a * b)))
   | .quo=>if b=0 then none else some (.int k (k.wrap (a.tdiv b)))
   | .rem=>if b=0 then none else some (.int k (a.tmod b))
   | .and=>some (.int k (k.wrap (BitVec.ofInt k.bits a &&& BitVec.ofInt k.bits b).toNat))
   | .or=>some (.int k (k.wrap (BitVec.ofInt k.bits a ||| BitVec.ofInt k.bits b).toNat))
   | .xor=>some (.int k (k.wrap (BitVec.ofInt k.bits a ^^^ BitVec.ofInt k.bits b).toNat))
   | .andNot=>none
   | .eql=>some (.bool (a == b))
   | .neq=>some (.bool (a != b))
   | .lss=>some (.bool (a < b))
   | .leq=>some (.bool (a≤b))
   | .gtr=>some (.bool (a > b))
   | .geq=>some (.bool (a ≥ b))
   | .shl | .shr=>none
  else none
 | .eql,.bool a,.bool b=>if tag=1 then some (.bool (a == b)) else none
 | .neq,.bool a,.bool b=>if tag=1 then some (.bool (a != b)) else none
 | .eql,.slice a _ _,.slice none _ _=>if tag=2 then some (.bool a.isNone) else none
 | .neq,.slice a _ _,.slice none _ _=>if tag=2 then some (.bool a.isSome) else none
 | .eql,.nilFunc,.nilFunc=>if tag=3 then some (.bool true) else none
 | .neq,.nilFunc,.nilFunc=>if tag=3 then some (.bool false) else none
 | .eql,.func _ _ _,.nilFunc=>if tag=3 then some (.bool false) else none
 | .neq,.func _ _ _,.nilFunc=>if tag=3 then some (.bool true) else none
 | _,_,_=>none
def unA (u:UnOp) (x:Value):Option Value :=
 match u,x with
 | .neg,.int k n=>some (.int k (k.wrap (0 - n)))
 | .xor,.int k n=>some (.int k (k.wrap (BitVec.ofInt k.bits (if k.signed then -1 else k.max) ^^^ BitVec.ofInt k.bits n).toNat))
 | .not,.bool b=>some (.bool !b)
 | _,_=>none
def mn2 (big:Bool) (a b:Int):Int:=if big then (if b > a then b else a) else (if b < a then b else a)
def w0F (bytes:Nat):Value→Value→Option Nat
 | .slice none 0 0,.int _ n=>if 0 < n∧n≤1073741824∧bytes≤1024 then some n.toNat else none
 | _,_=>none
def H0M:Value→Option Value
 | .slice none 0 0=>some (.int .i64 0)
 | _=>none
def m0G (big:Bool):Value→List Value→Option Value
 | .int k a,[]=>some (.int k a)
 | .int k a,.int _ b :: r=>m0G big (.int k (mn2 big a b)) r
 | _,_=>none
def elemOk (H:a0c) (e:TypeId):Value→Bool
 | .slice (some p) _ cap=>if cap=0 then true else match H.blk p.block with | .row true _ _=>true | .row false e' _=>e' == e | _=>false
 | _=>true
def bnd (d:Nat):Option Value→Option Nat
 | none=>some d
 | some (.int _ n)=>if 0≤n then some n.toNat else none
 | some _=>none
def c0D (size:Nat) (x:Value) (lo hi mx:Option Value):Option Value :=
 match x with
 | .slice a len cap =>
  match bnd 0 lo,bnd len hi with
  | some l,some h =>
   if l≤h∧h≤len then
    match mx with
    | none=>some (.slice (a.map fun p=>⟨p.block,p.off + l * size,none⟩) (h - l) (if cap=unk then unk else cap - l))
    | some v =>
     match bnd 0 (some v) with
     | some m=>if hi.isSome=true∧h≤m∧m≤len then some (.slice (a.map fun p=>⟨p.block,p.off + l * size,none⟩) (h - l) (m - l)) else none
     | none=>none
   else none
  | _,_=>none
 | _=>none
def b0y (H:a0c) (agg:Bool) (n:Nat) (a:Value):Option Value :=
 match a with
 | .pointer (some p) =>
  if agg=true∧n=0 then some (.agg #[]) else
  if p.spot.isSome=true then none else
  match H.cells? p.block p.off (if agg then n else 1) with
  | some cs=>if agg then some (.agg cs.toArray) else cs.head?
  | none=>none
 | _=>none
def H0f (agg:Bool) (off n:Nat):Value→Option Value
 | .agg cs=>if agg then (if off + n≤cs.size then some (.agg (cs.extract off (off + n))) else none) else cs[off]?
 | _=>none
def j0u (fl:Nat) (H:a0c) (elem:TypeId) (size bytes:Nat) (s x:Value):Option (Value × a0c) :=
 match s,x with
 | .slice base len cap,.slice xb n _ =>
  if n=0 then some (.slice base len cap,H) else
  if len + n≤1073741824∧bytes≤1024∧0 < size then
   match xb with
   | none=>none
   | some xp =>
    match H.cells? xp.block xp.off (n * size) with
    | none=>none
    | some new =>
     if new.all a0B=false then none else
     match base with
     | none=>if len=0∧cap=0 then some (.slice (some ⟨H.size,0,none⟩) n unk,H.push (.row false elem new)) else none
     | some sp =>
      if len=0∧cap=0 then some (.slice (some ⟨H.size,0,none⟩) n unk,H.push (.row false elem new)) else
      match H.cells? sp.block sp.off (len * size) with
      | none=>none
      | some old =>
       if cap ≠ unk∧cap < len + n then some (.slice (some ⟨H.size,0,none⟩) (len + n) unk,H.push (.row false elem (old ++ new)))
       else
        match H.blk sp.block with
        | .row false e _ =>
         if e=elem∧fl≤sp.block then some (.slice (some ⟨H.size,0,none⟩) (len + n) unk,(H.setIfInBounds sp.block .dead).push (.row false elem (old ++ new)))
         else none
        | _=>none
  else none
 | _,_=>none
def m0E (H:a0c) (z:Value):Value→Value→Option Value
 | .map (some b),.int _ _=>match H.blk b with | .emap=>some z | _=>none
 | _,_=>none
inductive OpRes where
 | bad
 | val (v:Value) (H:a0c)
 | pan (v:Value)
 | call (f:FuncId) (args:List Value) (lone:Bool)
def b0b (H:a0c):Option Value→OpRes
 | some v=>.val v H
 | none=>.bad
def e0A:Option (Value × a0c)→OpRes
 | some (v,H)=>.val v H
 | none=>.bad
def opA (fl:Nat) (t:a0Q) (H:a0c):SOp→OpRes
 | .mv x=>.val (ev t x) H
 | .pick c a b=>match ev t c with | .bool true=>.val (ev t a) H | .bool false=>.val (ev t b) H | _=>.bad
 | .alloc e z=>.val (.pointer (some ⟨H.size,0,none⟩)) (H.push (.row false e z))
 | .box e x=>.val (.pointer (some ⟨H.size,0,none⟩)) (H.push (.row false e (a0M (ev t x))))
 | .build z ps=>b0b H ((f0x z (b0a t ps)).map fun cs=>.agg cs.toArray)
 | .lit e z n ps =>
  match f0x (b0Q z n) (b0a t ps) with
  | some cs=>.val (.slice (some ⟨H.size,0,none⟩) n n) (H.push (.row false e cs))
  | none=>.bad
 | .load agg n a=>b0b H (b0y H agg n (ev t a))
 | .store n a x =>
  match ev t a with
  | .pointer (some p) =>
   if p.spot.isSome=true ∨ (a0M (ev t x)).length ≠ n then .bad else
   match H.write? fl p.block p.off (a0M (ev t x)) with
   | some H'=>.val undef H'
   | none=>.bad
  | _=>.bad
 | .chk x =>
  match ev t x with
  | .pointer (some a)=>.val (.pointer (some a)) H
  | .func (.func f) a b=>.val (.func (.func f) a b) H
  | .iface a b=>.val (.iface a b) H
  | _=>.bad
 | .bin tag b x y=>b0b H (b0X tag b (ev t x) (ev t y))
 | .un u x=>b0b H (unA u (ev t x))
 | .conv k x=>match ev t x with | .int _ n=>.val (.int k (k.wrap n)) H | _=>.bad
 | .iface ty x=>.val (.iface ty (ev t x)) H
 | .mkfn f a b=>.val (.func f (a.map (ev t)).toArray (b.map (ev t)).toArray) H
 | .mk e bytes z len cap =>
  match ev t len,ev t cap with
  | .int _ l,.int _ c =>
   if 0≤l∧l≤c∧c≤1073741824∧bytes≤1024 then .val (.slice (some ⟨H.size,0,none⟩) l.toNat c.toNat) (H.push (.row false e (b0Q z l.toNat))) else .bad
  | _,_=>.bad
 | .sl e size x lo hi mx=>if elemOk H e (ev t x)=false then .bad else b0b H (c0D size (ev t x) (lo.map (ev t)) (hi.map (ev t)) (mx.map (ev t)))
 | .fa off a=>match ev t a with | .pointer (some p)=>if p.spot.isSome=true then .bad else .val (.pointer (some ⟨p.block,p.off + off,none⟩)) H | _=>.bad
 | .fa0 e a =>
  match ev t a with
  | .pointer (some p) =>
   match H.blk p.block with
   | .row false e' _=>if p.spot.isSome=false∧e' = e∧p.off=0 then .val (.pointer (some ⟨p.block,0,none⟩)) H else .bad
   | _=>.bad
  | _=>.bad
 | .fld agg off n x=>b0b H (H0f agg off n (ev t x))
 | .ia size x i =>
  match ev t x,ev t i with
  | .slice (some p) n _,.int _ j=>if 0≤j∧j < n then .val (.pointer (some ⟨p.block,p.off + j.toNat * size,none⟩)) H else .bad
  | _,_=>.bad
 | .ext x i=>match ev t x with | .tuple vs=>b0b H vs[i]? | _=>.bad
 | .call f args lone=>.call f (args.map (ev t)) lone
 | .callv x args lone=>match ev t x with | .func (.func f) first captured=>.call f (first.toList ++ args.map (ev t) ++ captured.toList) lone | _=>.bad
 | .inv x tbl args lone =>
  match ev t x with
  | .iface ty v=>match tbl.lookup ty with | some f=>.call f (v :: args.map (ev t)) lone | none=>.bad
  | _=>.bad
 | .len x=>match ev t x with | .slice _ n _=>.val (.int .i64 n) H | _=>.bad
 | .cap x=>b0b H (H0M (ev t x))
 | .mnx big x ys=>b0b H (m0G big (ev t x) (ys.map (ev t)))
 | .app e size bytes s x=>e0A (j0u fl H e size bytes (ev t s) (ev t x))
 | .appz e bytes z s x=>match w0F bytes (ev t s) (ev t x) with | some n=>.val (.slice (some ⟨H.size,0,none⟩) n unk) (H.push (.row false e (b0Q z n))) | none=>.bad
 | .pan x=>match ev t x with | .iface a b=>.pan (.iface a b) | _=>.bad
 | .mkmap=>.val (.map (some H.size)) (H.push .emap)
 | .look z x i=>b0b H (m0E H z (ev t x) (ev t i))
 | .stuck=>.bad
def blkOf:Value→List Nat
 | .pointer (some p)=>[p.block]
 | .slice (some p) _ _=>[p.block]
 | .map (some b)=>[b]
 | _=>[]
def blkW:Value→List Nat
 | .slice (some p) len cap=>if len=0∧cap=0 then [] else [p.block]
 | _=>[]
def c0z (t:a0Q):SOp→List Nat × List Nat
 | .load _ _ a=>(blkOf (ev t a),[])
 | .store _ a _=>([],blkOf (ev t a))
 | .app _ _ _ s x=>(blkOf (ev t x),blkW (ev t s))
 | .sl _ _ x _ _ _=>(blkOf (ev t x),[])
 | .fa0 _ x=>(blkOf (ev t x),[])
 | .look _ x _=>(blkOf (ev t x),[])
 | _=>([],[])
def b0d (t:a0Q):Option (Nat × Bool)→Bool
 | none=>true
 | some (j,want)=>match get t j with | .bool b=>b == want | _=>false
def p0z (a b:List Nat):Bool:=a.any b.contains
def c0M (log:List (List Nat × List Nat)) (pairs:List (Nat × Nat)):Bool :=
 pairs.all fun p =>
  let x:=log.getD p.1 ([],[])
  let y:=log.getD p.2 ([],[])
  !p0z x.2 y.1 && !p0z x.2 y.2 && !p0z x.1 y.2
def i0G (bef:List Nat) (i:Nat):Option (Nat × Value)→Bool
 | some (j,_)=>(bef.getD i 0).testBit j
 | none=>false
inductive Out where
 | bad
 | pan (v:Value)
 | fin (e:XA) (t:a0Q) (H:a0c)
section
variable (call:Nat→FuncId→List Value→a0c→Res (Value × a0c))   -- floor,function,arguments,heap
def b0V (fl:Nat) (t:a0Q) (H:a0c) (o:SOp):Res (Value × a0c) :=
 match opA fl t H o with
 | .bad=>.bad
 | .pan v=>.pan v
 | .val v H'=>.ok (v,H')
 | .call f args lone=>call (if lone then fl else max fl H.size) f args H
def g0k (fl:Nat):List a0w→a0Q→a0c→Out
 | [],t,H=>.fin .normal t H
 | o :: r,t,H =>
  if b0d t o.g then
   match b0V call fl t H o.op with
   | .bad=>.bad
   | .pan v=>.pan v
   | .ok (v,H')=>g0k fl r (put t o.dst v) H'
  else g0k fl r (put t o.dst undef) H
def b0J (fl:Nat) (bef:List Nat) (pairs:List (Nat × Nat)):Nat→List a0w→a0Q→a0c→Option (Nat × Value)→List (List Nat × List Nat)→Out
 | _,[],t,H,p,log =>
  if c0M log.reverse pairs then
   match p with
   | none=>.fin .normal t H
   | some (_,v)=>.pan v
  else .bad
 | i,o :: r,t,H,p,log =>
  if i0G bef i p=true then b0J fl bef pairs (i + 1) r t H p (([],[]) :: log) else
  if b0d t o.g then
   match b0V call fl t H o.op with
   | .bad=>.bad
   | .pan v=>match p with | none=>b0J fl bef pairs (i + 1) r t H (some (i,v)) (([],[]) :: log) | some _=>.bad
   | .ok (v,H')=>b0J fl bef pairs (i + 1) r (put t o.dst v) H' p (c0z t o.op :: log)
  else b0J fl bef pairs (i + 1) r (put t o.dst undef) H p (([],[]) :: log)
def a0J (fl:Nat):Nat→SCode→a0Q→a0c→Out
 | 0,_,_,_=>.bad
 | n + 1,c,t,H =>
  match c with
  | .skip=>.fin .normal t H
  | .exit id=>.fin (.exit id) t H
  | .ret=>.fin .ret t H
  | .seq a b =>
   match a0J fl n a t H with
   | .fin .normal t' H'=>a0J fl n b t' H'
   | r=>r
  | .cond c a b =>
   match ev t c with
   | .bool true=>a0J fl n a t H
   | .bool false=>a0J fl n b t H
   | _=>.bad
  | .block id c =>
   match a0J fl n c t H with
   | .fin (.exit id') t' H'=>if id' = id then .fin .normal t' H' else .fin (.exit id') t' H'
   | r=>r
  | .loop c =>
   match a0J fl n c t H with
   | .fin .normal t' H'=>a0J fl n (.loop c) t' H'
   | r=>r
  | .reg ops=>g0k call fl ops t H
  | .draw ops bef pairs=>b0J call fl bef pairs 0 ops t H none []
end
def m0n (H:a0c) (t:a0Q):SRes→Option Value
 | .tmp i=>some (get t i)
 | .cell a agg n=>b0y H agg n (get t a)
def d0V (H:a0c) (t:a0Q):List SRes→Option (List Value)
 | []=>some []
 | r :: rs=>match m0n H t r,d0V H t rs with | some v,some vs=>some (v :: vs) | _,_=>none
def d0c:List Value→Value
 | [v]=>v
 | vs=>.tuple vs.toArray
structure N0m where
 f:FuncId
 solved:FuncId
 zero:List Value
 np:Nat
 ns:Nat
 deriving Inhabited
structure Env where
 code:FuncId→Option q0b
 quick:Option N0m
 known:List (FuncId × Value):=[]
def Env.know (E:Env) (f:FuncId) (args:List Value):Option Value:=if args.isEmpty then E.known.lookup f else none
def i0g (z:List Value) (H:a0c):Res (Value × a0c)→Res (Value × a0c)
 | .bad=>.bad
 | .pan (.iface _ _)=>.ok (.tuple #[.agg z.toArray,.int .i64 0,.bool false],H)
 | .pan _=>.bad
 | .ok (.tuple vs,H')=>match vs.toList with | [.agg a,.int k n]=>if a.size=z.length∧a.toList.all a0B=true then .ok (.tuple #[.agg a,.int k n,.bool true],H') else .bad | _=>.bad
 | .ok _=>.bad
def a0T (E:Env):Nat→Nat→FuncId→List Value→a0c→Res (Value × a0c)
 | 0,_,_,_,_=>.bad
 | n + 1,fl,f,args,H =>
  match E.code f with
  | none =>
   match E.know f args with
   | some v=>.ok (v,H)
   | none =>
   match E.quick with
   | some q =>
    if f=q.f then
     match args with
     | [.agg p,.agg s]=>if p.size=q.np∧s.size=q.ns then i0g q.zero H (a0T E n (max fl H.size) q.solved [.agg #[],.agg p,.agg s] H) else .bad
     | _=>.bad
    else .bad
   | none=>.bad
  | some sf =>
   if args.length=sf.np then
    match a0J (a0T E n) fl n sf.body (args ++ List.replicate (sf.nt - args.length) undef) H with
    | .bad=>.bad
    | .pan v=>.pan v
    | .fin e t H' =>
     match e with
     | .exit _=>.bad
     | _ =>
      match d0V H' t sf.res with
      | some vs=>.ok (d0c vs,H')
      | none=>.bad
   else .bad
def b0E:Operand→Option Opd
 | .tmp t=>some (.tmp t)
 | .const v=>some (.const v)
 | .func f=>some (.fn f)
 | .global _=>none
def f0w (l:List Operand):Option (List Opd):=l.mapM b0E
def k0l:Option Operand→Option (Option Opd)
 | none=>some none
 | some x=>(b0E x).map some
def q0O:Value→Bool
 | .bool _ | .int _ _ | .string _ | .pointer none | .slice none 0 0 | .nilFunc | .nilIface | .map none=>true
 | .func (.func _) a b=>a.size == 0 && b.size == 0
 | _=>false
def a0v:Opd→Bool
 | .const v=>q0O v || (match v with | .agg cs=>cs.toList.all q0O | _=>false)
 | _=>true
def a0j:SOp→List Opd
 | .mv x | .box _ x | .load _ _ x | .chk x | .un _ x | .conv _ x | .iface _ x | .fa _ x | .fa0 _ x | .fld _ _ _ x | .ext x _ | .len x | .cap x | .pan x=>[x]
 | .mkmap | .stuck=>[]
 | .pick a b c=>[a,b,c]
 | .alloc _ _=>[]
 | .build _ ps | .lit _ _ _ ps=>ps.map (·.2.2)
 | .store _ a x | .bin _ _ a x | .mk _ _ _ a x | .ia _ a x | .app _ _ _ a x | .appz _ _ _ a x | .look _ a x=>[a,x]
 | .mnx _ x ys=>x :: ys
 | .mkfn _ a b=>a ++ b
 | .sl _ _ x lo hi mx=>[x] ++ lo.toList ++ hi.toList ++ mx.toList
 | .call _ as _=>as
 | .callv x as _ | .inv x _ as _=>x :: as
def j0R (P:Program) (t:TypeId):Bool:=match P.underlying t with | some (.int _)=>true | _=>false
def h0H (P:Program) (t:TypeId):Option Bool :=
 match P.underlying t with
 | some (.struct _) | some (.array _ _)=>some true
 | some _=>some false
 | none=>none
def b0U (P:Program) (t:TypeId):Option Nat:=(P.info? t).map (·.size)
def g0v (P:Program) (t:TypeId):Option Nat:=(P.info? t).map (·.bytes)
def h0B (P:Program) (t:TypeId):Option (List Value) :=
 match (P.info? t).bind (·.zero) with
 | some v=>if (a0M v).all q0O then some (a0M v) else none
 | none=>none
def e0P (P:Program) (t:TypeId):Option TypeId:=match P.underlying t with | some (.slice e)=>some e | _=>none
def e0e (P:Program) (t:TypeId):Option (List Field):=match P.underlying t with | some (.struct fs)=>some fs.toList | _=>none
def H0g (P:Program) (t:TypeId):Option IntKind:=match P.underlying t with | some (.int k)=>some k | _=>none
def x0c (P:Program) (f:FuncId):Bool :=
 match P.funcs[f]? with
 | some fn=>!(fn.name == "runtime.NumGoroutine") && fn.body.isSome
 | none=>false
def x0K (d:TypeDesc):Nat:=match d with | .bool=>1 | .slice _=>2 | .func _ _ _=>3 | _=>0
def m0F (P:Program) (name:String):List (TypeId × FuncId) :=
 (List.range P.types.size).filterMap fun t =>
  match P.info? t with
  | some i =>
   match i.methods.find? (·.name == name) with
   | some m =>
    match m.func,P.underlying t with
    | some (f,false),some (.struct _)=>if m.path.isEmpty && x0c P f then some (t,f) else none
    | _,_=>none
   | none=>none
  | none=>none
def i0t (P:Program) (fs:List Field):List (Nat × Operand)→Option (List (Nat × Nat × Opd))
 | []=>some []
 | p :: r =>
  match fs[p.1]? with
  | none=>none
  | some f =>
   match b0U P f.type,b0E p.2,i0t P fs r with
   | some n,some x,some l=>some ((f.offset,n,x) :: l)
   | _,_,_=>none
def g0a (size:Nat):List (Nat × Operand)→Option (List (Nat × Nat × Opd))
 | []=>some []
 | p :: r =>
  match b0E p.2,g0a size r with
  | some x,some l=>some ((p.1 * size,size,x) :: l)
  | _,_=>none
def cOp (P:Program) (lone:Bool):Op→Option SOp
 | .move x | .assign x=>(b0E x).map .mv
 | .pick c a b=>do pure (.pick (← b0E c) (← b0E a) (← b0E b))
 | .alloc e=>do pure (.alloc e (← h0B P e))
 | .box e x=>do pure (.box e (← b0E x))
 | .build t ps=>do
  let fs ← e0e P t
  if (fs.all fun f=>(b0U P f.type).isSome) then pure (.build (← h0B P t) (← i0t P fs ps.toList)) else none
 | .buildSlice t n ps=>do
  let e ← e0P P t
  let size ← b0U P e
  let z ← h0B P e
  if size=z.length∧0 < size∧n * size≤16777216 then pure (.lit e z n (← g0a size ps.toList)) else none
 | .load t a=>do pure (.load (← h0H P t) (← b0U P t) (← b0E a))
 | .store t a x=>do pure (.store (← b0U P t) (← b0E a) (← b0E x))
 | .nilCheck x=>do pure (.chk (← b0E x))
 | .binOp b t x y _=>do
  let d ← P.underlying t
  pure (.bin (x0K d) b (← b0E x) (← b0E y))
 | .unOp u _ x=>do pure (.un u (← b0E x))
 | .convert s d x=>do
  let _ ← H0g P s
  pure (.conv (← H0g P d) (← b0E x))
 | .makeInterface t x =>
  match P.underlying t with
  | some (.interface _) | none=>none
  | some _=>do pure (.iface t (← b0E x))
 | .makeFunc f a b=>match f with | .func _=>do pure (.mkfn f (← f0w a.toList) (← f0w b.toList)) | _=>none
 | .makeSlice t l c=>do
  let e ← e0P P t
  let size ← b0U P e
  let z ← h0B P e
  if size=z.length∧0 < size then pure (.mk e (← g0v P e) z (← b0E l) (← b0E c)) else none
 | .slice t x lo hi mx=>do
  let e ← e0P P t
  pure (.sl e (← b0U P e) (← b0E x) (← k0l lo) (← k0l hi) (← k0l mx))
 | .fieldAddr s a i=>do
  let fs ← e0e P s
  let f ← fs[i]?
  let n ← b0U P f.type
  if n=0 then (if f.offset=0∧f.byteOffset=0∧((List.range (P.cellsOf s)).all fun k=>(byteOfCell P P.depth s k).isSome)=true∧P.cellsOf s ≠ 0 then do pure (.fa0 s (← b0E a)) else none) else pure (.fa f.offset (← b0E a))
 | .field t x i=>do
  let fs ← e0e P t
  let f ← fs[i]?
  pure (.fld (← h0H P f.type) f.offset (← b0U P f.type) (← b0E x))
 | .indexAddr t x i=>do
  let e ← e0P P t
  pure (.ia (← b0U P e) (← b0E x) (← b0E i))
 | .extract x i=>do pure (.ext (← b0E x) i)
 | .call { callee:=.builtin b,args,argTypes } =>
  match b,args.toList,argTypes.toList with
  | .len,[x],[t]=>do
   let _ ← e0P P t
   pure (.len (← b0E x))
  | .cap,[x],[t]=>do
   let _ ← e0P P t
   pure (.cap (← b0E x))
  | .max,x :: ys,_=>do pure (.mnx true (← b0E x) (← f0w ys))
  | .min,x :: ys,_=>do pure (.mnx false (← b0E x) (← f0w ys))
  | .append,[s,x],[t,u]=>do
   let e ← e0P P t
   let size ← b0U P e
   let z ← h0B P e
   if size=z.length∧0 < size∧u=t then pure (.app e size (← g0v P e) (← b0E s) (← b0E x))
   else if size=z.length∧0 < size∧j0R P u=true then pure (.appz e (← g0v P e) z (← b0E s) (← b0E x)) else none
  | _,_,_=>none
 | .call { callee:=.value (.func f),args,.. }=>if x0c P f then do pure (.call f (← f0w args.toList) lone) else none
 | .call { callee:=.value x,args,.. }=>do pure (.callv (← b0E x) (← f0w args.toList) lone)
 | .call { callee:=.invoke x name,args,.. }=>do pure (.inv (← b0E x) (m0F P name) (← f0w args.toList) lone)
 | .panic x=>do pure (.pan (← b0E x))
 | .makeMap _ none=>some .mkmap
 | .lookup t x i false =>
  match P.underlying t with
  | some (.map k e) =>
   if j0R P k=true then
    match (P.info? e).bind (·.zero) with
    | some v=>if q0O v then do pure (.look v (← b0E x) (← b0E i)) else none
    | none=>none
   else none
  | _=>none
 | .mapUpdate _ _ _ _=>some .stuck
 | _=>none
def h0T (P:Program) (ops:Array Oper) (lone:Bool) (o:Oper):Option a0w:=do
 let op ← cOp P lone o.op
 if (a0j op).all a0v then
  match o.guard with
  | none=>pure { dst:=o.dst,g:=none,op }
  | some (j,want)=>do
   let oj ← ops[j]?
   let d ← oj.dst
   pure { dst:=o.dst,g:=some (d,want),op }
 else none
def way:SOp→Nat
 | .load _ _ _ | .sl _ _ _ _ _ _ | .fa0 _ _ | .look _ _ _=>1
 | .store _ _ _ | .app _ _ _ _ _=>2
 | .call _ _ _ | .callv _ _ _ | .inv _ _ _ _=>3
 | .alloc _ _ | .box _ _ | .lit _ _ _ _ | .mk _ _ _ _ _ | .appz _ _ _ _ _ | .mkmap=>4
 | _=>0
def L0d:Opd→Option Nat
 | .tmp t=>some t
 | _=>none
def f0M (o:Oper) (s:a0w):List Nat :=
 (a0j s.op).filterMap L0d ++ (match s.g with | some (j,_)=>[j] | none=>[]) ++ o.op.operands.toList.filterMap (fun | .tmp t=>some t | _=>none)
def a0O (bef:List Nat) (i j:Nat):Bool:=(bef.getD j 0).testBit i
def k0c (x y:a0w) (ux uy:List Nat):Bool :=
 (match x.dst with | some d=>!uy.contains d && y.dst != some d | none=>true) &&
 (match y.dst with | some d=>!ux.contains d | none=>true)
def o0s (x y:Nat):Bool:=!((x == 3 && y == 2) || (x == 2 && y == 3))
def i0e (n:Nat):List (Nat × Nat):=(List.range n).flatMap fun j=>(List.range j).map fun i=>(i,j)
def o0p (bef:List Nat) (ws:List Nat) (k:Nat):Bool :=
 (List.range ws.length).all fun i=>i == k || ws.getD i 0 == 0 || a0O bef i k || a0O bef k i
def i0c:Op→Nat
 | .load _ _ | .slice _ _ _ _ _ | .fieldAddr _ _ _ | .lookup _ _ _ _=>1
 | .store _ _ _=>2
 | .call { callee:=.builtin b,.. }=>match b with | .append=>2 | _=>0
 | .call _=>3
 | .alloc _ | .box _ _ | .buildSlice _ _ _ | .makeSlice _ _ _ | .makeMap _ _=>4
 | _=>0
def F0v (ops:Array Oper) (bef:List Nat):Bool :=
 (List.range ops.size).all fun j =>
  match ops[j]? with
  | some o=>(o.after.toList.all fun e=>!Region.binds .any e || e.on < j) &&
    bef.getD j 0 == (o.after.toList.foldl (fun s e=>if Region.binds .any e then s ||| 2 ^ e.on ||| bef.getD e.on 0 else s) 0)
  | none=>false
def r0B (ops:Array Oper) (l:List a0w) (p:Nat × Nat):Bool :=
 match ops[p.1]?,ops[p.2]?,l[p.1]?,l[p.2]? with
 | some o1,some o2,some x,some y=>k0c x y (f0M o1 x) (f0M o2 y) && o0s (way x.op) (way y.op)
 | _,_,_,_=>false
def g0H (l:List a0w) (p:Nat × Nat):Bool :=
 match l[p.1]?,l[p.2]? with
 | some x,some y=>(way x.op == 2 && way y.op != 0) || (way y.op == 2 && way x.op != 0)
 | _,_=>false
def l0R (o:Oper):Bool:=match o.op with | .select _ _=>false | _=>true
def l0F (P:Program) (ops:Array Oper) (bef ws:List Nat):Nat→List Oper→Option (List a0w)
 | _,[]=>some []
 | k,o :: r =>
  match h0T P ops (o0p bef ws k) o,l0F P ops bef ws (k + 1) r with
  | some x,some l=>some (x :: l)
  | _,_=>none
def q0o (P:Program) (ops:Array Oper):Option SCode:=do
 let bef:=(Region.before ops).toList
 let ws:=ops.toList.map fun o=>i0c o.op
 let l ← l0F P ops bef ws 0 ops.toList
 let un:=(i0e ops.size).filter fun p=>!a0O bef p.1 p.2
 if F0v ops bef=true∧un.all (r0B ops l)=true∧ops.toList.all l0R=true then pure (.draw l bef (un.filter (g0H l))) else none
def d0L (P:Program):Code→Option SCode
 | .skip | .label _=>some .skip
 | .seq a b=>do pure (.seq (← d0L P a) (← d0L P b))
 | .cond c a b=>do
  let c ← b0E c
  if a0v c then pure (.cond c (← d0L P a) (← d0L P b)) else none
 | .block id c=>do pure (.block id (← d0L P c))
 | .loop c=>do pure (.loop (← d0L P c))
 | .exit id=>some (.exit id)
 | .ret=>some .ret
 | .region _ ops false=>do pure (.reg (← ops.toList.mapM fun o=>h0T P ops true o))
 | .region _ ops true=>q0o P ops
 | _=>none
def L0x (P:Program):ResultVar→Option SRes
 | .tmp t=>some (.tmp t)
 | .cell a t=>do pure (.cell a (← h0H P t) (← b0U P t))
def a0W (P:Program) (f:FuncId):Option q0b :=
 match P.funcs[f]? with
 | some fn =>
  match fn.body with
  | some c =>
   if x0c P f=false then none else do
   let res ← fn.results.toList.mapM (L0x P)
   let body ← d0L P c
   if fn.params.size + fn.nfree≤fn.ntmps then pure { np:=fn.params.size + fn.nfree,nt:=fn.ntmps,res,body } else none
  | none=>none
 | none=>none
abbrev Inj:=Nat→Option (Nat × Nat)
abbrev Shp:=Nat→Option (TypeId × Nat)
structure Cx where
 P:Program
 base:Nat
def N0j (X:Cx) (S:Shp) (a:Addr) (cap:Nat):Prop:=X.base≤a.block→∃ e n,S a.block=some (e,n)∧a.off + cap * X.P.cellsOf e≤n
inductive VR (X:Cx) (φ:Inj) (S:Shp):Value→Value→Prop
 | bool (b):VR X φ S (.bool b) (.bool b)
 | int (k n):VR X φ S (.int k n) (.int k n)
 | str (s):VR X φ S (.string s) (.string s)
 | pnil:VR X φ S (.pointer none) (.pointer none)
 | ptr (a a' B o) (h1:a.spot=none) (h2:φ a.block=some (B,o)) (h3:a' = ⟨B,o + a.off,none⟩):VR X φ S (.pointer (some a)) (.pointer (some a'))
 | snil:VR X φ S (.slice none 0 0) (.slice none 0 0)
 | sl (a a' len cap cap' B o) (h1:a.spot=none) (h2:φ a.block=some (B,o)) (h3:a'.spot=none) (h4:a'.block=B) (h5:0 < len→a'.off=o + a.off)
   (h6:cap ≠ unk→cap' = cap) (h7:len≤cap') (h8:N0j X S a' cap'):VR X φ S (.slice (some a) len cap) (.slice (some a') len cap')
 | sle (a a'):VR X φ S (.slice (some a) 0 0) (.slice (some a') 0 0)
 | mp (b B o) (h:φ b=some (B,o)):VR X φ S (.map (some b)) (.map (some B))
 | mnil:VR X φ S (.map none) (.map none)
 | nilFunc:VR X φ S .nilFunc .nilFunc
 | nilIface:VR X φ S .nilIface .nilIface
 | func (f a b a' b') (h1:a.size=a'.size) (h2:∀ i,i < a.size→VR X φ S (a.getD i undef) (a'.getD i undef)) (h3:b.size=b'.size)
   (h4:∀ i,i < b.size→VR X φ S (b.getD i undef) (b'.getD i undef)):VR X φ S (.func f a b) (.func f a' b')
 | iface (t v v') (h:VR X φ S v v'):VR X φ S (.iface t v) (.iface t v')
 | agg (a a') (h1:a.size=a'.size) (h2:∀ i,i < a.size→VR X φ S (a.getD i undef) (a'.getD i undef)):VR X φ S (.agg a) (.agg a')
 | tuple (a a') (h1:a.size=a'.size) (h2:∀ i,i < a.size→VR X φ S (a.getD i undef) (a'.getD i undef)):VR X φ S (.tuple a) (.tuple a')
def CR (X:Cx) (φ:Inj) (S:Shp) (l l':List Value):Prop:=l.length=l'.length∧∀ i,i < l.length→VR X φ S (l.getD i undef) (l'.getD i undef)
variable {X:Cx} {φ φ':Inj} {S S':Shp}
theorem VR.undef:VR X φ S undef undef:=.tuple _ _ rfl (fun i h=>by simp at h)
theorem VR.mono (hφ:∀ b x,φ b=some x→φ' b=some x) (hS:∀ b x,S b=some x→S' b=some x) {v v':Value} (h:VR X φ S v v'):VR X φ' S' v v':=by
 induction h with
 | bool b=>exact .bool b
 | int k n=>exact .int k n
 | str s=>exact .str s
 | pnil=>exact .pnil
 | ptr a a' B o h1 h2 h3=>exact .ptr a a' B o h1 (hφ _ _ h2) h3
 | snil=>exact .snil
 | sl a a' len cap cap' B o h1 h2 h3 h4 h5 h6 h7 h8 =>
  exact .sl a a' len cap cap' B o h1 (hφ _ _ h2) h3 h4 h5 h6 h7 (fun hb=>by obtain ⟨e,n,he,hn⟩:=h8 hb;exact ⟨e,n,hS _ _ he,hn⟩)
 | sle a a'=>exact .sle a a'
 | mp b B o h=>exact .mp b B o (hφ _ _ h)
 | mnil=>exact .mnil
 | nilFunc=>exact .nilFunc
 | nilIface=>exact .nilIface
 | func f a b a' b' h1 _ h3 _ ih1 ih2=>exact .func f a b a' b' h1 ih1 h3 ih2
 | iface t v v' _ ih=>exact .iface t v v' ih
 | agg a a' h1 _ ih=>exact .agg a a' h1 ih
 | tuple a a' h1 _ ih=>exact .tuple a a' h1 ih
theorem CR.mono (hφ:∀ b x,φ b=some x→φ' b=some x) (hS:∀ b x,S b=some x→S' b=some x) {l l':List Value} (h:CR X φ S l l'):CR X φ' S' l l' :=
 ⟨h.1,fun i hi=>(h.2 i hi).mono hφ hS⟩
theorem CR.nil:CR X φ S [] []:=⟨rfl,fun i h=>by simp at h⟩
theorem CR.cons {v v':Value} {l l':List Value} (h:VR X φ S v v') (hl:CR X φ S l l'):CR X φ S (v :: l) (v' :: l') :=
 ⟨by simp [hl.1],fun i hi=>by cases i with | zero=>simpa using h | succ i=>simpa using hl.2 i (by simpa using hi)⟩
theorem VR.cons_cr {v v':Value} {l l':List Value} (h:VR X φ S v v') (hl:CR X φ S l l'):CR X φ S (v :: l) (v' :: l'):=CR.cons h hl
theorem CR.head {v v':Value} {l l':List Value} (h:CR X φ S (v :: l) (v' :: l')):VR X φ S v v':=by simpa using h.2 0 (by simp)
theorem CR.tail {v v':Value} {l l':List Value} (h:CR X φ S (v :: l) (v' :: l')):CR X φ S l l' :=
 ⟨by simpa using h.1,fun i hi=>by simpa using h.2 (i + 1) (by simpa using hi)⟩
theorem CR.nil_left {l':List Value} (h:CR X φ S [] l'):l' = []:=R0x.1 h.1.symm
theorem CR.cons_left {v:Value} {l l':List Value} (h:CR X φ S (v :: l) l'):∃ v' r,l' = v' :: r∧VR X φ S v v'∧CR X φ S l r:=by
 cases l' with
 | nil=>simp [CR] at h
 | cons v' r=>exact ⟨v',r,rfl,h.head,h.tail⟩
theorem CR.get {l l':List Value} (h:CR X φ S l l') (i:Nat):VR X φ S (l.getD i undef) (l'.getD i undef):=by
 by_cases hi:i < l.length
 ·exact h.2 i hi
 ·simp only [Q0T]
  rw [R0d (by omega),R0d (by have:=h.1;omega)]
  exact VR.undef
theorem CR.append {a a' b b':List Value} (h:CR X φ S a a') (k:CR X φ S b b'):CR X φ S (a ++ b) (a' ++ b'):=by
 induction a generalizing a' with
 | nil=>rw [h.nil_left];simpa using k
 | cons v r ih=>obtain ⟨v',r',rfl,hv,hr⟩:=h.cons_left;simpa using CR.cons hv (ih hr)
theorem CR.take {a a':List Value} (h:CR X φ S a a') (n:Nat):CR X φ S (a.take n) (a'.take n):=by
 induction n generalizing a a' with
 | zero=>simpa using CR.nil
 | succ n ih =>
  cases a with
  | nil=>rw [h.nil_left];simpa using CR.nil
  | cons v r=>obtain ⟨v',r',rfl,hv,hr⟩:=h.cons_left;simpa using CR.cons hv (ih hr)
theorem CR.drop {a a':List Value} (h:CR X φ S a a') (n:Nat):CR X φ S (a.drop n) (a'.drop n):=by
 induction n generalizing a a' with
 | zero=>simpa using h
 | succ n ih =>
  cases a with
  | nil=>rw [h.nil_left];simpa using CR.nil
  | cons v r=>obtain ⟨v',r',rfl,hv,hr⟩:=h.cons_left;simpa using ih hr
theorem CR.set {a a':List Value} (h:CR X φ S a a') (n:Nat) {v v':Value} (hv:VR X φ S v v'):CR X φ S (a.set n v) (a'.set n v'):=by
 induction n generalizing a a' with
 | zero =>
  cases a with
  | nil=>rw [h.nil_left];simpa using CR.nil
  | cons u r=>obtain ⟨v',r',rfl,hu,hr⟩:=h.cons_left;simpa using CR.cons hv hr
 | succ n ih =>
  cases a with
  | nil=>rw [h.nil_left];simpa using CR.nil
  | cons u r=>obtain ⟨v',r',rfl,hu,hr⟩:=h.cons_left;simpa using CR.cons hu (ih hr)
theorem CR.of_mem_map {α:Type} (f g:α→Value) (l:List α) (h:∀ x ∈ l,VR X φ S (f x) (g x)):CR X φ S (l.map f) (l.map g):=by
 induction l with
 | nil=>exact CR.nil
 | cons x r ih=>exact CR.cons (h x (by simp)) (ih fun y hy=>h y (by simp [hy]))
theorem a0I (a:Array Value) (i:Nat):a.getD i undef=a.toList.getD i undef:=by
 simp only [Q0T,R0Z,R0e]
theorem VR.agg_iff {a a':Array Value}:VR X φ S (.agg a) (.agg a') ↔ CR X φ S a.toList a'.toList:=by
 constructor
 ·intro h
  cases h with
  | agg _ _ h1 h2=>exact ⟨by simpa using h1,fun i hi=>by rw [← a0I,← a0I];exact h2 i (by simpa using hi)⟩
 ·intro h
  exact .agg _ _ (by simpa using h.1) (fun i hi=>by rw [a0I,a0I];exact h.2 i (by simpa using hi))
theorem VR.tuple_iff {a a':Array Value}:VR X φ S (.tuple a) (.tuple a') ↔ CR X φ S a.toList a'.toList:=by
 constructor
 ·intro h
  cases h with
  | tuple _ _ h1 h2=>exact ⟨by simpa using h1,fun i hi=>by rw [← a0I,← a0I];exact h2 i (by simpa using hi)⟩
 ·intro h
  exact .tuple _ _ (by simpa using h.1) (fun i hi=>by rw [a0I,a0I];exact h.2 i (by simpa using hi))
theorem VR.cells {v v':Value} (h:VR X φ S v v'):CR X φ S (a0M v) v'.cells.toList:=by
 cases h with
 | agg a a' h1 h2=>simpa [a0M,Value.cells] using VR.agg_iff.1 (.agg a a' h1 h2)
 | _=>simp only [a0M,Value.cells];exact CR.cons (by first | exact .sle _ _ | (constructor <;> assumption)) CR.nil
theorem VR.plain {v v':Value} (h:VR X φ S v v') (hp:a0B v=true):v'.oneCell' = true:=by
 cases h <;> simp_all [a0B,Value.oneCell']
theorem CR.plain {l l':List Value} (h:CR X φ S l l') (hp:l.all a0B=true):∀ v ∈ l',v.oneCell' = true:=by
 induction l generalizing l' with
 | nil=>rw [h.nil_left];simp
 | cons v r ih =>
  obtain ⟨v',r',rfl,hv,hr⟩:=h.cons_left
  simp only [R0D,R0f] at hp
  intro u hu
  rcases List.mem_cons.1 hu with rfl | hu
  ·exact hv.plain hp.1
  ·exact ih hr hp.2 u hu
theorem c0a:∀ (vs cs:List Value) (off:Nat),(a0V cs off vs).length=cs.length
 | [],_,_=>rfl
 | v :: r,cs,off=>by simp [a0V,c0a r]
theorem CR.write {cs cs' vs vs':List Value} (h:CR X φ S cs cs') (hv:CR X φ S vs vs') (off:Nat):CR X φ S (a0V cs off vs) (a0V cs' off vs'):=by
 induction vs generalizing cs cs' vs' off with
 | nil=>rw [hv.nil_left];simpa [a0V] using h
 | cons v r ih =>
  obtain ⟨v',r',rfl,h1,h2⟩:=hv.cons_left
  simpa [a0V] using ih (h.set off h1) h2 (off + 1)
theorem f0j:∀ (vs cs:List Value) (off:Nat),off + vs.length≤cs.length→a0V cs off vs=cs.take off ++ vs ++ cs.drop (off + vs.length)
 | [],cs,off,_=>by simp [a0V]
 | v :: r,cs,off,h=>by
  simp only [R0Y] at h
  rw [a0V,f0j r (cs.set off v) (off + 1) (by simp;omega)]
  have h1:off < cs.length:=by omega
  have e1:(cs.set off v).take (off + 1)=cs.take off ++ [v]:=by
   rw [List.take_set]
   rw [R0l h1]
   rw [List.set_append]
   simp [R0I (T0g h1)]
  have e2:(cs.set off v).drop (off + 1 + r.length)=cs.drop (off + 1 + r.length):=by
   rw [List.drop_set]
   simp
   omega
  rw [e1,e2]
  simp [R0R,Nat.add_comm 1]
end
section
open Go
structure Rel (X:Cx) (φ:Inj) (H:a0c) (w:World):Prop where
 bs:X.base≤w.heap.size
 lt:∀ b x,φ b=some x→b < H.size
 row:∀ b B o ro e cs,φ b=some (B,o)→H.blk b=.row ro e cs→∃ c el fz,w.heap[B]? = some (.cells c el fz)∧o + cs.length≤c.size ∧
  CR X φ w.shape? cs ((c.toList.drop o).take cs.length)∧(ro=false→X.base≤B∧fz=(0,0)∧el=e)∧(ro=true→B < X.base)
 sep:∀ b b' B o o' e cs,φ b=some (B,o)→φ b' = some (B,o')→b ≠ b'→H.blk b=.row false e cs→H.blk b' = .dead
 mp:∀ b B o,φ b=some (B,o)→H.blk b=.emap→w.heap[B]? = some (.map #[] 0)
structure c0T (X:Cx) (fl:Nat) (φ:Inj) (H:a0c) (w:World) (φ':Inj) (H':a0c) (w':World):Prop where
 ext:∀ b x,φ b=some x→φ' b=some x
 rel:Rel X φ' H' w'
 shp:∀ B x,w.shape? B=some x→w'.shape? B=some x
 wsz:w.heap.size≤w'.heap.size
 os:w'.os=w.os
 tape:w'.tape=w.tape
 out:w'.output=w.output
 hsz:H.size≤H'.size
 keep:∀ b,b < fl→H'.blk b=H.blk b
 kind:∀ b e cs,b < H.size→H'.blk b=.row false e cs→∃ cs0,H.blk b=.row false e cs0
 fresh:∀ b x,φ' b=some x→φ b=none→H.size≤b
 newB:∀ b B o,φ' b=some (B,o)→φ b=none→w.heap.size≤B ∨ ∃ b0 o0 e cs,φ b0=some (B,o0)∧fl≤b0∧H.blk b0=.row false e cs
 frame:∀ B,B < w.heap.size→(∀ b o e cs,φ b=some (B,o)→fl≤b→H.blk b ≠ .row false e cs)→w'.heap[B]? = w.heap[B]?
variable {X:Cx} {φ φ':Inj} {H H':a0c} {w w':World} {fl:Nat}
theorem a0y (H:a0c) (B:Blk) (b:Nat):a0c.blk (H.push B) b=if b=H.size then B else H.blk b:=by
 simp only [a0c.blk,R0e,S0V]
 split <;> simp_all
theorem b0k (H:a0c) (k:Nat) (B:Blk) (b:Nat) (_:k < H.size):a0c.blk (H.setIfInBounds k B) b=if b=k then B else H.blk b:=by
 simp only [a0c.blk,R0e,S0a]
 split
 ·rename_i h;subst h;simp
 ·rename_i h;rw [R0c (fun e=>h e.symm)]
theorem a0k {H:a0c} {b:Nat} {ro:Bool} {e:TypeId} {cs:List Value} (h:H.blk b=.row ro e cs):b < H.size:=by
 by_cases hb:b < H.size
 ·exact hb
 ·simp only [a0c.blk,R0e] at h
  rw [S0e (by omega)] at h
  simp at h
theorem c0T.refl (h:Rel X φ H w):c0T X fl φ H w φ H w :=
 { ext := fun _ _ h => h, rel := h, shp := fun _ _ h => h, wsz := Q0W _, os := rfl, tape := rfl, out := rfl, hsz := Q0W _, keep := fun _ _ => rfl,
   kind:=fun _ _ cs _ h=>⟨cs,h⟩,fresh:=(fun b x h h'=>by rw [h] at h';cases h'),newB:=(fun b B o h h'=>by rw [h] at h';cases h'),frame:=fun _ _ _=>rfl }
theorem c0T.trans {fl1:Nat} {φ1 φ2:Inj} {H1 H2:a0c} {w1 w2:World} (h:c0T X fl φ H w φ1 H1 w1) (k:c0T X fl1 φ1 H1 w1 φ2 H2 w2) (hf:fl≤fl1) (hr:Rel X φ H w) :
  c0T X fl φ H w φ2 H2 w2 :=
 { ext := fun b x hb => k.ext _ _ (h.ext _ _ hb)
   rel:=k.rel
   shp:=fun B x hb=>k.shp _ _ (h.shp _ _ hb)
   wsz:=R0z h.wsz k.wsz
   os:=k.os.trans h.os,tape:=k.tape.trans h.tape,out:=k.out.trans h.out
   hsz:=R0z h.hsz k.hsz
   keep:=fun b hb=>(k.keep b (by omega)).trans (h.keep b hb)
   kind:=fun b e cs hb hk=>by
    obtain ⟨cs1,h1⟩:=k.kind b e cs (R0r hb h.hsz) hk
    exact h.kind b e cs1 hb h1
   fresh:=fun b x hb hn=>by
    cases h1:φ1 b with
    | none=>exact R0z h.hsz (k.fresh b x hb h1)
    | some y=>exact h.fresh b y h1 hn
   newB:=fun b B o hb hn=>by
    cases h1:φ1 b with
    | none =>
     rcases k.newB b B o hb h1 with h2 | ⟨b0,o0,e,cs,h2,h3,h4⟩
     ·exact .inl (R0z h.wsz h2)
     ·cases h5:φ b0 with
      | none =>
       rcases h.newB b0 B o0 h2 h5 with h6 | h6
       ·exact .inl h6
       ·exact .inr h6
      | some y =>
       have:=h.ext b0 y h5
       rw [h2] at this;cases this
       obtain ⟨cs0,h6⟩:=h.kind b0 e cs (hr.lt b0 _ h5) h4
       exact .inr ⟨b0,o0,e,cs0,h5,by omega,h6⟩
    | some y =>
     have:=k.ext b y h1
     rw [hb] at this;cases this
     exact h.newB b B o h1 hn
   frame:=fun B hB hno=>by
    rw [k.frame B (R0r hB h.wsz) ?_,h.frame B hB hno]
    intro b o e cs hb hfl hrow
    cases h1:φ b with
    | none =>
     rcases h.newB b B o hb h1 with h2 | ⟨b0,o0,e0,cs0,h2,h3,h4⟩
     ·omega
     ·exact hno b0 o0 e0 cs0 h2 h3 h4
    | some y =>
     have:=h.ext b y h1
     rw [hb] at this;cases this
     obtain ⟨cs0,h6⟩:=h.kind b e cs (hr.lt b _ h1) hrow
     exact hno b o e cs0 h1 (by omega) h6 }
theorem j0j (w:World) (o:Obj) (B:Nat) (x) (h:w.shape? B=some x):(w.alloc o).shape? B=some x:=by
 have hlt:B < w.heap.size:=by
  by_cases hb:B < w.heap.size
  ·exact hb
  ·simp [World.shape?,S0e (show w.heap.size≤B by omega)] at h
 simp only [World.shape?] at h ⊢
 rw [show (w.alloc o).heap[B]? = w.heap[B]? from by show (w.heap.push o)[B]? = _;rw [S0V,R0c (by omega)]]
 exact h
theorem c0T.alloc (hR:Rel X φ H w) (e:TypeId) (cs:List Value) (c:Array Value) (hle:cs.length≤c.size) (hc:CR X φ w.shape? cs (c.toList.take cs.length)) (hfl:fl≤H.size) :
  c0T X fl φ H w (fun b=>if b=H.size then some (w.heap.size,0) else φ b) (H.push (.row false e cs)) (w.alloc (.cells c e)):=by
 have hold:∀ B,B < w.heap.size→(w.alloc (.cells c e)).heap[B]? = w.heap[B]?:=fun B hB=>by show (w.heap.push _)[B]? = _;rw [S0V,R0c (by omega)]
 have hnew:(w.alloc (.cells c e)).heap[w.heap.size]? = some (.cells c e (0,0)):=by show (w.heap.push _)[_]? = _;simp
 have hsz:(w.alloc (.cells c e)).heap.size=w.heap.size + 1:=by show (w.heap.push _).size=_;simp
 have hext:∀ b x,φ b=some x→(fun b=>if b=H.size then some (w.heap.size,0) else φ b) b=some x:=fun b x hb=>by
  have:=hR.lt b x hb
  show (if _ then _ else _)=_
  rw [R0c (by omega)];exact hb
 have hshp:=fun B x=>j0j w (.cells c e) B x
 have hBlt:∀ b B o ro e cs,φ b=some (B,o)→H.blk b=.row ro e cs→B < w.heap.size:=fun b B o ro e cs hb hr=>by
  obtain ⟨c,el,fz,h1,_⟩:=hR.row b B o ro e cs hb hr
  exact (R0n.1 h1).1
 refine { ext:=hext,rel:=?_,shp:=hshp,wsz:=by omega,os:=rfl,tape:=rfl,out:=rfl,hsz:=by simp,keep:=?_,kind:=?_,fresh:=?_,newB:=?_,frame:=fun B hB _=>hold B hB }
 ·refine { bs:=by have:=hR.bs;omega,lt:=?_,row:=?_,sep:=?_,mp:=?_ }
  ·intro b x hb
   simp only [S0Z]
   by_cases h:b=H.size
   ·omega
   ·simp only [R0c h] at hb;have:=hR.lt b x hb;omega
  ·intro b B o ro e' cs' hb hrow
   rw [a0y] at hrow
   by_cases h:b=H.size
   ·simp only [R0k h] at hb hrow
    cases hb;cases hrow
    exact ⟨c,e,(0,0),hnew,by omega,by simpa using hc.mono hext hshp,fun _=>⟨hR.bs,rfl,rfl⟩,fun h=>by cases h⟩
   ·simp only [R0c h] at hb hrow
    obtain ⟨c1,el,fz,h1,h2,h3,h4⟩:=hR.row b B o ro e' cs' hb hrow
    exact ⟨c1,el,fz,by rw [hold B (R0n.1 h1).1];exact h1,h2,h3.mono hext hshp,h4⟩
  ·intro b b' B o o' e' cs' hb hb' hne hrow
   rw [a0y] at hrow ⊢
   by_cases h:b=H.size
   ·have h':b' ≠ H.size:=fun e=>hne (h.trans e.symm)
    simp only [R0k h] at hb hrow
    simp only [R0c h'] at hb' ⊢
    cases hb
    cases hk:H.blk b' with
    | dead=>rfl
    | row ro e2 cs2=>have:=hBlt b' _ _ _ _ _ hb' hk;omega
    | emap=>have:=(R0n.1 (hR.mp b' _ _ hb' hk)).1;omega
   ·simp only [R0c h] at hb hrow
    by_cases h':b' = H.size
    ·simp only [R0k h'] at hb'
     cases hb'
     have:=hBlt b _ _ _ _ _ hb hrow;omega
    ·simp only [R0c h'] at hb' ⊢
     exact hR.sep b b' B o o' e' cs' hb hb' hne hrow
  ·intro b B o hb hm
   rw [a0y] at hm
   by_cases h:b=H.size
   ·simp only [R0k h] at hm;cases hm
   ·simp only [R0c h] at hb hm
    have h1:=hR.mp b B o hb hm
    rw [hold B (R0n.1 h1).1];exact h1
 ·intro b hb;rw [a0y,R0c (by omega)]
 ·intro b e' cs' hb hrow;rw [a0y,R0c (by omega)] at hrow;exact ⟨cs',hrow⟩
 ·intro b x hb hn
  by_cases h:b=H.size
  ·omega
  ·simp only [R0c h] at hb;rw [hb] at hn;cases hn
 ·intro b B o hb hn
  by_cases h:b=H.size
  ·simp only [R0k h] at hb;cases hb;exact .inl (Q0W _)
  ·simp only [R0c h] at hb;rw [hb] at hn;cases hn
theorem c0T.emap (hR:Rel X φ H w) (hfl:fl≤H.size) :
  c0T X fl φ H w (fun b=>if b=H.size then some (w.heap.size,0) else φ b) (H.push .emap) (w.alloc (.map #[] 0)):=by
 have hold:∀ B,B < w.heap.size→(w.alloc (.map #[] 0)).heap[B]? = w.heap[B]?:=fun B hB=>by show (w.heap.push _)[B]? = _;rw [S0V,R0c (by omega)]
 have hnew:(w.alloc (.map #[] 0)).heap[w.heap.size]? = some (.map #[] 0):=by show (w.heap.push _)[_]? = _;simp
 have hsz:(w.alloc (.map #[] 0)).heap.size=w.heap.size + 1:=by show (w.heap.push _).size=_;simp
 have hext:∀ b x,φ b=some x→(fun b=>if b=H.size then some (w.heap.size,0) else φ b) b=some x:=fun b x hb=>by
  have:=hR.lt b x hb
  show (if _ then _ else _)=_
  rw [R0c (by omega)];exact hb
 have hshp:=fun B x=>j0j w (.map #[] 0) B x
 have hBlt:∀ b B o ro e cs,φ b=some (B,o)→H.blk b=.row ro e cs→B < w.heap.size:=fun b B o ro e cs hb hr=>by
  obtain ⟨c,el,fz,h1,_⟩:=hR.row b B o ro e cs hb hr
  exact (R0n.1 h1).1
 refine { ext:=hext,rel:=?_,shp:=hshp,wsz:=by omega,os:=rfl,tape:=rfl,out:=rfl,hsz:=by simp,keep:=?_,kind:=?_,fresh:=?_,newB:=?_,frame:=fun B hB _=>hold B hB }
 ·refine { bs:=by have:=hR.bs;omega,lt:=?_,row:=?_,sep:=?_,mp:=?_ }
  ·intro b x hb
   simp only [S0Z]
   by_cases h:b=H.size
   ·omega
   ·simp only [R0c h] at hb;have:=hR.lt b x hb;omega
  ·intro b B o ro e' cs' hb hrow
   rw [a0y] at hrow
   by_cases h:b=H.size
   ·simp only [R0k h] at hrow;cases hrow
   ·simp only [R0c h] at hb hrow
    obtain ⟨c1,el,fz,h1,h2,h3,h4⟩:=hR.row b B o ro e' cs' hb hrow
    exact ⟨c1,el,fz,by rw [hold B (R0n.1 h1).1];exact h1,h2,h3.mono hext hshp,h4⟩
  ·intro b b' B o o' e' cs' hb hb' hne hrow
   rw [a0y] at hrow ⊢
   by_cases h:b=H.size
   ·simp only [R0k h] at hrow;cases hrow
   ·simp only [R0c h] at hb hrow
    by_cases h':b' = H.size
    ·simp only [R0k h'] at hb'
     cases hb'
     have:=hBlt b _ _ _ _ _ hb hrow;omega
    ·simp only [R0c h'] at hb' ⊢
     exact hR.sep b b' B o o' e' cs' hb hb' hne hrow
  ·intro b B o hb hm
   rw [a0y] at hm
   by_cases h:b=H.size
   ·simp only [R0k h] at hb;cases hb;exact hnew
   ·simp only [R0c h] at hb hm
    have h1:=hR.mp b B o hb hm
    rw [hold B (R0n.1 h1).1];exact h1
 ·intro b hb;rw [a0y,R0c (by omega)]
 ·intro b e' cs' hb hrow;rw [a0y,R0c (by omega)] at hrow;exact ⟨cs',hrow⟩
 ·intro b x hb hn
  by_cases h:b=H.size
  ·omega
  ·simp only [R0c h] at hb;rw [hb] at hn;cases hn
 ·intro b B o hb hn
  by_cases h:b=H.size
  ·simp only [R0k h] at hb;cases hb;exact .inl (Q0W _)
  ·simp only [R0c h] at hb;rw [hb] at hn;cases hn
theorem f0h (w:World) (g:Nat) (old cs:Array Value) (t:TypeId) (fr:Nat × Nat) (hg:w.heap[g]? = some (.cells old t fr)) (hsz:cs.size=old.size) (B:Nat) :
  (w.setRow g cs).shape? B=w.shape? B:=by
 by_cases h:B=g
 ·subst h
  simp only [World.shape?,setRow_heap w B old cs t fr hg,hg,hsz]
 ·simp only [World.shape?]
  rw [setRow_other w g B cs (fun e=>h (by omega))]
theorem g0n:∀ (vs cs:List Value) (o off:Nat),(a0V cs (o + off) vs).drop o=a0V (cs.drop o) off vs
 | [],cs,o,off=>by simp [a0V]
 | v :: r,cs,o,off=>by
  rw [a0V,a0V,R0R,g0n r (cs.set (o + off) v) o (off + 1)]
  congr 1
  rw [List.drop_set,R0c (by omega)]
  congr 1
  omega
theorem j0o:∀ (vs cs:List Value) (n off:Nat),off + vs.length≤n→(a0V cs off vs).take n=a0V (cs.take n) off vs
 | [],cs,n,off,_=>by simp [a0V]
 | v :: r,cs,n,off,h=>by
  simp only [R0Y] at h
  rw [a0V,a0V,j0o r (cs.set off v) n (off + 1) (by omega)]
  congr 1
  rw [List.take_set]
theorem Rel.cells (hR:Rel X φ H w) {b B o off n:Nat} {cs:List Value} (hb:φ b=some (B,o)) (hc:H.cells? b off n=some cs) :
  cs.length=n∧∃ cs',cs'.length=n∧CR X φ w.shape? cs cs'∧∀ j v,cs'[j]? = some v→w.cell? ⟨B,o + off + j,none⟩ = some v:=by
 unfold a0c.cells? at hc
 cases hk:H.blk b with
 | dead=>simp [hk] at hc
 | emap=>simp [hk] at hc
 | row ro e l =>
  simp only [hk] at hc
  split at hc
  ·rename_i hle
   cases hc
   obtain ⟨c,el,fz,h1,h2,h3,_⟩:=hR.row b B o ro e l hb hk
   refine ⟨by simp;omega,((c.toList.drop o).take l.length |>.drop off).take n,by simp;omega,(h3.drop off).take n,?_⟩
   intro j v hj
   simp only [World.cell?,h1]
   simp only [S0y,S0m] at hj
   split at hj
   ·split at hj
    ·rw [R0Z] at hj;rw [← hj,R0c (by simp),R0R]
    ·cases hj
   ·cases hj
  ·cases hc
theorem Rel.blkT (hR:Rel X φ H w) {b B o:Nat} {e:TypeId} {cs:List Value} (hb:φ b=some (B,o)) (hk:H.blk b=.row false e cs) :
  ∃ c,w.heap[B]? = some (.cells c e (0,0))∧X.base≤B∧o + cs.length≤c.size∧CR X φ w.shape? cs ((c.toList.drop o).take cs.length):=by
 obtain ⟨c,el,fz,h1,h2,h3,h4⟩:=hR.row b B o false e cs hb hk
 obtain ⟨h5,rfl,rfl⟩:=h4.1 rfl
 exact ⟨c,h1,h5,h2,h3⟩
theorem c0T.store (hR:Rel X φ H w) {b B o off:Nat} {vs vs':List Value} (hb:φ b=some (B,o)) (hw:H.write? fl b off vs=some H') (hv:CR X φ w.shape? vs vs') :
  ∃ w',(storeCells ⟨B,o + off,none⟩ vs').run X.P w=.ok () w'∧c0T X fl φ H w φ H' w':=by
 unfold a0c.write? at hw
 cases hk:H.blk b with
 | dead=>simp [hk] at hw
 | emap=>simp [hk] at hw
 | row ro e l =>
  cases ro with
  | true=>simp [hk] at hw
  | false =>
   simp only [hk] at hw
   split at hw
   ·rename_i hcond
    obtain ⟨hfl,hle,hpl⟩:=hcond
    cases hw
    have hbl:=a0k hk
    obtain ⟨c,h1,h5,h2,h3⟩:=hR.blkT hb hk
    have hlen:=hv.1
    have hst:=run_storeCells_at X.P B (o + off) e vs' 0 c w h1 (by omega) (hv.plain hpl)
    simp only [R0N] at hst
    rw [← f0j vs' c.toList (o + off) (by simp;omega)] at hst
    have hsz:(a0V c.toList (o + off) vs').toArray.size=c.size:=by simp [c0a]
    have hsh:=f0h w B c (a0V c.toList (o + off) vs').toArray e (0,0) h1 hsz
    have hshp:(w.setRow B (a0V c.toList (o + off) vs').toArray).shape? = w.shape?:=funext hsh
    refine ⟨_,hst,?_⟩
    refine
     { ext := fun _ _ h => h
       rel:=?_
       shp:=fun B x h=>by rw [hsh];exact h
       wsz:=by simp [World.setRow]
       os:=rfl
       tape:=rfl
       out:=rfl
       hsz:=by simp
       keep:=?_
       kind:=?_
       fresh:=fun b x h h'=>by rw [h] at h';cases h'
       newB:=fun b B o h h'=>by rw [h] at h';cases h'
       frame:=?_ }
    ·refine { bs:=by have:=hR.bs;simpa [World.setRow] using this,lt:=fun b x h=>by simpa using hR.lt b x h,row:=?_,sep:=?_,mp:=?_ }
     ·intro b1 B1 o1 ro e1 cs1 hb1 hrow
      rw [hshp]
      rw [b0k _ _ _ _ hbl] at hrow
      by_cases h:b1=b
      ·subst h
       rw [R0k rfl] at hrow
       cases hrow
       rw [hb] at hb1;cases hb1
       refine ⟨_,e,(0,0),setRow_heap w B c _ e (0,0) h1,by simp only [c0a,List.size_toArray,S0W];omega,?_,fun _=>⟨h5,rfl,rfl⟩,fun h=>by cases h⟩
       simp only [c0a,g0n]
       rw [j0o _ _ _ _ (by omega)]
       exact h3.write hv off
      ·rw [R0c h] at hrow
       by_cases hB:B1=B
       ·subst hB
        have:=hR.sep b b1 B1 o o1 e l hb hb1 (fun e=>h e.symm) hk
        rw [this] at hrow;cases hrow
       ·obtain ⟨c1,el,fz,h6,h7⟩:=hR.row b1 B1 o1 ro e1 cs1 hb1 hrow
        exact ⟨c1,el,fz,by rw [setRow_other w B B1 _ hB];exact h6,h7⟩
     ·intro b1 b2 B1 o1 o2 e1 cs1 hb1 hb2 hne hrow
      rw [b0k _ _ _ _ hbl] at hrow ⊢
      have hold:∃ cs0,H.blk b1=.row false e1 cs0:=by
       by_cases h:b1=b
       ·subst h;rw [R0k rfl] at hrow;cases hrow;exact ⟨l,hk⟩
       ·rw [R0c h] at hrow;exact ⟨cs1,hrow⟩
      obtain ⟨cs0,h0⟩:=hold
      have:=hR.sep b1 b2 B1 o1 o2 e1 cs0 hb1 hb2 hne h0
      by_cases h:b2=b
      ·subst h;rw [this] at hk;cases hk
      ·rw [R0c h];exact this
     ·intro b1 B1 o1 hb1 hm
      rw [b0k _ _ _ _ hbl] at hm
      by_cases h:b1=b
      ·rw [R0k h] at hm;cases hm
      ·rw [R0c h] at hm
       have h6:=hR.mp b1 B1 o1 hb1 hm
       have hB:B1 ≠ B:=by rintro rfl;rw [h1] at h6;cases h6
       rw [setRow_other w B B1 _ hB];exact h6
    ·intro b1 hb1
     rw [b0k _ _ _ _ hbl,R0c (by omega)]
    ·intro b1 e1 cs1 _ hrow
     rw [b0k _ _ _ _ hbl] at hrow
     by_cases h:b1=b
     ·subst h;rw [R0k rfl] at hrow;cases hrow;exact ⟨l,hk⟩
     ·rw [R0c h] at hrow;exact ⟨cs1,hrow⟩
    ·intro B1 _ hno
     refine setRow_other w B B1 _ ?_
     intro hB
     subst hB
     exact hno b o e l hb hfl hk
   ·cases hw
end
section
open Go
variable {X:Cx} {φ φ':Inj} {S:Shp} {H H':a0c} {w w':World} {fl:Nat} {t:a0Q} {a:Act} {o:Oper}
theorem k0r {v:Value} (h:q0O v=true):VR X φ S v v:=by
 unfold q0O at h
 split at h
 ·exact .bool _
 ·exact .int _ _
 ·exact .str _
 ·exact .pnil
 ·exact .snil
 ·exact .nilFunc
 ·exact .nilIface
 ·exact .mnil
 ·simp at h
  obtain ⟨rfl,rfl⟩:=h
  exact .func _ _ _ _ _ rfl (fun i hi=>by simp at hi) rfl (fun i hi=>by simp at hi)
 ·cases h
theorem d0N {l:List Value} (h:l.all q0O=true):CR X φ S l l:=by
 induction l with
 | nil=>exact CR.nil
 | cons v r ih=>simp only [R0D,R0f] at h;exact CR.cons (k0r h.1) (ih h.2)
theorem i0E {v:Value} (h:a0v (.const v)=true):VR X φ S v v:=by
 unfold a0v at h
 simp only [Bool.or_eq_true] at h
 rcases h with h | h
 ·exact k0r h
 ·cases v <;> simp at h
  rename_i cs
  exact VR.agg_iff.2 (d0N (by simpa using h))
theorem a0Z (hT:CR X φ S t a.tmps.toList) {x:Operand} {x':Opd} (hc:b0E x=some x') (hf:a0v x' = true):VR X φ S (ev t x') (a.eval x):=by
 cases x with
 | tmp i=>simp only [b0E,Q0V] at hc;subst hc;simpa [ev,get,Act.eval,a0I] using hT.get i
 | const v=>simp only [b0E,Q0V] at hc;subst hc;exact i0E hf
 | func f=>simp only [b0E,Q0V] at hc;subst hc;exact .func _ _ _ _ _ rfl (fun i hi=>by simp at hi) rfl (fun i hi=>by simp at hi)
 | global g=>simp [b0E] at hc
theorem r0C (hT:CR X φ S t a.tmps.toList) {v v':Value} (hv:VR X φ S v v') (dst:Option Nat):CR X φ S (put t dst v) (a.put dst v').tmps.toList:=by
 cases dst with
 | none=>exact hT
 | some d=>simpa [put,Act.put] using hT.set d hv
theorem h0l (a:Act) (dst:Option Nat) (v:Value):(a.put dst v).defers=a.defers:=by cases dst <;> rfl
def a0F (X:Cx) (fl:Nat) (φ:Inj) (H:a0c) (w:World) (o:Oper) (a:Act) (v:Value) (H':a0c):Prop :=
 ∃ φ' w' v',((execOp a.eval o).run X.P w=.ok (.value v') w' ∨ (v' = undef∧(execOp a.eval o).run X.P w=.ok .skip w'))∧VR X φ' w'.shape? v v'∧c0T X fl φ H w φ' H' w'
theorem a0F.same (hR:Rel X φ H w) {v v':Value} (hr:(execOp a.eval o).run X.P w=.ok (.value v') w) (hv:VR X φ w.shape? v v'):a0F X fl φ H w o a v H :=
 ⟨φ,w,v',.inl hr,hv,c0T.refl hR⟩
theorem a0F.sameV (hR:Rel X φ H w) {v:Value} (hv:VR X φ w.shape? v v) (hr:(execOp a.eval o).run X.P w=.ok (.value v) w):a0F X fl φ H w o a v H :=
 ⟨φ,w,v,.inl hr,hv,c0T.refl hR⟩
theorem c0o {P:Program} {ty:TypeId} {n:Nat} (h:b0U P ty=some n) (w:World):(sizeOf ty).run P w=.ok n w:=by
 unfold b0U at h
 cases hi:P.info? ty with
 | none=>simp [hi] at h
 | some i=>simp [hi] at h;simp [sizeOf,typeInfo,hi,h]
theorem c0Z {P:Program} {ty:TypeId} {n:Nat} (h:b0U P ty=some n):P.cellsOf ty=n:=by
 unfold b0U at h;simp [Program.cellsOf,h]
theorem e0N {P:Program} {ty:TypeId} {b:Bool} (h:h0H P ty=some b) (w:World):(isAgg ty).run P w=.ok b w:=by
 unfold h0H at h
 cases hu:P.underlying ty with
 | none=>simp [hu] at h
 | some d=>simp only [hu] at h;unfold isAgg;rw [Sem.run_bind,run_underlying hu w];cases d <;> simp_all
theorem d0x {P:Program} {ty e:TypeId} (h:e0P P ty=some e):P.underlying ty=some (.slice e):=by
 unfold e0P at h;split at h <;> simp_all
theorem f0n {P:Program} {ty:TypeId} {fs:List Field} (h:e0e P ty=some fs):∃ l,P.underlying ty=some (.struct l)∧l.toList=fs:=by
 unfold e0e at h;split at h <;> simp_all
theorem f0t {P:Program} {ty:TypeId} {z:List Value} (h:h0B P ty=some z) :
  z.all q0O=true∧∃ v i,P.info? ty=some i∧i.zero=some v∧a0M v=z∧v.cells.toList=z∧∀ w,(zeroValue ty).run P w=.ok v w:=by
 unfold h0B at h
 cases hi:P.info? ty with
 | none=>simp [hi] at h
 | some i =>
  cases hz:i.zero with
  | none=>simp [hi,hz] at h
  | some v =>
   simp only [hi,hz,Option.bind_some] at h
   split at h
   ·rename_i hf;cases h
    refine ⟨hf,v,i,rfl,hz,rfl,?_,fun w=>by simp [zeroValue,typeInfo,hi,hz]⟩
    cases v <;> rfl
   ·cases h
section
variable (hR:Rel X φ H w) (hT:CR X φ w.shape? t a.tmps.toList)
include hR hT
theorem E0T {x:Operand} {x':Opd} (ho:o.op=.move x ∨ o.op=.assign x) (hc:b0E x=some x') (hf:a0v x' = true):a0F X fl φ H w o a (ev t x') H :=
 a0F.same hR (v':=a.eval x) (by rcases ho with ho | ho <;> simp [execOp,ho]) (a0Z hT hc hf)
theorem x0I {c x y:Operand} {c' x' y':Opd} (ho:o.op=.pick c x y) (hc:b0E c=some c') (hx:b0E x=some x') (hy:b0E y=some y')
  (fc:a0v c' = true) (fx:a0v x' = true) (fy:a0v y' = true) {v:Value} (h:opA fl t H (.pick c' x' y')=.val v H'):a0F X fl φ H w o a v H':=by
 have hcv:=a0Z hT hc fc
 simp only [opA] at h
 split at h
 ·rename_i hb;cases h
  rw [hb] at hcv;generalize hg:a.eval c=g at hcv;cases hcv
  exact a0F.same hR (v':=a.eval x) (by simp [execOp,ho,hg,asBool]) (a0Z hT hx fx)
 ·rename_i hb;cases h
  rw [hb] at hcv;generalize hg:a.eval c=g at hcv;cases hcv
  exact a0F.same hR (v':=a.eval y) (by simp [execOp,ho,hg,asBool]) (a0Z hT hy fy)
 ·cases h
theorem G0x {x:Operand} {x':Opd} (ho:o.op=.nilCheck x) (hc:b0E x=some x') (hf:a0v x' = true) {v:Value} (h:opA fl t H (.chk x')=.val v H'):a0F X fl φ H w o a v H':=by
 have hv:=a0Z hT hc hf
 simp only [opA] at h
 split at h
 ·rename_i p hb;cases h
  rw [hb] at hv;generalize hg:a.eval x=g at hv;cases hv with
  | ptr _ a' B o' h1 h2 h3=>exact a0F.same hR (v':=.pointer (some a')) (by simp [execOp,ho,hg]) (.ptr _ _ _ _ h1 h2 h3)
 ·rename_i f p q hb;cases h
  rw [hb] at hv;generalize hg:a.eval x=g at hv;cases hv with
  | func _ _ _ a' b' h1 h2 h3 h4=>exact a0F.same hR (v':=.func (.func f) a' b') (by simp [execOp,ho,hg]) (.func _ _ _ _ _ h1 h2 h3 h4)
 ·rename_i f p hb;cases h
  rw [hb] at hv;generalize hg:a.eval x=g at hv;cases hv with
  | iface _ _ v' h1=>exact a0F.same hR (v':=.iface f v') (by simp [execOp,ho,hg]) (.iface _ _ _ h1)
 ·cases h
theorem x0E {s d:TypeId} {x:Operand} {x':Opd} {k k0:IntKind} (ho:o.op=.convert s d x) (hs:H0g X.P s=some k0) (hd:H0g X.P d=some k) (hc:b0E x=some x') (hf:a0v x' = true)
  {v:Value} (h:opA fl t H (.conv k x')=.val v H'):a0F X fl φ H w o a v H':=by
 have hv:=a0Z hT hc hf
 have us:X.P.underlying s=some (.int k0):=by unfold H0g at hs;split at hs <;> simp_all
 have ud:X.P.underlying d=some (.int k):=by unfold H0g at hd;split at hd <;> simp_all
 simp only [opA] at h
 split at h
 ·rename_i k' n hb;cases h
  rw [hb] at hv;generalize hg:a.eval x=g at hv;cases hv
  exact a0F.same hR (v':=.int k (k.wrap n)) (by simp [execOp,ho,hg,convert,run_underlying us,run_underlying ud,Conv.intToInt]) (.int _ _)
 ·cases h
theorem v0K {ty:TypeId} {d:TypeDesc} {x:Operand} {x':Opd} (ho:o.op=.makeInterface ty x) (hu:X.P.underlying ty=some d) (hd:∀ m,d ≠ .interface m) (hc:b0E x=some x') (hf:a0v x' = true) :
  a0F X fl φ H w o a (.iface ty (ev t x')) H:=by
 refine a0F.same hR (v':=.iface ty (a.eval x)) ?_ (.iface _ _ _ (a0Z hT hc hf))
 simp only [execOp,ho,Instr.makeInterface,Sem.run_bind,run_underlying hu,Result.andThen_ok]
 cases d <;> simp_all
omit hR in
theorem g0c:∀ {xs:List Operand} {xs':List Opd},f0w xs=some xs'→xs'.all a0v=true→CR X φ w.shape? (xs'.map (ev t)) (xs.map a.eval)
 | [],xs',h,_=>by simp [f0w] at h;subst h;exact CR.nil
 | x :: xs,xs',h,hf=>by
  simp only [f0w,S0N] at h
  cases hx:b0E x with
  | none=>simp [hx] at h
  | some x' =>
   cases hr:f0w xs with
   | none=>simp only [f0w] at hr;simp [hx,hr] at h
   | some r =>
    have hr0:=hr
    simp only [f0w] at hr;simp [hx,hr] at h;subst h
    simp only [R0D,R0f] at hf
    exact CR.cons (a0Z hT hx hf.1) (g0c hr0 hf.2)
theorem x0H {f:Fn} {xs ys:Array Operand} {xs' ys':List Opd} (ho:o.op=.makeFunc f xs ys) (hx:f0w xs.toList=some xs') (hy:f0w ys.toList=some ys')
  (fx:xs'.all a0v=true) (fy:ys'.all a0v=true):a0F X fl φ H w o a (.func f (xs'.map (ev t)).toArray (ys'.map (ev t)).toArray) H:=by
 have e1:=g0c hT hx fx
 have e2:=g0c hT hy fy
 refine a0F.same hR (v':=.func f (xs.map a.eval) (ys.map a.eval)) (by simp [execOp,ho,Instr.makeFunc]) ?_
 exact .func _ _ _ _ _ (by simpa using e1.1) (fun i hi=>by simpa [a0I] using e1.2 i (by simpa using hi)) (by simpa using e2.1) (fun i hi=>by simpa [a0I] using e2.2 i (by simpa using hi))
theorem G0y {x:Operand} {x':Opd} {i:Nat} (ho:o.op=.extract x i) (hc:b0E x=some x') (hf:a0v x' = true) {v:Value} (h:opA fl t H (.ext x' i)=.val v H'):a0F X fl φ H w o a v H':=by
 have hv:=a0Z hT hc hf
 simp only [opA] at h
 split at h
 ·rename_i vs hb
  rw [hb] at hv;generalize hg:a.eval x=g at hv;cases hv with
  | tuple _ a' h1 h2 =>
   cases hi:vs[i]? with
   | none=>simp [hi,b0b] at h
   | some u =>
    simp [hi,b0b] at h;obtain ⟨rfl,rfl⟩:=h
    have hlt:i < vs.size:=(R0n.1 hi).1
    have h3:=h2 i hlt
    simp only [R0e,hi,R0G] at h3
    have hi':a'[i]? = some a'[i]:=R0w (by omega)
    rw [hi',R0G] at h3
    exact a0F.same hR (v':=a'[i]) (by simp [execOp,ho,hg,Instr.extract,hi']) h3
 ·cases h
theorem G0B {ty e:TypeId} {x:Operand} {x':Opd} {as:Array Operand} {at_:Array TypeId} (ho:o.op=.call { callee:=.builtin .len,args:=as,argTypes:=at_ }) (has:as.toList=[x])
  (hat:at_.toList=[ty]) (hu:e0P X.P ty=some e) (hc:b0E x=some x') (hf:a0v x' = true) {v:Value} (h:opA fl t H (.len x')=.val v H'):a0F X fl φ H w o a v H':=by
 have hv:=a0Z hT hc hf
 have has':as = #[x]:=by rw [← R0F (xs:=as),has]
 have hat':at_ = #[ty]:=by rw [← R0F (xs:=at_),hat]
 subst has' hat'
 simp only [opA] at h
 split at h
 ·rename_i p n c hb;cases h
  rw [hb] at hv;generalize hg:a.eval x=g at hv
  have key:∀ p' c',g=.slice p' n c'→a0F X fl φ H w o a (.int .i64 n) H:=fun p' c' e=>by
   subst e
   exact a0F.same hR (v':=.int .i64 n) (by simp [execOp,ho,hg,resolve,invoke,builtin,Builtin.len_,run_underlying (d0x hu),goInt]) (.int _ _)
  cases hv with
  | snil=>exact key _ _ rfl
  | sle _ _=>exact key _ _ rfl
  | sl _ a' _ _ c' B o' h1 h2 h3 h4 h5 h6 h7 h8=>exact key _ _ rfl
 ·cases h
theorem G0w {ty e:TypeId} {x:Operand} {x':Opd} {as:Array Operand} {at_:Array TypeId} (ho:o.op=.call { callee:=.builtin .cap,args:=as,argTypes:=at_ }) (has:as.toList=[x])
  (hat:at_.toList=[ty]) (hu:e0P X.P ty=some e) (hc:b0E x=some x') (hf:a0v x' = true) {v:Value} (h:opA fl t H (.cap x')=.val v H'):a0F X fl φ H w o a v H':=by
 have hv:=a0Z hT hc hf
 have has':as = #[x]:=by rw [← R0F (xs:=as),has]
 have hat':at_ = #[ty]:=by rw [← R0F (xs:=at_),hat]
 subst has' hat'
 simp only [opA,b0b,H0M] at h
 by_cases hb:ev t x' = .slice none 0 0
 ·rw [hb] at hv h;cases h;generalize hg:a.eval x=g at hv
  cases hv
  exact a0F.same hR (v':=.int .i64 0) (by simp [execOp,ho,hg,resolve,invoke,builtin,Builtin.cap_,run_underlying (d0x hu),goInt]) (.int _ _)
 ·split at h
  ·rename_i he;split at he
   ·rename_i hc;exact R0q hc hb
   ·cases he
  ·cases h
end
theorem j0P {P:Program} {ty:TypeId} (hu:P.underlying ty=some .bool) (p q:Bool) (w:World):(Op.equal ty (.bool p) (.bool q)).run P w=.ok (p == q) w:=by
 unfold Op.equal Op.maxDepth;rw [Op.equalIn];simp only [Sem.run_bind,run_underlying hu,Result.andThen_ok];rfl
theorem e0y {P:Program} {ty e:TypeId} (hu:P.underlying ty=some (.slice e)) (l c l2 c2:Nat) (w:World):(Op.equal ty (.slice none l c) (.slice none l2 c2)).run P w=.ok true w:=by
 unfold Op.equal Op.maxDepth;rw [Op.equalIn];simp only [Sem.run_bind,run_underlying hu,Result.andThen_ok];rfl
theorem c0n {P:Program} {ty e:TypeId} (hu:P.underlying ty=some (.slice e)) (p:Addr) (l c l2 c2:Nat) (w:World):(Op.equal ty (.slice (some p) l c) (.slice none l2 c2)).run P w=.ok false w:=by
 unfold Op.equal Op.maxDepth;rw [Op.equalIn];simp only [Sem.run_bind,run_underlying hu,Result.andThen_ok];rfl
theorem e0Q {P:Program} {ty:TypeId} {x y:Array TypeId} {z:Bool} (hu:P.underlying ty=some (.func x y z)) (w:World):(Op.equal ty .nilFunc .nilFunc).run P w=.ok true w:=by
 unfold Op.equal Op.maxDepth;rw [Op.equalIn];simp only [Sem.run_bind,run_underlying hu,Result.andThen_ok];rfl
theorem e0R {P:Program} {ty:TypeId} {x y:Array TypeId} {z:Bool} (hu:P.underlying ty=some (.func x y z)) (f:Fn) (p q:Array Value) (w:World):(Op.equal ty (.func f p q) .nilFunc).run P w=.ok false w:=by
 unfold Op.equal Op.maxDepth;rw [Op.equalIn];simp only [Sem.run_bind,run_underlying hu,Result.andThen_ok];rfl
theorem p0g {d:TypeDesc} (h:x0K d=1):d=.bool:=by cases d <;> simp [x0K] at h ⊢
theorem m0p {d:TypeDesc} (h:x0K d=2):∃ e,d=.slice e:=by cases d <;> simp [x0K] at h ⊢
theorem i0i {d:TypeDesc} (h:x0K d=3):∃ p q r,d=.func p q r:=by cases d <;> simp [x0K] at h ⊢
section
variable (hR:Rel X φ H w) (hT:CR X φ w.shape? t a.tmps.toList)
include hR hT
theorem G0u {b:BinOp} {ty ty2:TypeId} {d:TypeDesc} {x y:Operand} {x' y':Opd} (ho:o.op=.binOp b ty x y ty2) (hu:X.P.underlying ty=some d) (hx:b0E x=some x') (hy:b0E y=some y')
  (fx:a0v x' = true) (fy:a0v y' = true) {v:Value} (h:opA fl t H (.bin (x0K d) b x' y')=.val v H'):a0F X fl φ H w o a v H':=by
 have h1:=a0Z hT hx fx
 have h2:=a0Z hT hy fy
 simp only [opA] at h
 cases hb:b0X (x0K d) b (ev t x') (ev t y') with
 | none=>simp [hb,b0b] at h
 | some u =>
  simp only [hb,b0b,OpRes.val.injEq] at h
  obtain ⟨rfl,rfl⟩:=h
  generalize hg1:a.eval x=g1 at h1
  generalize hg2:a.eval y=g2 at h2
  have hrun:∀ {v'},(binOp b ty g1 g2).run X.P w=.ok v' w→(eqGuard b ty x y g1 g2).run X.P w=.ok () w→(execOp a.eval o).run X.P w=.ok (.value v') w:=by
   intro v' e1 e2
   simp [execOp,ho,hg1,hg2,e1,e2]
  unfold b0X at hb
  split at hb
  ·split at hb
   ·rename_i k p k2 q e1 e2 hq;cases hb
    rw [e1] at h1;rw [e2] at h2;cases h1;cases h2
    exact a0F.same hR (hrun (by simp [binOp,Op.shift,show ¬ q < 0 by omega]) (by simp [eqGuard])) (.int _ _)
   ·cases hb
  ·split at hb
   ·rename_i k p k2 q e1 e2 hq;cases hb
    rw [e1] at h1;rw [e2] at h2;cases h1;cases h2
    exact a0F.same hR (hrun (by simp [binOp,Op.shift,show ¬ q < 0 by omega]) (by simp [eqGuard])) (.int _ _)
   ·cases hb
  ·rename_i k p k2 q _ _ e1 e2
   split at hb
   ·rename_i hk;subst hk
    rw [e1] at h1;rw [e2] at h2;cases h1;cases h2
    have hguard:∀ op',(eqGuard op' ty x y (.int k p) (.int k q)).run X.P w=.ok () w:=by intro op';cases op' <;> simp [eqGuard]
    split at hb
    case h_4 | h_5 =>
     split at hb
     ·cases hb
     ·rename_i hq;cases hb
      exact a0F.same hR (hrun (by simp [binOp,Op.intDiv,hq]) (hguard _)) (.int _ _)
    case h_9 | h_16 | h_17=>cases hb
    all_goals
     cases hb
     refine a0F.sameV hR (by constructor) (hrun ?_ (hguard _))
     simp only [binOp,ne_eq,not_true_eq_false,R0K];rfl
   ·cases hb
  ·split at hb
   ·rename_i p q e1 e2 hd;cases hb
    rw [e1] at h1;rw [e2] at h2;cases h1;cases h2
    have hud:=p0g hd;subst hud
    exact a0F.same hR (hrun (by simp [binOp,j0P hu p q w]) (by simp [eqGuard])) (.bool _)
   ·cases hb
  ·split at hb
   ·rename_i p q e1 e2 hd;cases hb
    rw [e1] at h1;rw [e2] at h2;cases h1;cases h2
    have hud:=p0g hd;subst hud
    exact a0F.same hR (hrun (by simp [binOp,j0P hu p q w,bne]) (by simp [eqGuard])) (.bool _)
   ·cases hb
  ·split at hb
   ·rename_i p _ _ _ _ e1 e2 hd;cases hb
    rw [e1] at h1;rw [e2] at h2;cases h2
    obtain ⟨e,hud⟩:=m0p hd;subst hud
    cases h1
    ·exact a0F.same hR (hrun (v':=.bool true) (by simp [binOp,e0y hu]) (by simp [eqGuard])) (.bool _)
    ·exact a0F.same hR (hrun (v':=.bool false) (by simp [binOp,c0n hu]) (by simp [eqGuard])) (.bool _)
    ·exact a0F.same hR (hrun (v':=.bool false) (by simp [binOp,c0n hu]) (by simp [eqGuard])) (.bool _)
   ·cases hb
  ·split at hb
   ·rename_i p _ _ _ _ e1 e2 hd;cases hb
    rw [e1] at h1;rw [e2] at h2;cases h2
    obtain ⟨e,hud⟩:=m0p hd;subst hud
    cases h1
    ·exact a0F.same hR (hrun (v':=.bool false) (by simp [binOp,e0y hu]) (by simp [eqGuard])) (.bool _)
    ·exact a0F.same hR (hrun (v':=.bool true) (by simp [binOp,c0n hu]) (by simp [eqGuard])) (.bool _)
    ·exact a0F.same hR (hrun (v':=.bool true) (by simp [binOp,c0n hu]) (by simp [eqGuard])) (.bool _)
   ·cases hb
  ·split at hb
   ·rename_i e1 e2 hd;cases hb
    rw [e1] at h1;rw [e2] at h2;cases h1;cases h2
    obtain ⟨p,q,r,hud⟩:=i0i hd;subst hud
    exact a0F.same hR (hrun (v':=.bool true) (by simp [binOp,e0Q hu]) (by simp [eqGuard])) (.bool _)
   ·cases hb
  ·split at hb
   ·rename_i e1 e2 hd;cases hb
    rw [e1] at h1;rw [e2] at h2;cases h1;cases h2
    obtain ⟨p,q,r,hud⟩:=i0i hd;subst hud
    exact a0F.same hR (hrun (v':=.bool false) (by simp [binOp,e0Q hu]) (by simp [eqGuard])) (.bool _)
   ·cases hb
  ·split at hb
   ·rename_i e1 e2 hd;cases hb
    rw [e1] at h1;rw [e2] at h2;cases h2
    obtain ⟨p,q,r,hud⟩:=i0i hd;subst hud
    cases h1
    exact a0F.same hR (hrun (v':=.bool false) (by simp [binOp,e0R hu]) (by simp [eqGuard])) (.bool _)
   ·cases hb
  ·split at hb
   ·rename_i e1 e2 hd;cases hb
    rw [e1] at h1;rw [e2] at h2;cases h2
    obtain ⟨p,q,r,hud⟩:=i0i hd;subst hud
    cases h1
    exact a0F.same hR (hrun (v':=.bool true) (by simp [binOp,e0R hu]) (by simp [eqGuard])) (.bool _)
   ·cases hb
  ·cases hb
theorem L0c {u:UnOp} {ty:TypeId} {x:Operand} {x':Opd} (ho:o.op=.unOp u ty x) (hx:b0E x=some x') (fx:a0v x' = true) {v:Value} (h:opA fl t H (.un u x')=.val v H'):a0F X fl φ H w o a v H':=by
 have h1:=a0Z hT hx fx
 simp only [opA] at h
 cases hb:unA u (ev t x') with
 | none=>simp [hb,b0b] at h
 | some r =>
  simp only [hb,b0b,OpRes.val.injEq] at h
  obtain ⟨rfl,rfl⟩:=h
  generalize hg1:a.eval x=g1 at h1
  unfold unA at hb
  split at hb
  ·rename_i k n e1;cases hb;rw [e1] at h1;cases h1
   exact a0F.same hR (v':=_) (by simp [execOp,ho,hg1,Op.unary,Op.intArith]) (.int _ _)
  ·rename_i k n e1;cases hb;rw [e1] at h1;cases h1
   exact a0F.same hR (v':=_) (by simp [execOp,ho,hg1,Op.unary,Op.intBits]) (.int _ _)
  ·rename_i k e1;cases hb;rw [e1] at h1;cases h1
   exact a0F.same hR (v':=_) (by simp [execOp,ho,hg1,Op.unary]) (.bool _)
  ·cases hb
theorem v0M {big:Bool} {bi:Builtin} {ats:Array TypeId} {as:Array Operand} {x:Operand} {xs:List Operand} {x':Opd} {xs':List Opd}
  (ho:o.op=.call { callee:=.builtin bi,args:=as,argTypes:=ats }) (hbi:bi=if big then .max else .min) (has:as.toList=x :: xs) (hx:b0E x=some x') (hxs:f0w xs=some xs')
  (fx:a0v x' = true) (fxs:xs'.all a0v=true) {v:Value} (h:opA fl t H (.mnx big x' xs')=.val v H'):a0F X fl φ H w o a v H':=by
 have h1:=a0Z hT hx fx
 have h2:=g0c hT hxs fxs
 have has':as=(x :: xs).toArray:=by rw [← R0F (xs:=as),has]
 subst has'
 simp only [opA] at h
 cases hb:m0G big (ev t x') (xs'.map (ev t)) with
 | none=>simp [hb,b0b] at h
 | some r =>
  simp only [hb,b0b,OpRes.val.injEq] at h
  obtain ⟨rfl,rfl⟩:=h
  have key:∀ (l l':List Value) (u u' r:Value),CR X φ w.shape? l l'→VR X φ w.shape? u u'→m0G big u l=some r →
    ∃ k n,r=.int k n∧(l'.foldlM (if big then Builtin.max2 else Builtin.min2) u').run X.P w=.ok (.int k n) w:=by
   intro l
   induction l with
   | nil =>
    intro l' u u' r hl hu hm
    rw [hl.nil_left]
    cases u <;> simp [m0G] at hm
    subst hm;cases hu
    exact ⟨_,_,rfl,rfl⟩
   | cons p q ih =>
    intro l' u u' r hl hu hm
    obtain ⟨p',q',rfl,hp,hq⟩:=hl.cons_left
    cases u <;> cases p <;> simp [m0G] at hm
    cases hu;cases hp
    rename_i k n k2 n2
    obtain ⟨k3,n3,rfl,h3⟩:=ih q' _ _ r hq (.int k (mn2 big n n2)) hm
    refine ⟨k3,n3,rfl,?_⟩
    rw [List.foldlM_cons,Sem.run_bind]
    have:((if big then Builtin.max2 else Builtin.min2) (.int k n) (.int k2 n2)).run X.P w=.ok (.int k (mn2 big n n2)) w:=by
     cases big <;> simp [Builtin.max2,Builtin.min2,mn2]
    rw [this];exact h3
  obtain ⟨k,n,rfl,hk⟩:=key _ _ _ _ _ h2 h1 hb
  refine a0F.same hR (v':=.int k n) ?_ (.int _ _)
  subst hbi
  cases big
  ·simp only [R0p,R0K] at hk ho
   simp [execOp,ho,resolve,invoke,builtin,Builtin.min_,hk]
  ·simp only [R0T] at hk ho
   simp [execOp,ho,resolve,invoke,builtin,Builtin.max_,hk]
end
theorem c0x {p:Addr} (h:p.spot=none) (n:Nat):p.add n = ⟨p.block,p.off + n,none⟩:=by
 cases p;simp only at h;subst h;unfold Addr.add;split <;> simp_all
theorem g0U {P:Program} {v v':Value} {d n y:Nat} (hv:VR X φ S v v') (hb:bnd d (some v)=some n) (hn:n≤y) (code:BoundsCode) (w:World):(Instr.sliceBound v' y code).run P w=.ok n w:=by
 cases v <;> simp [bnd] at hb
 obtain ⟨h0,rfl⟩:=hb
 cases hv
 rename_i k i
 simp [Instr.sliceBound,asIntOf]
 omega
theorem i0v {B o off:Nat} {w:World} {cs':List Value} (h:∀ j v,cs'[j]? = some v→w.cell? ⟨B,o + off + j,none⟩ = some v) :
  ∀ j v,cs'[j]? = some v→w.cell? ((⟨B,o + off,none⟩:Addr).add j)=some v:=fun j v hj=>by rw [c0x rfl];exact h j v hj
section
variable (hR:Rel X φ H w) (hT:CR X φ w.shape? t a.tmps.toList)
include hR hT
theorem L0b {ty e:TypeId} {size:Nat} {x:Operand} {lo hi mx:Option Operand} {x':Opd} {lo' hi' mx':Option Opd} (ho:o.op=.slice ty x lo hi mx) (he:e0P X.P ty=some e) (hs:b0U X.P e=some size)
  (hx:b0E x=some x') (hlo:k0l lo=some lo') (hhi:k0l hi=some hi') (hmx:k0l mx=some mx') (fx:a0v x' = true) (flo:lo'.toList.all a0v=true) (fhi:hi'.toList.all a0v=true)
  (fmx:mx'.toList.all a0v=true) {v:Value} (h:opA fl t H (.sl e size x' lo' hi' mx')=.val v H'):a0F X fl φ H w o a v H':=by
 have hv:=a0Z hT hx fx
 have und:=d0x he
 simp only [opA] at h
 split at h
 ·cases h
 rename_i hel
 cases hb:c0D size (ev t x') (lo'.map (ev t)) (hi'.map (ev t)) (mx'.map (ev t)) with
 | none=>simp [hb,b0b] at h
 | some r =>
  simp only [hb,b0b,OpRes.val.injEq] at h
  obtain ⟨rfl,rfl⟩:=h
  have opt:∀ {z:Option Operand} {z':Option Opd},k0l z=some z'→z'.toList.all a0v=true →
    (z=none∧z' = none) ∨ ∃ p p',z=some p∧z' = some p'∧VR X φ w.shape? (ev t p') (a.eval p):=by
   intro z z' hz hf
   cases z with
   | none=>simp [k0l] at hz;exact .inl ⟨rfl,hz.symm⟩
   | some p =>
    simp only [k0l] at hz
    cases hp:b0E p with
    | none=>simp [hp] at hz
    | some p'=>simp [hp] at hz;subst hz;exact .inr ⟨p,p',rfl,rfl,a0Z hT hp (by simpa using hf)⟩
  -- the bounds, as the model reckons them
  have bounds:∀ (len cap l h0:Nat),bnd 0 (lo'.map (ev t))=some l→bnd len (hi'.map (ev t))=some h0→l≤h0→h0≤len→len≤cap→∀ m,
    ((mx'.map (ev t)=none∧m=cap) ∨ (∃ u,mx'.map (ev t)=some u∧(hi'.map (ev t)).isSome=true∧bnd 0 (some u)=some m∧h0≤m∧m≤len)) →
    (Instr.sliceBounds true len cap (lo.map a.eval) (hi.map a.eval) (mx.map a.eval)).run X.P w=.ok (l,h0,m) w:=by
   intro len cap l h0 hl hh hle hlen hcap m hm
   rcases opt hmx fmx with ⟨rfl,rfl⟩ | ⟨q,q',rfl,rfl,hq⟩
   ·rcases hm with ⟨_,rfl⟩ | ⟨u,hu,_⟩
    ·rcases opt hhi fhi with ⟨rfl,rfl⟩ | ⟨p,p',rfl,rfl,hp⟩
     ·simp [bnd] at hh;subst hh
      rcases opt hlo flo with ⟨rfl,rfl⟩ | ⟨p2,p2',rfl,rfl,hp2⟩
      ·simp [bnd] at hl;subst hl;simp [Instr.sliceBounds]
      ·simp [Instr.sliceBounds,g0U hp2 hl hle]
     ·rcases opt hlo flo with ⟨rfl,rfl⟩ | ⟨p2,p2',rfl,rfl,hp2⟩
      ·simp [bnd] at hl;subst hl;simp [Instr.sliceBounds,g0U hp hh (show h0≤m by omega)]
      ·simp [Instr.sliceBounds,g0U hp2 hl hle,g0U hp hh (show h0≤m by omega)]
    ·simp at hu
   ·rcases hm with ⟨hu,_⟩ | ⟨u,hu,hne,hb2,hhm,hml⟩
    ·simp at hu
    ·simp only [R0P,Q0V] at hu;subst hu
     rcases opt hhi fhi with ⟨rfl,rfl⟩ | ⟨p,p',rfl,rfl,hp⟩
     ·simp at hne
     ·rcases opt hlo flo with ⟨rfl,rfl⟩ | ⟨p2,p2',rfl,rfl,hp2⟩
      ·simp [bnd] at hl;subst hl;simp [Instr.sliceBounds,g0U hq hb2 (show m≤cap by omega),g0U hp hh hhm]
      ·simp [Instr.sliceBounds,g0U hq hb2 (show m≤cap by omega),g0U hp hh hhm,g0U hp2 hl hle]
  generalize hg:a.eval x=g at hv
  unfold c0D at hb
  split at hb
  ·rename_i p len cap e1
   rw [e1] at hv hel
   split at hb
   ·rename_i l h0 hl hh
    split at hb
    ·rename_i hle
     have fin:∀ (p':Option Addr) (cap' m:Nat),g=.slice p' len cap'→len≤cap' →
       ((mx'.map (ev t)=none∧m=cap') ∨ (∃ u,mx'.map (ev t)=some u∧(hi'.map (ev t)).isSome=true∧bnd 0 (some u)=some m∧h0≤m∧m≤len)) →
       (execOp a.eval o).run X.P w=.ok (.value (.slice (if m=l then p' else p'.map (·.add (l * size))) (h0 - l) (m - l))) w:=by
      intro p' cap' m hgp hlc hm
      have hbd:=bounds len cap' l h0 hl hh hle.1 hle.2 hlc m hm
      simp only [execOp,ho,hg,hgp,Instr.sliceAt,Instr.slice,Sem.run_bind,run_underlying und,Result.andThen_ok,hbd,c0o hs,Sem.run_pure]
     -- the values fit
     have val:∀ (cap' m:Nat) (c2:Nat),VR X φ w.shape? (.slice p len cap) g→(∃ p',g=.slice p' len cap')→h0≤m→m≤cap'→(c2 ≠ unk→m - l=c2)→(p=none ∨ cap=0→c2=0) →
       ∀ p',g=.slice p' len cap'→VR X φ w.shape? (.slice (p.map fun q=>⟨q.block,q.off + l * size,none⟩) (h0 - l) c2) (.slice (if m=l then p' else p'.map (·.add (l * size))) (h0 - l) (m - l)):=by
      intro cap' m c2 hvv _ h1 h2 h3 hz p' hp'
      subst hp'
      cases hvv with
      | snil =>
       have:l=0:=by omega
       have:h0=0:=by omega
       have:m=0:=by omega
       have:=hz (.inl rfl)
       subst_vars
       exact .snil
      | sle q q' =>
       have:l=0:=by omega
       have:h0=0:=by omega
       have:m=0:=by omega
       have:=hz (.inr rfl)
       subst_vars
       simp only [Nat.sub_self,R0T,R0P]
       exact .sle _ _
      | sl q q' _ _ _ B o' g1 g2 g3 g4 g5 g6 g7 g8 =>
       have e2:(if m=l then some q' else (some q').map (·.add (l * size)))=some (if m=l then q' else q'.add (l * size)):=by split <;> rfl
       rw [e2]
       refine .sl _ _ _ _ _ B o' rfl g2 ?_ ?_ ?_ h3 (by omega) ?_
       ·split
        ·exact g3
        ·rw [c0x g3]
       ·split
        ·exact g4
        ·rw [c0x g3];exact g4
       ·intro hpos
        rw [R0c (by omega),c0x g3]
        simp only
        rw [g5 (by omega)];omega
       ·intro hbase
        have hbase':X.base≤q'.block:=by
         split at hbase
         ·exact hbase
         ·rw [c0x g3] at hbase;exact hbase
        obtain ⟨e2,n,g9,g10⟩:=g8 hbase'
        split
        ·rename_i hml;refine ⟨e2,n,g9,?_⟩
         have:m - l=0:=by omega
         rw [this]
         have:0 * X.P.cellsOf e2≤cap' * X.P.cellsOf e2:=R0h _ (R0H _)
         omega
        ·rw [c0x g3]
         -- the row's element type is the slice's
         have hee:X.P.cellsOf e2=size:=by
          cases hk:H.blk q.block with
          | dead =>
           have hc0:cap=0:=by
            rcases S0n cap with h | h
            ·exact h
            ·have:cap ≠ 0:=by omega
             simp [elemOk,hk,this] at hel
           have:=g6 (by subst hc0;simp [unk])
           omega
          | emap =>
           have hc0:cap=0:=by
            rcases S0n cap with h | h
            ·exact h
            ·have:cap ≠ 0:=by omega
             simp [elemOk,hk,this] at hel
           have:=g6 (by subst hc0;simp [unk])
           omega
          | row ro e3 cs =>
           obtain ⟨c,el,fz,k1,k2,k3,k4,k5⟩:=hR.row _ _ _ _ _ _ g2 hk
           cases ro with
           | true=>have:=k5 rfl;omega
           | false =>
            obtain ⟨k6,rfl,rfl⟩:=k4 rfl
            have hel2:(el == e)=true:=by
             have hc0:cap ≠ 0:=fun h=>by have:=g6 (by subst h;simp [unk]);omega
             simpa [elemOk,hk,hc0] using hel
            have hel3:el=e:=by simpa using hel2
            rw [g4] at g9
            simp only [World.shape?,k1,Q0V,S0L] at g9
            rw [← g9.1,hel3]
            exact c0Z hs
         refine ⟨e2,n,g9,?_⟩
         simp only
         rw [hee] at g10 ⊢
         have:l * size + (m - l) * size=m * size:=by rw [← R0o];congr 1;omega
         have:m * size≤cap' * size:=R0h _ h2
         omega
     have hslice:∃ p' cap',g=.slice p' len cap'∧len≤cap'∧(cap ≠ unk→cap' = cap):=by
      cases hv with
      | snil=>exact ⟨_,_,rfl,Q0W _,fun _=>rfl⟩
      | sle q q'=>exact ⟨_,_,rfl,Q0W _,fun _=>rfl⟩
      | sl q q' _ _ cap' B o' g1 g2 g3 g4 g5 g6 g7 g8=>exact ⟨_,_,rfl,g7,g6⟩
     obtain ⟨p',cap',hgp,hlc,hcc⟩:=hslice
     split at hb
     ·rename_i hmn;cases hb
      refine a0F.same hR (fin p' cap' cap' hgp hlc (.inl ⟨hmn,rfl⟩)) (val cap' cap' _ hv ⟨_,hgp⟩ (by omega) (Q0W _) ?_ ?_ p' hgp)
      ·intro hne
       split at hne
       ·exact R0q rfl hne
       ·rename_i hcu;rw [R0c hcu,hcc hcu]
      ·rintro (hp | hp)
       ·subst hp
        cases hv
        simp [unk]
       ·subst hp
        simp [unk]
     ·rename_i u hms
      split at hb
      ·rename_i m hbm
       split at hb
       ·rename_i hmm;cases hb
        exact a0F.same hR (fin p' cap' m hgp hlc (.inr ⟨u,hms,hmm.1,hbm,hmm.2.1,hmm.2.2⟩)) (val cap' m _ hv ⟨_,hgp⟩ hmm.2.1 (by omega) (fun _=>rfl) (fun hp=>hp.elim (fun hp=>by subst hp;cases hv;omega) (fun hp=>by have:=hcc (by subst hp;simp [unk]);omega)) p' hgp)
       ·cases hb
      ·cases hb
    ·cases hb
   ·cases hb
  ·cases hb
theorem K0Y {ty:TypeId} {fs:List Field} {f:Field} {n i:Nat} {x:Operand} {x':Opd} (ho:o.op=.fieldAddr ty x i) (hfs:e0e X.P ty=some fs) (hf:fs[i]? = some f) (hn:b0U X.P f.type=some n) (hn0:n ≠ 0)
  (hx:b0E x=some x') (fx:a0v x' = true) {v:Value} (h:opA fl t H (.fa f.offset x')=.val v H'):a0F X fl φ H w o a v H':=by
 have hv:=a0Z hT hx fx
 obtain ⟨l,hu,rfl⟩:=f0n hfs
 simp only [opA] at h
 split at h
 ·rename_i p e1
  split at h
  ·cases h
  ·cases h
   rw [e1] at hv;generalize hg:a.eval x=g at hv
   cases hv with
   | ptr _ q B o' h1 h2 h3 =>
    subst h3
    have hf':l[i]? = some f:=by simpa using hf
    refine a0F.same hR (v':=.pointer (some ⟨B,o' + p.off + f.offset,none⟩)) ?_ (.ptr _ _ B o' rfl h2 (by simp [R0R]))
    simp [execOp,ho,hg,Instr.fieldAt,run_underlying hu,hf',Instr.sureAddr,fieldPlace,c0o hn,hn0,c0x]
 ·cases h
theorem G0z {ty:TypeId} {fs:List Field} {f:Field} {i:Nat} {x:Operand} {x':Opd} (ho:o.op=.fieldAddr ty x i) (hfs:e0e X.P ty=some fs) (hf:fs[i]? = some f) (hn:b0U X.P f.type=some 0)
  (hoff:f.offset=0) (hby:f.byteOffset=0) (hcell:((List.range (X.P.cellsOf ty)).all fun k=>(byteOfCell X.P X.P.depth ty k).isSome)=true) (hcs:X.P.cellsOf ty ≠ 0)
  (hx:b0E x=some x') (fx:a0v x' = true) {v:Value} (h:opA fl t H (.fa0 ty x')=.val v H'):a0F X fl φ H w o a v H':=by
 have hv:=a0Z hT hx fx
 obtain ⟨l,hu,rfl⟩:=f0n hfs
 simp only [opA] at h
 split at h
 ·rename_i p e1
  split at h
  ·rename_i e' cs hk
   split at h
   ·rename_i hc
    obtain ⟨hc1,rfl,hc2⟩:=hc
    cases h
    rw [e1] at hv;generalize hg:a.eval x=g at hv
    cases hv with
    | ptr _ q B o' h1 h2 h3 =>
     subst h3
     have hf':l[i]? = some f:=by simpa using hf
     obtain ⟨c,k1,k2,k3,k4⟩:=hR.blkT h2 hk
     have hsh:w.shape? B=some (e',c.size):=by simp [World.shape?,k1]
     have hby2:∀ off,∃ n,(byteOf ⟨B,off,none⟩).run X.P w=.ok n w:=by
      intro off
      have hlt:off % X.P.cellsOf e' < X.P.cellsOf e':=R0V _ (by omega)
      have hb:=S0b.1 hcell (off % X.P.cellsOf e') (R0Q.2 hlt)
      obtain ⟨b,hb⟩:=Option.isSome_iff_exists.1 hb
      exact ⟨off / X.P.cellsOf e' * X.P.bytesOf e' + b,by simp [byteOf,noView,viewAt,hsh,hcs,hb]⟩
     obtain ⟨nb,hnb⟩:=hby2 (o' + p.off)
     refine a0F.same hR (v':=.pointer (some ⟨B,o' + p.off,none⟩)) ?_ (.ptr _ _ B o' rfl h2 (by simp [hc2]))
     simp [execOp,ho,hg,Instr.fieldAt,run_underlying hu,hf',Instr.sureAddr,fieldPlace,c0o hn,partAt,hoff,hby,hnb]
   ·cases h
  ·cases h
 ·cases h
theorem K0Z {ty e:TypeId} {size:Nat} {x y:Operand} {x' y':Opd} (ho:o.op=.indexAddr ty x y) (he:e0P X.P ty=some e) (hs:b0U X.P e=some size) (hx:b0E x=some x') (hy:b0E y=some y')
  (fx:a0v x' = true) (fy:a0v y' = true) {v:Value} (h:opA fl t H (.ia size x' y')=.val v H'):a0F X fl φ H w o a v H':=by
 have hv:=a0Z hT hx fx
 have hi:=a0Z hT hy fy
 have und:=d0x he
 simp only [opA] at h
 split at h
 ·rename_i p n c k j e1 e2
  split at h
  ·rename_i hj;cases h
   rw [e1] at hv;rw [e2] at hi
   generalize hg:a.eval x=g at hv
   generalize hg2:a.eval y=g2 at hi
   cases hi
   cases hv with
   | sle _ q=>omega
   | sl _ q _ _ c' B o' g1 g2 g3 g4 g5 g6 g7 g8 =>
    have hoff:=g5 (by omega)
    refine a0F.same hR (v':=.pointer (some ⟨B,o' + (p.off + j.toNat * size),none⟩)) ?_ (.ptr _ _ B o' rfl g2 rfl)
    simp [execOp,ho,hg,hg2,Instr.indexAt,asIntOf,run_underlying und,hj,c0o hs,c0x g3,g4,hoff,R0R]
  ·cases h
 ·cases h
theorem G0A {ty:TypeId} {fs:List Field} {f:Field} {n i:Nat} {b:Bool} {x:Operand} {x':Opd} (ho:o.op=.field ty x i) (hfs:e0e X.P ty=some fs) (hf:fs[i]? = some f) (hn:b0U X.P f.type=some n)
  (hb:h0H X.P f.type=some b) (hx:b0E x=some x') (fx:a0v x' = true) {v:Value} (h:opA fl t H (.fld b f.offset n x')=.val v H'):a0F X fl φ H w o a v H':=by
 have hv:=a0Z hT hx fx
 obtain ⟨l,hu,rfl⟩:=f0n hfs
 have hf':l[i]? = some f:=by simpa using hf
 simp only [opA] at h
 cases hr:H0f b f.offset n (ev t x') with
 | none=>simp [hr,b0b] at h
 | some r =>
  simp only [hr,b0b,OpRes.val.injEq] at h
  obtain ⟨rfl,rfl⟩:=h
  generalize hg:a.eval x=g at hv
  unfold H0f at hr
  split at hr
  ·rename_i cs e1
   rw [e1] at hv
   cases hv with
   | agg _ cs' h1 h2 =>
    have hcr:=VR.agg_iff.1 (.agg cs cs' h1 h2)
    split at hr
    ·rename_i hbt
     split at hr
     ·rename_i hle;cases hr
      refine a0F.same hR (v':=.agg (cs'.extract f.offset (f.offset + n))) (by simp [execOp,ho,hg,Instr.field,run_underlying hu,hf',asAgg,part,e0N hb,hbt,c0o hn]) ?_
      exact VR.agg_iff.2 (by simpa [Array.toList_extract] using (hcr.drop f.offset).take n)
     ·cases hr
    ·rename_i hbt
     have hlt:f.offset < cs.size:=(R0n.1 hr).1
     have hi':cs'[f.offset]? = some cs'[f.offset]:=R0w (by omega)
     have h3:=h2 f.offset hlt
     simp only [R0e,hr,R0G,hi'] at h3
     exact a0F.same hR (v':=cs'[f.offset]) (by simp [execOp,ho,hg,Instr.field,run_underlying hu,hf',asAgg,part,e0N hb,hbt,hi']) h3
  ·cases hr
theorem x0F {ty:TypeId} {n:Nat} {b:Bool} {x:Operand} {x':Opd} (ho:o.op=.load ty x) (hn:b0U X.P ty=some n) (hb:h0H X.P ty=some b) (hx:b0E x=some x') (fx:a0v x' = true)
  {v:Value} (h:opA fl t H (.load b n x')=.val v H'):a0F X fl φ H w o a v H':=by
 have hv:=a0Z hT hx fx
 simp only [opA] at h
 cases hr:b0y H b n (ev t x') with
 | none=>simp [hr,b0b] at h
 | some r =>
  simp only [hr,b0b,OpRes.val.injEq] at h
  obtain ⟨rfl,rfl⟩:=h
  generalize hg:a.eval x=g at hv
  unfold b0y at hr
  split at hr
  ·rename_i p e1
   rw [e1] at hv
   cases hv with
   | ptr _ q B o' h1 h2 h3 =>
    subst h3
    split at hr
    ·rename_i hbn;cases hr
     obtain ⟨rfl,rfl⟩:=hbn
     exact a0F.same hR (v':=.agg #[]) (by simp [execOp,ho,hg,Instr.loadAt,Instr.sureAddr,loadVar,e0N hb,c0o hn,loadCells,loadCellsFrom]) (VR.agg_iff.2 CR.nil)
    ·split at hr
     ·cases hr
     ·split at hr
      ·rename_i cs hcs
       obtain ⟨hlen,cs',hl',hcr,hcell⟩:=hR.cells h2 hcs
       cases b with
       | true =>
        simp only [R0T] at hr hlen hl';cases hr
        have hld:=run_loadCells_list (P:=X.P) w ⟨B,o' + p.off,none⟩ cs' (i0v hcell)
        rw [hl'] at hld
        exact a0F.same hR (v':=.agg cs'.toArray) (by simp [execOp,ho,hg,Instr.loadAt,Instr.sureAddr,loadVar,e0N hb,c0o hn,hld]) (VR.agg_iff.2 (by simpa using hcr))
       | false =>
        simp only [R0p,R0K] at hr hlen hl'
        cases cs with
        | nil=>simp at hlen
        | cons u r' =>
         simp only [List.head?_cons,Q0V] at hr;subst hr
         obtain ⟨u',r2,rfl,hu,_⟩:=hcr.cons_left
         have hc0:=hcell 0 u' rfl
         simp only [R0N] at hc0
         exact a0F.same hR (v':=u') (by simp [execOp,ho,hg,Instr.loadAt,Instr.sureAddr,loadVar,e0N hb,hc0]) hu
      ·cases hr
  ·cases hr
end
theorem o0r {P:Program} {α β:Type} (g:α→Sem β) (f:α→β) (w:World):∀ (l:List α),(∀ x ∈ l,(g x).run P w=.ok (f x) w)→(l.mapM g).run P w=.ok (l.map f) w
 | [],_=>by simp
 | x :: r,h=>by
  have h1:=h x (by simp)
  have h2:=o0r g f w r (fun y hy=>h y (by simp [hy]))
  simp [S0N,h1,h2]
theorem n0Z:∀ (vs:List Value) (cs:Array Value) (off:Nat) (k:Nat),((vs.toArray.zipIdx k).foldl (fun cs (c,j)=>cs.setIfInBounds (off + j) c) cs).toList=a0V cs.toList (off + k) vs:=by
 intro vs
 induction vs with
 | nil =>
  intro cs off k
  have e:(([]:List Value).toArray.zipIdx k) = #[]:=by apply Array.ext';simp
  rw [e];simp [a0V]
 | cons v r ih =>
  intro cs off k
  have e:((v :: r).toArray.zipIdx k) = #[(v,k)] ++ (r.toArray.zipIdx (k + 1)):=by
   apply Array.ext'
   simp [List.zipIdx_cons]
  rw [e,Array.foldl_append]
  simp only [a0V]
  have:=ih (cs.setIfInBounds (off + k) v) off (k + 1)
  rw [R0R]
  simpa using this
theorem k0q (place:Nat→Option (Nat × Nat)):∀ (ps:List (Nat × Nat × Value)) (qs:List (Nat × Value)) (cs cs':List Value) (r:List Value),
  ps.length=qs.length→(∀ i,i < ps.length→place (qs.getD i default).1=some ((ps.getD i default).1,(ps.getD i default).2.1)∧VR X φ S (ps.getD i default).2.2 (qs.getD i default).2) →
  CR X φ S cs cs'→f0x cs ps=some r→∃ r',Instr.fill place cs'.toArray qs=some r'.toArray∧CR X φ S r r'
 | [],[],cs,cs',r,_,_,hc,h=>by simp [f0x] at h;subst h;exact ⟨cs',by simp [Instr.fill],hc⟩
 | [],_ :: _,_,_,_,hl,_,_,_=>by simp at hl
 | _ :: _,[],_,_,_,hl,_,_,_=>by simp at hl
 | (off,n,v) :: ps,(i,u) :: qs,cs,cs',r,hl,hp,hc,h=>by
  have h0:=hp 0 (by simp)
  simp only [List.getD_cons_zero] at h0
  obtain ⟨hpl,hvu⟩:=h0
  simp only [f0x] at h
  split at h
  ·rename_i hcond
   have hcells:=hvu.cells
   have hlen:=hcells.1
   have hsz:u.cells.size=n:=by rw [← hcond.1,hlen];simp
   have hc2:=hc.write hcells off
   have hclen:=hc.1
   obtain ⟨r',h1,h2⟩:=k0q place ps qs _ _ r (by simpa using hl) (fun j hj=>by have:=hp (j + 1) (by simpa using hj);simpa using this) hc2 h
   refine ⟨r',?_,h2⟩
   unfold Instr.fill
   simp only [hpl,hsz,ne_eq,not_true_eq_false,Bool.or_eq_true,R0E,false_or]
   rw [R0c (by simp;omega)]
   rw [← h1]
   congr 1
   apply Array.ext'
   have:=n0Z u.cells.toList cs'.toArray off 0
   simp only [R0F,R0N] at this
   rw [this]
  ·cases h
theorem c0J (z:List Value):∀ n,(b0Q z n).length=n * z.length
 | 0=>by simp [b0Q]
 | n + 1=>by simp [b0Q,c0J z n,R0o,Nat.add_comm]
theorem p0d (z:List Value) (hz:0 < z.length):∀ (n i:Nat),i < n * z.length→(b0Q z n)[i]? = z[i % z.length]?
 | 0,i,h=>by simp at h
 | n + 1,i,h=>by
  simp only [b0Q]
  by_cases hi:i < z.length
  ·rw [List.getElem?_append_left hi,R0s hi]
  ·rw [List.getElem?_append_right (by omega),p0d z hz n (i - z.length) (by rw [Nat.succ_mul] at h;omega)]
   congr 1
   exact (Nat.mod_eq_sub_mod (by omega)).symm
theorem g0T {z:List Value} (h:z.all q0O=true):∀ n,(b0Q z n).all q0O=true
 | 0=>rfl
 | n + 1=>by simp only [b0Q,T0a,R0f];exact ⟨h,g0T h n⟩
theorem h0i (z:Array Value) (n:Nat) (hz:0 < z.size):((Array.range (n * z.size)).map (z[· % z.size]!)).toList=b0Q z.toList n:=by
 apply S0G
 intro i
 by_cases hi:i < n * z.size
 ·rw [p0d z.toList (by simpa using hz) n i (by simpa using hi)]
  have hlt:=R0V i hz
  simp only [Array.toList_map,Array.toList_range,R0M,S0h hi,R0P,S0W,R0Z]
  rw [R0w hlt]
  simp [getElem!_def,R0w hlt]
 ·rw [R0d (by simp;omega),R0d (by rw [c0J];simp;omega)]
section
variable (hR:Rel X φ H w) (hT:CR X φ w.shape? t a.tmps.toList)
include hR hT
theorem a0F.made (hfl:fl≤H.size) (e:TypeId) (cs:List Value) (c:Array Value) (hle:cs.length≤c.size) (hc:CR X φ w.shape? cs (c.toList.take cs.length)) (v v':Value)
  (hr:(execOp a.eval o).run X.P w=.ok (.value v') (w.alloc (.cells c e)))
  (hv:VR X (fun b=>if b=H.size then some (w.heap.size,0) else φ b) (w.alloc (.cells c e)).shape? v v'):a0F X fl φ H w o a v (H.push (.row false e cs)) :=
 have _:=hT
 ⟨_,_,v',.inl hr,hv,c0T.alloc hR e cs c hle hc hfl⟩
omit hT in
theorem r0e (c:Array Value) (e:TypeId):VR X (fun b=>if b=H.size then some (w.heap.size,0) else φ b) (w.alloc (.cells c e)).shape? (.pointer (some ⟨H.size,0,none⟩)) (.pointer (some ⟨w.heap.size,0,none⟩)) :=
 have _:=hR
 .ptr _ _ w.heap.size 0 rfl (by simp) (by simp)
omit hT in
theorem g0C (c:Array Value) (e:TypeId) (n cap cap' size:Nat) (hs:X.P.cellsOf e=size) (hcap:cap ≠ unk→cap' = cap) (hn:n≤cap') (hsz:cap' * size≤c.size) :
  VR X (fun b=>if b=H.size then some (w.heap.size,0) else φ b) (w.alloc (.cells c e)).shape? (.slice (some ⟨H.size,0,none⟩) n cap) (.slice (some ⟨w.heap.size,0,none⟩) n cap'):=by
 have _:=hR
 refine .sl _ _ _ _ _ w.heap.size 0 rfl (by simp) rfl rfl (fun _=>rfl) hcap hn (fun _=>⟨e,c.size,?_,by rw [hs];simpa using hsz⟩)
 simp only [World.shape?,heap_alloc_new]
theorem v0I (hfl:fl≤H.size) {e:TypeId} {z:List Value} (ho:o.op=.alloc e) (hz:h0B X.P e=some z):a0F X fl φ H w o a (.pointer (some ⟨H.size,0,none⟩)) (H.push (.row false e z)):=by
 obtain ⟨hf,v,i,_,_,_,hvz,hrun⟩:=f0t hz
 have hl:z.length=v.cells.size:=by rw [← hvz];simp
 refine a0F.made hR hT hfl e z v.cells (by omega) (by rw [hvz,Q0Z];exact d0N hf) _ (.pointer (some ⟨w.heap.size,0,none⟩)) ?_ (r0e hR _ _)
 simp [execOp,ho,Instr.alloc,hrun,newVar,newRow]
theorem G0v (hfl:fl≤H.size) {e:TypeId} {x:Operand} {x':Opd} (ho:o.op=.box e x) (hx:b0E x=some x') (fx:a0v x' = true) :
  a0F X fl φ H w o a (.pointer (some ⟨H.size,0,none⟩)) (H.push (.row false e (a0M (ev t x')))):=by
 have hv:=(a0Z hT hx fx).cells
 have hl:=hv.1
 refine a0F.made hR hT hfl e _ (a.eval x).cells (by rw [hl];simp) (by rw [hl,Q0Z];exact hv) _ (.pointer (some ⟨w.heap.size,0,none⟩)) ?_ (r0e hR _ _)
 simp [execOp,ho,Instr.box,newVar,newRow]
omit hR in
theorem l0Y {fs:List Field}:∀ {ps:List (Nat × Operand)} {qs:List (Nat × Nat × Opd)},i0t X.P fs ps=some qs→(qs.map (·.2.2)).all a0v=true →
  (b0a t qs).length=ps.length∧∀ i,i < ps.length→(∃ f n,fs[(ps.getD i default).1]? = some f∧b0U X.P f.type=some n∧((b0a t qs).getD i default).1=f.offset∧((b0a t qs).getD i default).2.1=n) ∧
   VR X φ w.shape? ((b0a t qs).getD i default).2.2 (a.eval (ps.getD i default).2)
 | [],qs,h,_=>by simp [i0t] at h;subst h;simp [b0a]
 | p :: ps,qs,h,hf=>by
  simp only [i0t] at h
  cases h1:fs[p.1]? with
  | none=>simp [h1] at h
  | some f =>
   cases h2:b0U X.P f.type with
   | none=>simp [h1,h2] at h
   | some n =>
    cases h3:b0E p.2 with
    | none=>simp [h1,h2,h3] at h
    | some x =>
     cases h40:i0t X.P fs ps with
     | none=>simp [h1,h2,h3,h40] at h
     | some qs' =>
      simp [h1,h2,h3,h40] at h;subst h
      simp only [List.map_cons,R0D,R0f] at hf
      obtain ⟨g1,g2⟩:=l0Y h40 hf.2
      refine ⟨by simpa [b0a] using g1,fun i hi=>?_⟩
      cases i with
      | zero=>exact ⟨⟨f,n,by simpa using h1,h2,rfl,rfl⟩,by simpa [b0a] using a0Z hT h3 hf.1⟩
      | succ i=>have:=g2 i (by simpa using hi);simpa [b0a] using this
theorem v0J {ty:TypeId} {fs:List Field} {z:List Value} {ps:Array (Nat × Operand)} {qs:List (Nat × Nat × Opd)} (ho:o.op=.build ty ps) (hfs:e0e X.P ty=some fs)
  (hall:(fs.all fun f=>(b0U X.P f.type).isSome)=true) (hz:h0B X.P ty=some z) (hq:i0t X.P fs ps.toList=some qs) (fq:(qs.map (·.2.2)).all a0v=true)
  {v:Value} (h:opA fl t H (.build z qs)=.val v H'):a0F X fl φ H w o a v H':=by
 obtain ⟨l,hu,rfl⟩:=f0n hfs
 obtain ⟨hf,zv,i,_,_,_,hvz,hrun⟩:=f0t hz
 simp only [opA] at h
 cases hfill:f0x z (b0a t qs) with
 | none=>simp [hfill,b0b] at h
 | some r =>
  simp only [hfill,R0P,b0b,OpRes.val.injEq] at h
  obtain ⟨rfl,rfl⟩:=h
  obtain ⟨g1,g2⟩:=l0Y (w:=w) hT hq fq
  let sz:Field→Nat:=fun f=>(b0U X.P f.type).getD 0
  have hplaces:(l.mapM fun f=>do pure (f.offset,← sizeOf f.type):Sem (Array (Nat × Nat))).run X.P w=.ok (l.map fun f=>(f.offset,sz f)) w:=by
   rw [Array.mapM_eq_mapM_toList]
   have:=o0r (P:=X.P) (fun f:Field=>(do pure (f.offset,← sizeOf f.type):Sem (Nat × Nat))) (fun f=>(f.offset,sz f)) w l.toList (fun f hf=>by
    have h1:=S0b.1 hall f hf
    obtain ⟨n,hn⟩:=Option.isSome_iff_exists.1 h1
    simp [c0o hn,sz,hn])
   simp only [Sem.run_map,this,Result.andThen_ok]
   congr 1
   apply Array.ext'
   simp
  obtain ⟨r',h1,h2⟩:=k0q (X:=X) (φ:=φ) (S:=w.shape?) (fun i=>(l.map fun f=>(f.offset,sz f))[i]?) (b0a t qs) (ps.toList.map fun p=>(p.1,a.eval p.2)) z zv.cells.toList r
   (by simpa using g1) (fun i hi=>by
    rw [g1] at hi
    obtain ⟨⟨f,n,e1,e2,e3,e4⟩,e5⟩:=g2 i hi
    have hgi:(ps.toList.map fun p=>(p.1,a.eval p.2)).getD i default=((ps.toList.getD i default).1,a.eval (ps.toList.getD i default).2):=by
     simp only [Q0T,R0M,R0a hi,R0P,R0G]
    rw [hgi]
    refine ⟨?_,e5⟩
    have e1':l[(ps.toList.getD i default).1]? = some f:=by simpa using e1
    simp only [Array.getElem?_map,e1',R0P,e3,e4,sz,e2,R0G])
   (by rw [hvz];exact d0N hf) hfill
  refine a0F.same hR (v':=.agg r'.toArray) ?_ (VR.agg_iff.2 (by simpa using h2))
  simp only [R0F] at h1
  simp only [Array.getElem?_map] at h1
  simp only [execOp,ho,Instr.build,Sem.run_bind,hrun,Result.andThen_ok,run_underlying hu,hplaces]
  simp [h1]
omit hR in
theorem j0X {size:Nat}:∀ {ps:List (Nat × Operand)} {qs:List (Nat × Nat × Opd)},g0a size ps=some qs→(qs.map (·.2.2)).all a0v=true →
  (b0a t qs).length=ps.length∧∀ i,i < ps.length→((b0a t qs).getD i default).1=(ps.getD i default).1 * size∧((b0a t qs).getD i default).2.1=size ∧
   VR X φ w.shape? ((b0a t qs).getD i default).2.2 (a.eval (ps.getD i default).2)
 | [],qs,h,_=>by simp [g0a] at h;subst h;simp [b0a]
 | p :: ps,qs,h,hf=>by
  simp only [g0a] at h
  cases h3:b0E p.2 with
  | none=>simp [h3] at h
  | some x =>
   cases h40:g0a size ps with
   | none=>simp [h3,h40] at h
   | some qs' =>
    simp [h3,h40] at h;subst h
    simp only [List.map_cons,R0D,R0f] at hf
    obtain ⟨g1,g2⟩:=j0X h40 hf.2
    refine ⟨by simpa [b0a] using g1,fun i hi=>?_⟩
    cases i with
    | zero=>exact ⟨rfl,rfl,by simpa [b0a] using a0Z hT h3 hf.1⟩
    | succ i=>have:=g2 i (by simpa using hi);simpa [b0a] using this
theorem G0C (hfl:fl≤H.size) {ty e:TypeId} {z:List Value} {n size:Nat} {ps:Array (Nat × Operand)} {qs:List (Nat × Nat × Opd)} (ho:o.op=.buildSlice ty n ps) (he:e0P X.P ty=some e)
  (hs:b0U X.P e=some size) (hz:h0B X.P e=some z) (hsz:size=z.length) (hpos:0 < size) (hbig:n * size≤16777216) (hq:g0a size ps.toList=some qs) (fq:(qs.map (·.2.2)).all a0v=true)
  {v:Value} (h:opA fl t H (.lit e z n qs)=.val v H'):a0F X fl φ H w o a v H':=by
 have hu:=d0x he
 obtain ⟨hf,zv,i,_,_,_,hvz,hrun⟩:=f0t hz
 have hzs:zv.cells.size=size:=by rw [hsz,← hvz];simp
 simp only [opA] at h
 cases hfill:f0x (b0Q z n) (b0a t qs) with
 | none=>simp [hfill] at h
 | some r =>
  simp only [hfill,OpRes.val.injEq] at h
  obtain ⟨rfl,rfl⟩:=h
  obtain ⟨g1,g2⟩:=j0X (w:=w) hT hq fq
  obtain ⟨r',h1,h2⟩:=k0q (X:=X) (φ:=φ) (S:=w.shape?) (fun i=>some (i * size,size)) (b0a t qs) (ps.toList.map fun p=>(p.1,a.eval p.2)) (b0Q z n) (b0Q z n) r
   (by simpa using g1) (fun i hi=>by
    rw [g1] at hi
    obtain ⟨e1,e2,e5⟩:=g2 i hi
    have hgi:(ps.toList.map fun p=>(p.1,a.eval p.2)).getD i default=((ps.toList.getD i default).1,a.eval (ps.toList.getD i default).2):=by
     simp only [Q0T,R0M,R0a hi,R0P,R0G]
    rw [hgi,e1,e2]
    exact ⟨rfl,e5⟩)
   (d0N (g0T hf n)) hfill
  have fill_len:∀ (ps:List (Nat × Nat × Value)) (cs r:List Value),f0x cs ps=some r→r.length=cs.length:=by
   intro ps
   induction ps with
   | nil=>intro cs r h;simp [f0x] at h;rw [h]
   | cons p ps ih =>
    intro cs r h
    obtain ⟨q1,q2,q3⟩:=p
    simp only [f0x] at h
    split at h
    ·rw [ih _ _ h,c0a]
    ·cases h
  have hlen:r.length=n * size:=by rw [fill_len _ _ _ hfill,c0J,hsz]
  have hlen':=h2.1
  have hmade:((Array.range (n * size)).map (zv.cells[· % zv.cells.size]!))=(b0Q z n).toArray:=by
   apply Array.ext'
   have:=h0i zv.cells n (by omega)
   rw [hzs,hvz] at this
   rw [hzs];simpa using this
  refine a0F.made hR hT hfl e r r'.toArray (by simp;omega) (by simpa [hlen'] using h2) _ (.slice (some ⟨w.heap.size,0,none⟩) n n) ?_
   (g0C hR _ e n n n size (c0Z hs) (fun _=>rfl) (Q0W _) (by simp;omega))
  have hcond:¬ (n * size > 2 ^ 24):=by omega
  simp only [execOp,ho,Instr.buildSlice,Sem.run_bind,run_underlying hu,Result.andThen_ok,c0o hs]
  simp only [hcond,R0K,Sem.run_pure]
  by_cases h0:n * size=0
  ·have hn:n=0:=by
    rcases Nat.mul_eq_zero.1 h0 with h | h
    ·exact h
    ·omega
   subst hn
   have e0:(Array.range 0) = #[]:=rfl
   simp [b0Q] at h1
   simp [h1,newRow,e0]
  ·rw [R0c h0]
   simp only [Sem.run_bind,hrun,Result.andThen_ok,Sem.run_pure,hmade]
   simp [h1,newRow]
end
end
end Go.Proofs.YtacninhfdfhgjaaGreat.AI
