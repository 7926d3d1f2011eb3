/- Part 1 of the proof. -/
import Derived.Calls
import Derived.Laws.AppendOwn
import Derived.Laws.MakeOwn
import Derived.Laws.Build
import Derived.Laws.Strings
import Derived.Laws.BytesArg
set_option linter.unusedVariables false
set_option linter.unusedSimpArgs false
set_option linter.unusedSectionVars false
namespace Go.Proofs.YtgopfcmbofkmmaaGreat
abbrev M1P:=@Option.bind_eq_some_iff
abbrev M1Q:=@Option.some.injEq
abbrev M1R:=@List.getD_eq_getElem?_getD
abbrev M1S:=@Option.bind_eq_bind
abbrev M1T:=@Option.pure_def
abbrev M1U:=@Nat.le_refl
abbrev M1V:=@if_neg
abbrev M1W:=@Bool.and_eq_true
abbrev M1X:=@List.getElem?_eq_getElem
abbrev M1Y:=@Array.getD_eq_getD_getElem?
abbrev M1Z:=@if_pos
abbrev N1a:=@Nat.mul_add
abbrev N1b:=@List.getElem?_eq_some_iff
abbrev N1c:=@List.take_of_length_le
abbrev N1d:=@List.getElem?_eq_none
abbrev N1e:=@Nat.mul_le_mul_right
abbrev N1f:=@List.take_length
abbrev N1g:=@Bool.false_eq_true
abbrev N1h:=@Nat.mul_assoc
abbrev N1i:=@absurd
abbrev N1j:=@List.getElem_mem
abbrev N1k:=@Nat.lt_of_lt_of_le
abbrev N1l:=@Array.getElem?_setIfInBounds
abbrev N1m:=@Nat.pow_succ
abbrev N1n:=@Nat.le_trans
abbrev N1o:=@Nat.mod_eq_of_lt
abbrev N1p:=@Nat.mul_comm
abbrev N1q:=@Nat.zero_add
abbrev N1r:=@List.length_eq_zero_iff
abbrev N1s:=@decide_eq_true_eq
abbrev N1t:=@Nat.add_mul
abbrev N1u:=@List.all_cons
abbrev N1v:=@Array.getElem?_eq_getElem
abbrev N1w:=@Nat.mul_le_mul_left
abbrev N1x:=@List.take_succ_eq_append_getElem
abbrev N1y:=@Array.getElem?_eq_some_iff
abbrev N1z:=@Option.map_eq_some_iff
abbrev N1A:=@Array.toArray_toList
abbrev N1B:=@List.mem_append
abbrev N1C:=@List.getElem?_set
abbrev N1D:=@Option.getD_some
abbrev N1E:=@if_true
abbrev N1F:=@Classical.byContradiction
abbrev N1G:=@if_false
abbrev N1H:=@List.all_eq_true
abbrev N1I:=@List.length_cons
abbrev N1J:=@Nat.min_eq_left
abbrev N1K:=@Nat.zero_le
abbrev N1L:=@Bool.or_eq_true
abbrev N1M:=@Option.map_some
abbrev N1N:=@List.mem_range
abbrev N1O:=@Nat.add_zero
abbrev N1P:=@List.drop_eq_getElem_cons
abbrev N1Q:=@List.getElem?_map
abbrev N1R:=@Nat.mod_lt
abbrev N1S:=@Array.getElem?_toList
abbrev N1T:=@Array.size_push
abbrev N1U:=@Nat.add_assoc
abbrev N1V:=@Prod.mk.injEq
abbrev N1W:=@Nat.mul_one
abbrev N1X:=@List.length_append
abbrev N1Y:=@Nat.lt_of_mul_lt_mul_left
abbrev N1Z:=@List.length_take
abbrev O1a:=@Array.length_toList
abbrev O1b:=@Nat.div_lt_iff_lt_mul
abbrev O1c:=@List.drop_zero
abbrev O1d:=@Bool.eq_iff_iff
abbrev O1e:=@Nat.one_mul
abbrev O1f:=@List.mem_cons_of_mem
abbrev O1g:=@List.all_nil
abbrev O1h:=@Int.tdiv_eq_ediv_of_nonneg
abbrev O1i:=@Array.getElem?_eq_none
abbrev O1j:=@List.getElem?_range
abbrev O1k:=@Nat.mul_le_mul
abbrev O1l:=@List.mem_singleton
abbrev O1m:=@Nat.div_eq_of_lt
abbrev O1n:=@List.mem_of_mem_take
abbrev O1o:=@List.map_cons
abbrev O1p:=@List.drop_drop
abbrev O1q:=@List.drop_take
abbrev O1r:=@List.take_take
abbrev O1s:=@Bool.not_eq_true'
abbrev O1t:=@Nat.div_add_mod
abbrev O1u:=@Nat.two_pow_add_eq_or_of_lt
abbrev O1v:=@List.getElem?_set_self
abbrev O1w:=@List.getElem?_append_right
abbrev O1x:=@Array.ext'
abbrev O1y:=@List.cons_append
abbrev O1z:=@BitVec.toNat_ofInt
abbrev O1A:=@List.getElem?_drop
abbrev O1B:=@List.mem_cons_self
abbrev O1C:=@List.getElem?_append_left
abbrev O1D:=@Option.isNone_iff_eq_none
abbrev O1E:=@Nat.pow_le_pow_right
abbrev O1F:=@Nat.mul_left_comm
abbrev O1G:=@Array.toList_append
abbrev O1H:=@Bool.true_and
abbrev O1I:=@List.getElem?_replicate
abbrev O1J:=@List.toList_toArray
abbrev O1K:=@Array.toList_inj
abbrev O1L:=@List.drop_append_of_le_length
abbrev O1M:=@List.mapM_cons
abbrev O1N:=@List.drop_eq_nil_of_le
abbrev O1O:=@List.getElem?_take
abbrev O1P:=@Nat.eq_zero_or_pos
abbrev O1Q:=@Nat.lt_of_le_of_lt
abbrev O1R:=@List.nil_append
abbrev O1S:=@Nat.pow_add
abbrev O1T:=@Nat.two_pow_pos
abbrev O1U:=@Bool.false_or
abbrev O1V:=@List.ext_getElem?
abbrev O1W:=@List.mem_cons
abbrev O1X:=@Nat.lt_of_mul_lt_mul_right
abbrev O1Y:=@Array.mapM_eq_mapM_toList
abbrev O1Z:=@List.range'_succ
abbrev P1a:=@Nat.div_add_mod'
abbrev P1b:=@Array.getElem?_push
abbrev P1c:=@Int.toNat_of_nonneg
abbrev P1d:=@List.getElem_of_mem
abbrev P1e:=@Nat.sub_zero
abbrev P1f:=@Bool.true_eq_false
abbrev P1g:=@Int.natCast_mul
abbrev P1h:=@List.mem_filter
abbrev P1i:=@List.mem_replicate
abbrev P1j:=@List.take_zero
end Go.Proofs.YtgopfcmbofkmmaaGreat
namespace Go.Proofs.YtgopfcmbofkmmaaGreat.AI
section
open Go
def unk:Nat:=18446744073709551616
inductive Blk where
 | dead
 | row (ro:Bool) (elem:TypeId) (cells:List Value)
 deriving Inhabited
abbrev a0c:=Array Blk
abbrev a0U:=List Value
inductive Opd where
 | tmp (t:Nat)
 | const (v:Value)
 | fn (f:FuncId)
 deriving Inhabited
inductive SOp where
 | mv (x:Opd)
 | pick (c a b:Opd)
 | alloc (elem:TypeId) (zero:List Value)
 | box (elem:TypeId) (x:Opd)
 | build (zero:List Value) (parts:List (Nat × Nat × Opd))
 | lit (elem:TypeId) (zero:List Value) (len:Nat) (parts:List (Nat × Nat × Opd))
 | load (agg:Bool) (n:Nat) (a:Opd)
 | store (n:Nat) (a x:Opd)
 | chk (x:Opd)
 | bin (tag:Nat) (b:BinOp) (x y:Opd)
 | un (u:UnOp) (x:Opd)
 | conv (k:IntKind) (x:Opd)
 | iface (t:TypeId) (x:Opd)
 | mkfn (fn:Fn) (first captured:List Opd)
 | mk (elem:TypeId) (bytes:Nat) (zero:List Value) (len cap:Opd)
 | sl (elem:TypeId) (size:Nat) (x:Opd) (lo hi mx:Option Opd)
 | fa (off:Nat) (a:Opd)
 | fa0 (elem:TypeId) (a:Opd)
 | fld (agg:Bool) (off n:Nat) (x:Opd)
 | ia (size:Nat) (x i:Opd)
 | ext (x:Opd) (i:Nat)
 | call (f:FuncId) (args:List Opd) (lone:Bool)
 | callv (x:Opd) (args:List Opd) (lone:Bool)
 | inv (x:Opd) (tbl:List (TypeId × FuncId)) (args:List Opd) (lone:Bool)
 | len (x:Opd)
 | cap (x:Opd)
 | mnx (big:Bool) (x:Opd) (ys:List Opd)
 | app (elem:TypeId) (size bytes:Nat) (s x:Opd)
 | appz (elem:TypeId) (bytes:Nat) (zero:List Value) (s n:Opd)
 | pan (x:Opd)
 | mkmap (t:TypeId)
 | look (z:Value) (x i:Opd)
 | mupd (x i v:Opd)
 | sop (k:Nat) (xs:List Opd)
 | b2s (x:Opd)
 deriving Inhabited
structure a0v where
 dst:Option Nat
 g:Option (Nat × Bool)
 op:SOp
 deriving Inhabited
inductive SCode where
 | skip
 | seq (a b:SCode)
 | cond (c:Opd) (a b:SCode)
 | block (id:Nat) (c:SCode)
 | loop (c:SCode)
 | exit (id:Nat)
 | ret
 | reg (ops:List a0v)
 | draw (ops:List a0v) (bef:List Nat) (pairs:List (Nat × Nat))
 deriving Inhabited
inductive SRes where
 | tmp (t:Nat)
 | cell (a:Nat) (agg:Bool) (n:Nat)
 deriving Inhabited
structure n0v where
 np:Nat
 nt:Nat
 res:List SRes
 body:SCode
 deriving Inhabited
inductive XA where
 | normal
 | exit (id:Nat)
 | ret
 deriving DecidableEq,Inhabited
inductive Res (α:Type) where
 | bad
 | pan (v:Value)
 | ok (a:α)
namespace Res
def bind {α β:Type}:Res α->(α->Res β)->Res β
 | .bad,_=>.bad
 | .pan v,_=>.pan v
 | .ok a,f=>f a
end Res
def get (t:a0U) (i:Nat):Value:=t.getD i undef
def put (t:a0U):Option Nat->Value->a0U
 | some d,v=>t.set d v
 | none,_=>t
def ev (t:a0U):Opd->Value
 | .tmp i=>get t i
 | .const v=>v
 | .fn f=>.func (.func f) #[] #[]
def a0c.bk (H:a0c) (b:Nat):Blk:=H.getD b .dead
def a0c.cells? (H:a0c) (b off n:Nat):Option (List Value) :=
 match H.bk b with
 | .row _ _ cs=>if off + n<=cs.length then some ((cs.drop off).take n) else none
 | _=>none
def a0t:Value->List Value
 | .agg cs=>cs.toList
 | v=>[v]
def a0n:Value->Bool
 | .agg _ | .tuple _=>false
 | _=>true
def b0e (cs:List Value) (off:Nat):List Value->List Value
 | []=>cs
 | v :: r=>b0e (cs.set off v) (off + 1) r
def a0c.write? (H:a0c) (fl b off:Nat) (vs:List Value):Option a0c :=
 match H.bk b with
 | .row false e cs=>if fl<=b/\off + vs.length<=cs.length/\vs.all a0n=true then some (H.setIfInBounds b (.row false e (b0e cs off vs))) else none
 | _=>none
def d0M (cells:List Value):List (Nat × Nat × Value)->Option (List Value)
 | []=>some cells
 | (off,n,v) :: r=>if (a0t v).length=n/\off + n<=cells.length then d0M (b0e cells off (a0t v)) r else none
def b0c (t:a0U) (ps:List (Nat × Nat × Opd)):List (Nat × Nat × Value):=ps.map fun p=>(p.1,p.2.1,ev t p.2.2)
def e0W (zero:List Value):Nat->List Value
 | 0=>[]
 | n + 1=>zero ++ e0W zero n
def c0k (tag:Nat) (op:BinOp) (x y:Value):Option Value :=
 match op,x,y with
 | .shl,.int k a,.int _ b=>if 0<=b then some (.int k (k.wrap (a * 2 ^ (min b.toNat k.bits)))) else none
 | .shr,.int k a,.int _ b=>if 0<=b then some (.int k (a.fdiv (2 ^ (min b.toNat k.bits)))) else none
 | op,.int k a,.int k' b =>
  if k=k' then
   match op with
   | .add=>some (.int k (k.wrap (a + b)))
   | .sub=>some (.int k (k.wrap (a - b)))
   | .mul=>some (.int k (k.wrap (a * b)))
   | .quo=>if b=0 then none else some (.int k (k.wrap (a.tdiv b)))
   | .rem=>if b=0 then none else some (.int k (a.tmod b))
   | .and=>some (.int k (k.wrap (BitVec.ofInt k.bits a &&& BitVec.ofInt k.bits b).toNat))
   | .or=>some (.int k (k.wrap (BitVec.ofInt k.bits a ||| BitVec.ofInt k.bits b).toNat))
   | .xor=>some (.int k (k.wrap (BitVec.ofInt k.bits a ^^^ BitVec.ofInt k.bits b).toNat))
   | .andNot=>none
   | .eql=>some (.bool (a == b))
   | .neq=>some (.bool (a != b))
   | .lss=>some (.bool (a < b))
   | .leq=>some (.bool (a<=b))
   | .gtr=>some (.bool (a > b))
   | .geq=>some (.bool (a ≥ b))
   | .shl | .shr=>none
  else none
 | .eql,.bool a,.bool b=>if tag=1 then some (.bool (a == b)) else none
 | .neq,.bool a,.bool b=>if tag=1 then some (.bool (a != b)) else none
 | .eql,.slice a _ _,.slice none _ _=>if tag=2 then some (.bool a.isNone) else none
 | .neq,.slice a _ _,.slice none _ _=>if tag=2 then some (.bool a.isSome) else none
 | .eql,.nilFunc,.nilFunc=>if tag=3 then some (.bool true) else none
 | .neq,.nilFunc,.nilFunc=>if tag=3 then some (.bool false) else none
 | .eql,.func _ _ _,.nilFunc=>if tag=3 then some (.bool false) else none
 | .neq,.func _ _ _,.nilFunc=>if tag=3 then some (.bool true) else none
 | .eql,.string a,.string b=>some (.bool (a.data.toList == b.data.toList))
 | .neq,.string a,.string b=>some (.bool !(a.data.toList == b.data.toList))
 | .add,.string a,.string b=>if a.data.toList.length + b.data.toList.length<=1073741824 then some (.string ⟨(a.data.toList ++ b.data.toList).toArray⟩) else none
 | _,_,_=>none
def F0h:Nat->List Value->Option Value
 | 0,[.string s]=>some (.int .i64 s.data.toList.length)
 | 1,[.string s,.int _ i]=>if 0<=i then (s.data.toList[i.toNat]?).map fun b=>.int .u8 b.toNat else none
 | 2,[.string s,.int _ i,.int _ j]=>if 0<=i/\i<=j/\j<=s.data.toList.length then some (.string ⟨((s.data.toList.take j.toNat).drop i.toNat).toArray⟩) else none
 | 3,[.string s,.int _ i]=>if 0<=i/\i<=s.data.toList.length then some (.string ⟨(s.data.toList.drop i.toNat).toArray⟩) else none
 | _,_=>none
def i0w (l:List UInt8):List Value:=l.map fun b=>.int .u8 b.toNat
def bytesOf:List Value->Option (List UInt8)
 | []=>some []
 | .int .u8 n :: r=>(bytesOf r).map (UInt8.ofNat n.toNat :: ·)
 | _=>none
def v1a (H:a0c):Value->Option Value
 | .slice none 0 0=>some (.string ⟨#[]⟩)
 | .slice (some p) n _=>match H.cells? p.block p.off n with | some cs=>(bytesOf cs).map fun l=>.string ⟨l.toArray⟩ | none=>none
 | _=>none
def unA (u:UnOp) (x:Value):Option Value :=
 match u,x with
 | .neg,.int k n=>some (.int k (k.wrap (0 - n)))
 | .xor,.int k n=>some (.int k (k.wrap (BitVec.ofInt k.bits (if k.signed then -1 else k.max) ^^^ BitVec.ofInt k.bits n).toNat))
 | .not,.bool b=>some (.bool !b)
 | _,_=>none
def mn2 (big:Bool) (a b:Int):Int:=if big then (if b > a then b else a) else (if b < a then b else a)
def t0a (bytes:Nat):Value->Value->Option Nat
 | .slice none 0 0,.int _ n=>if 0 < n/\n<=1073741824/\bytes<=1024 then some n.toNat else none
 | _,_=>none
def V0v:Value->Option Value
 | .slice none 0 0=>some (.int .i64 0)
 | _=>none
def v0t (big:Bool):Value->List Value->Option Value
 | .int k a,[]=>some (.int k a)
 | .int k a,.int _ b :: r=>v0t big (.int k (mn2 big a b)) r
 | _,_=>none
def elemOk (H:a0c) (e:TypeId):Value->Bool
 | .slice (some p) _ cap=>if cap=0 then true else match H.bk p.block with | .row true _ _=>true | .row false e' _=>e' == e | _=>false
 | _=>true
def bnd (d:Nat):Option Value->Option Nat
 | none=>some d
 | some (.int _ n)=>if 0<=n then some n.toNat else none
 | some _=>none
def d0s (size:Nat) (x:Value) (lo hi mx:Option Value):Option Value :=
 match x with
 | .slice a len cap =>
  match bnd 0 lo,bnd len hi with
  | some l,some h =>
   if l<=h/\h<=len then
    match mx with
    | none=>some (.slice (a.map fun p=>⟨p.block,p.off + l * size,none⟩) (h - l) (if cap=unk then unk else cap - l))
    | some v =>
     match bnd 0 (some v) with
     | some m=>if hi.isSome=true/\h<=m/\m<=len then some (.slice (a.map fun p=>⟨p.block,p.off + l * size,none⟩) (h - l) (m - l)) else none
     | none=>none
   else none
  | _,_=>none
 | _=>none
def b0w (H:a0c) (agg:Bool) (n:Nat) (a:Value):Option Value :=
 match a with
 | .pointer (some p) =>
  if agg=true/\n=0 then some (.agg #[]) else
  if p.spot.isSome=true then none else
  match H.cells? p.block p.off (if agg then n else 1) with
  | some cs=>if agg then some (.agg cs.toArray) else cs.head?
  | none=>none
 | _=>none
def S0r (agg:Bool) (off n:Nat):Value->Option Value
 | .agg cs=>if agg then (if off + n<=cs.size then some (.agg (cs.extract off (off + n))) else none) else cs[off]?
 | _=>none
def q0C (fl:Nat) (H:a0c) (elem:TypeId) (size bytes:Nat) (base:Option Addr) (len cap n:Nat) (new:List Value):Option (Value × a0c) :=
 if new.all a0n=false then none else
 match base with
 | none=>if len=0/\cap=0 then some (.slice (some ⟨H.size,0,none⟩) n unk,H.push (.row false elem new)) else none
 | some sp =>
  if len=0/\cap=0 then some (.slice (some ⟨H.size,0,none⟩) n unk,H.push (.row false elem new)) else
  match H.cells? sp.block sp.off (len * size) with
  | none=>none
  | some old =>
   if cap ≠ unk/\cap < len + n then some (.slice (some ⟨H.size,0,none⟩) (len + n) unk,H.push (.row false elem (old ++ new)))
   else
    match H.bk sp.block with
    | .row false e _ =>
     if e=elem/\fl<=sp.block then some (.slice (some ⟨H.size,0,none⟩) (len + n) unk,(H.setIfInBounds sp.block .dead).push (.row false elem (old ++ new)))
     else none
    | _=>none
def n0w (fl:Nat) (H:a0c) (elem:TypeId) (size bytes:Nat) (s x:Value):Option (Value × a0c) :=
 match s,x with
 | .slice base len cap,.slice xb n _ =>
  if n=0 then some (.slice base len cap,H) else
  if len + n<=1073741824/\bytes<=1024/\0 < size then
   match xb with
   | none=>none
   | some xp =>
    match H.cells? xp.block xp.off (n * size) with
    | none=>none
    | some new=>q0C fl H elem size bytes base len cap n new
  else none
 | .slice base len cap,.string b =>
  if b.data.toList.length=0 then some (.slice base len cap,H) else
  if len + b.data.toList.length<=1073741824/\bytes<=1024/\size=1 then q0C fl H elem size bytes base len cap b.data.toList.length (i0w b.data.toList)
  else none
 | _,_=>none
def m0v (z:Value) (k:IntKind) (n:Int):List Value->Option Value
 | []=>some z
 | .int k' n' :: v :: r=>if k=k' then (if n=n' then some v else m0v z k n r) else none
 | _=>none
def S0H (k:IntKind) (n:Int) (x:Value):List Value->Option (List Value)
 | []=>some [.int k n,x]
 | .int k' n' :: v :: r=>if k=k' then (if n=n' then some (.int k n :: x :: r) else (S0H k n x r).map fun r'=>.int k' n' :: v :: r') else none
 | _=>none
def p0g (H:a0c) (z:Value):Value->Value->Option Value
 | .map (some b),.int k n=>match H.bk b with | .row _ _ cs=>m0v z k n cs | _=>none
 | _,_=>none
def k0E (fl:Nat) (H:a0c) (m i x:Value):Option a0c :=
 match m,i with
 | .map (some b),.int k n =>
  match H.bk b with
  | .row false e cs=>if fl<=b/\a0n x=true then (S0H k n x cs).map fun cs'=>H.setIfInBounds b (.row false e cs') else none
  | _=>none
 | _,_=>none
inductive OpRes where
 | bad
 | val (v:Value) (H:a0c)
 | pan (v:Value)
 | call (f:FuncId) (args:List Value) (lone:Bool)
def a0R (H:a0c):Option Value->OpRes
 | some v=>.val v H
 | none=>.bad
def f0P:Option (Value × a0c)->OpRes
 | some (v,H)=>.val v H
 | none=>.bad
def opA (fl:Nat) (t:a0U) (H:a0c):SOp->OpRes
 | .mv x=>.val (ev t x) H
 | .pick c a b=>match ev t c with | .bool true=>.val (ev t a) H | .bool false=>.val (ev t b) H | _=>.bad
 | .alloc e z=>.val (.pointer (some ⟨H.size,0,none⟩)) (H.push (.row false e z))
 | .box e x=>.val (.pointer (some ⟨H.size,0,none⟩)) (H.push (.row false e (a0t (ev t x))))
 | .build z ps=>a0R H ((d0M z (b0c t ps)).map fun cs=>.agg cs.toArray)
 | .lit e z n ps =>
  match d0M (e0W z n) (b0c t ps) with
  | some cs=>.val (.slice (some ⟨H.size,0,none⟩) n n) (H.push (.row false e cs))
  | none=>.bad
 | .load agg n a=>a0R H (b0w H agg n (ev t a))
 | .store n a x =>
  match ev t a with
  | .pointer (some p) =>
   if p.spot.isSome=true ∨ (a0t (ev t x)).length ≠ n then .bad else
   match H.write? fl p.block p.off (a0t (ev t x)) with
   | some H'=>.val undef H'
   | none=>.bad
  | _=>.bad
 | .chk x =>
  match ev t x with
  | .pointer (some a)=>.val (.pointer (some a)) H
  | .func (.func f) a b=>.val (.func (.func f) a b) H
  | .iface a b=>.val (.iface a b) H
  | _=>.bad
 | .bin tag b x y=>a0R H (c0k tag b (ev t x) (ev t y))
 | .un u x=>a0R H (unA u (ev t x))
 | .conv k x=>match ev t x with | .int _ n=>.val (.int k (k.wrap n)) H | _=>.bad
 | .iface ty x=>.val (.iface ty (ev t x)) H
 | .mkfn f a b=>.val (.func f (a.map (ev t)).toArray (b.map (ev t)).toArray) H
 | .mk e bytes z len cap =>
  match ev t len,ev t cap with
  | .int _ l,.int _ c =>
   if 0<=l/\l<=c/\c<=1073741824/\bytes<=1024 then .val (.slice (some ⟨H.size,0,none⟩) l.toNat c.toNat) (H.push (.row false e (e0W z l.toNat))) else .bad
  | _,_=>.bad
 | .sl e size x lo hi mx=>if elemOk H e (ev t x)=false then .bad else a0R H (d0s size (ev t x) (lo.map (ev t)) (hi.map (ev t)) (mx.map (ev t)))
 | .fa off a=>match ev t a with | .pointer (some p)=>if p.spot.isSome=true then .bad else .val (.pointer (some ⟨p.block,p.off + off,none⟩)) H | _=>.bad
 | .fa0 e a =>
  match ev t a with
  | .pointer (some p) =>
   match H.bk p.block with
   | .row false e' _=>if p.spot.isSome=false/\e' = e/\p.off=0 then .val (.pointer (some ⟨p.block,0,none⟩)) H else .bad
   | _=>.bad
  | _=>.bad
 | .fld agg off n x=>a0R H (S0r agg off n (ev t x))
 | .ia size x i =>
  match ev t x,ev t i with
  | .slice (some p) n _,.int _ j=>if 0<=j/\j < n then .val (.pointer (some ⟨p.block,p.off + j.toNat * size,none⟩)) H else .bad
  | _,_=>.bad
 | .ext x i=>match ev t x with | .tuple vs=>a0R H vs[i]? | _=>.bad
 | .call f args lone=>.call f (args.map (ev t)) lone
 | .callv x args lone=>match ev t x with | .func (.func f) first captured=>.call f (first.toList ++ args.map (ev t) ++ captured.toList) lone | _=>.bad
 | .inv x tbl args lone =>
  match ev t x with
  | .iface ty v=>match tbl.lookup ty with | some f=>.call f (v :: args.map (ev t)) lone | none=>.bad
  | _=>.bad
 | .len x=>match ev t x with | .slice _ n _=>.val (.int .i64 n) H | _=>.bad
 | .cap x=>a0R H (V0v (ev t x))
 | .mnx big x ys=>a0R H (v0t big (ev t x) (ys.map (ev t)))
 | .app e size bytes s x=>f0P (n0w fl H e size bytes (ev t s) (ev t x))
 | .appz e bytes z s x=>match t0a bytes (ev t s) (ev t x) with | some n=>.val (.slice (some ⟨H.size,0,none⟩) n unk) (H.push (.row false e (e0W z n))) | none=>.bad
 | .pan x=>match ev t x with | .iface a b=>.pan (.iface a b) | _=>.bad
 | .mkmap t=>.val (.map (some H.size)) (H.push (.row false t []))
 | .look z x i=>a0R H (p0g H z (ev t x) (ev t i))
 | .mupd m i x=>match k0E fl H (ev t m) (ev t i) (ev t x) with | some H'=>.val undef H' | none=>.bad
 | .sop k xs=>a0R H (F0h k (xs.map (ev t)))
 | .b2s x=>a0R H (v1a H (ev t x))
def blkOf:Value->List Nat
 | .pointer (some p)=>[p.block]
 | .slice (some p) _ _=>[p.block]
 | .map (some b)=>[b]
 | _=>[]
def blkW:Value->List Nat
 | .slice (some p) len cap=>if len=0/\cap=0 then [] else [p.block]
 | _=>[]
def c0j (t:a0U):SOp->List Nat × List Nat
 | .load _ _ a=>(blkOf (ev t a),[])
 | .store _ a _=>([],blkOf (ev t a))
 | .app _ _ _ s x=>(blkOf (ev t x),blkW (ev t s))
 | .sl _ _ x _ _ _=>(blkOf (ev t x),[])
 | .fa0 _ x=>(blkOf (ev t x),[])
 | .look _ x _=>(blkOf (ev t x),[])
 | .mupd x _ _=>([],blkOf (ev t x))
 | .b2s x=>(blkOf (ev t x),[])
 | _=>([],[])
def l0P (a b:Addr):Bool:=a.block == b.block && a.off == b.off && a.spot.isNone && b.spot.isNone
def K1K:Value->Value->Bool
 | .bool a,.bool b=>a == b
 | .int k a,.int k' b=>decide (k=k') && a == b
 | .string a,.string b=>a.data.toList == b.data.toList
 | .pointer none,.pointer none=>true
 | .pointer (some a),.pointer (some b)=>l0P a b
 | .slice none n c,.slice none n' c'=>n == n' && c == c'
 | .slice (some a) n c,.slice (some b) n' c'=>l0P a b && n == n' && c == c'
 | .map none,.map none=>true
 | .map (some a),.map (some b)=>a == b
 | .nilFunc,.nilFunc=>true
 | .nilIface,.nilIface=>true
 | _,_=>false
def G1S:List Value->List Value->Bool
 | [],[]=>true
 | v :: r,v' :: r'=>K1K v v' && G1S r r'
 | _,_=>false
def n0c:Blk->Blk->Bool
 | .dead,.dead=>true
 | .row r e cs,.row r' e' cs'=>r == r' && e == e' && G1S cs cs'
 | _,_=>false
def G0i (H H':a0c):List Nat:=(List.range H.size).filter fun b=>!n0c (H.bk b) (H'.bk b)
def a0W:SOp->Bool
 | .call _ _ b | .callv _ _ b | .inv _ _ _ b=>b
 | _=>false
def e0B (t:a0U) (op:SOp) (H H':a0c):List Nat × List Nat :=
 match a0W op with
 | true=>([],G0i H H')
 | false=>c0j t op
def a0Q (t:a0U):Option (Nat × Bool)->Bool
 | none=>true
 | some (j,want)=>match get t j with | .bool b=>b == want | _=>false
def t0e (a b:List Nat):Bool:=a.any b.contains
def c0u (log:List (List Nat × List Nat)) (pairs:List (Nat × Nat)):Bool :=
 pairs.all fun p =>
  let x:=log.getD p.1 ([],[])
  let y:=log.getD p.2 ([],[])
  !t0e x.2 y.1 && !t0e x.2 y.2 && !t0e x.1 y.2
def j0u (bef:List Nat) (i:Nat):Option (Nat × Value)->Bool
 | some (j,_)=>(bef.getD i 0).testBit j
 | none=>false
inductive Out where
 | bad
 | pan (v:Value)
 | fin (e:XA) (t:a0U) (H:a0c)
section
variable (call:Nat->FuncId->List Value->a0c->Res (Value × a0c))   -- floor,function,arguments,heap
def b0i (fl:Nat) (t:a0U) (H:a0c) (o:SOp):Res (Value × a0c) :=
 match opA fl t H o with
 | .bad=>.bad
 | .pan v=>.pan v
 | .val v H'=>.ok (v,H')
 | .call f args lone=>call (if lone then fl else max fl H.size) f args H
def f0h (fl:Nat):List a0v->a0U->a0c->Out
 | [],t,H=>.fin .normal t H
 | o :: r,t,H =>
  if a0Q t o.g then
   match b0i call fl t H o.op with
   | .bad=>.bad
   | .pan v=>.pan v
   | .ok (v,H')=>f0h fl r (put t o.dst v) H'
  else f0h fl r (put t o.dst undef) H
def b0T (fl:Nat) (bef:List Nat) (pairs:List (Nat × Nat)):Nat->List a0v->a0U->a0c->Option (Nat × Value)->List (List Nat × List Nat)->Out
 | _,[],t,H,p,log =>
  if c0u log.reverse pairs then
   match p with
   | none=>.fin .normal t H
   | some (_,v)=>.pan v
  else .bad
 | i,o :: r,t,H,p,log =>
  if j0u bef i p=true then b0T fl bef pairs (i + 1) r t H p (([],[]) :: log) else
  if a0Q t o.g then
   match b0i call fl t H o.op with
   | .bad=>.bad
   | .pan v=>match p with | none=>b0T fl bef pairs (i + 1) r t H (some (i,v)) (([],[]) :: log) | some _=>.bad
   | .ok (v,H')=>b0T fl bef pairs (i + 1) r (put t o.dst v) H' p (e0B t o.op H H' :: log)
  else b0T fl bef pairs (i + 1) r (put t o.dst undef) H p (([],[]) :: log)
def a0K (fl:Nat):Nat->SCode->a0U->a0c->Out
 | 0,_,_,_=>.bad
 | n + 1,c,t,H =>
  match c with
  | .skip=>.fin .normal t H
  | .exit id=>.fin (.exit id) t H
  | .ret=>.fin .ret t H
  | .seq a b =>
   match a0K fl n a t H with
   | .fin .normal t' H'=>a0K fl n b t' H'
   | r=>r
  | .cond c a b =>
   match ev t c with
   | .bool true=>a0K fl n a t H
   | .bool false=>a0K fl n b t H
   | _=>.bad
  | .block id c =>
   match a0K fl n c t H with
   | .fin (.exit id') t' H'=>if id' = id then .fin .normal t' H' else .fin (.exit id') t' H'
   | r=>r
  | .loop c =>
   match a0K fl n c t H with
   | .fin .normal t' H'=>a0K fl n (.loop c) t' H'
   | r=>r
  | .reg ops=>f0h call fl ops t H
  | .draw ops bef pairs=>b0T call fl bef pairs 0 ops t H none []
end
def q0j (H:a0c) (t:a0U):SRes->Option Value
 | .tmp i=>some (get t i)
 | .cell a agg n=>b0w H agg n (get t a)
def c0N (H:a0c) (t:a0U):List SRes->Option (List Value)
 | []=>some []
 | r :: rs=>match q0j H t r,c0N H t rs with | some v,some vs=>some (v :: vs) | _,_=>none
def b0K:List Value->Value
 | [v]=>v
 | vs=>.tuple vs.toArray
structure F0I where
 f:FuncId
 solved:FuncId
 zero:List Value
 np:Nat
 ns:Nat
 deriving Inhabited
structure Env where
 code:FuncId->Option n0v
 quick:Option F0I
 prim:FuncId->List Value->(Nat->Blk)->Nat->Option (Value × List Blk):=fun _ _ _ _=>none
def pushes (H:a0c) (bs:List Blk):a0c:=bs.foldl Array.push H
def d0I (z:List Value) (H:a0c):Res (Value × a0c)->Res (Value × a0c)
 | .bad=>.bad
 | .pan (.iface _ _)=>.ok (.tuple #[.agg z.toArray,.int .i64 0,.bool false],H)
 | .pan _=>.bad
 | .ok (.tuple vs,H')=>match vs.toList with | [.agg a,.int k n]=>if a.size=z.length/\a.toList.all a0n=true then .ok (.tuple #[.agg a,.int k n,.bool true],H') else .bad | _=>.bad
 | .ok _=>.bad
def a0M (E:Env):Nat->Nat->FuncId->List Value->a0c->Res (Value × a0c)
 | 0,_,_,_,_=>.bad
 | n + 1,fl,f,args,H =>
  match E.code f with
  | none =>
   match E.prim f args H.bk H.size with
   | some (v,bs)=>.ok (v,pushes H bs)
   | none =>
   match E.quick with
   | some q =>
    if f=q.f then
     match args with
     | [.agg p,.agg s]=>if p.size=q.np/\s.size=q.ns then d0I q.zero H (a0M E n (max fl H.size) q.solved [.agg #[],.agg p,.agg s] H) else .bad
     | _=>.bad
    else .bad
   | none=>.bad
  | some sf =>
   if args.length=sf.np then
    match a0K (a0M E n) fl n sf.body (args ++ List.replicate (sf.nt - args.length) undef) H with
    | .bad=>.bad
    | .pan v=>.pan v
    | .fin e t H' =>
     match e with
     | .exit _=>.bad
     | _ =>
      match c0N H' t sf.res with
      | some vs=>.ok (b0K vs,H')
      | none=>.bad
   else .bad
def b0s:Operand->Option Opd
 | .tmp t=>some (.tmp t)
 | .const v=>some (.const v)
 | .func f=>some (.fn f)
 | .global _=>none
def i0I (l:List Operand):Option (List Opd):=l.mapM b0s
def o0R:Option Operand->Option (Option Opd)
 | none=>some none
 | some x=>(b0s x).map some
def r0g:Value->Bool
 | .bool _ | .int _ _ | .string _ | .pointer none | .slice none 0 0 | .nilFunc | .nilIface | .map none=>true
 | .func (.func _) a b=>a.size == 0 && b.size == 0
 | _=>false
def a0s:Opd->Bool
 | .const v=>r0g v || (match v with | .agg cs=>cs.toList.all r0g | _=>false)
 | _=>true
def a0g:SOp->List Opd
 | .mv x | .box _ x | .load _ _ x | .chk x | .un _ x | .conv _ x | .iface _ x | .fa _ x | .fa0 _ x | .fld _ _ _ x | .ext x _ | .len x | .cap x | .pan x=>[x]
 | .mkmap _=>[]
 | .pick a b c=>[a,b,c]
 | .alloc _ _=>[]
 | .build _ ps | .lit _ _ _ ps=>ps.map (·.2.2)
 | .store _ a x | .bin _ _ a x | .mk _ _ _ a x | .ia _ a x | .app _ _ _ a x | .appz _ _ _ a x | .look _ a x=>[a,x]
 | .mupd a b c=>[a,b,c]
 | .sop _ xs=>xs
 | .b2s x=>[x]
 | .mnx _ x ys=>x :: ys
 | .mkfn _ a b=>a ++ b
 | .sl _ _ x lo hi mx=>[x] ++ lo.toList ++ hi.toList ++ mx.toList
 | .call _ as _=>as
 | .callv x as _ | .inv x _ as _=>x :: as
def j0R (P:Program) (t:TypeId):Bool:=match P.underlying t with | some (.int _)=>true | _=>false
def l0c (P:Program) (t:TypeId):Option Bool :=
 match P.underlying t with
 | some (.struct _) | some (.array _ _)=>some true
 | some _=>some false
 | none=>none
def g0N (P:Program) (t:TypeId):Bool:=match P.underlying t with | some .string=>true | _=>false
def c0E (P:Program) (t:TypeId):Option Nat:=(P.info? t).map (·.size)
def j0L (P:Program) (t:TypeId):Option Nat:=(P.info? t).map (·.bytes)
def k0S (P:Program) (t:TypeId):Option (List Value) :=
 match (P.info? t).bind (·.zero) with
 | some v=>if (a0t v).all r0g then some (a0t v) else none
 | none=>none
def h0N (P:Program) (t:TypeId):Option TypeId:=match P.underlying t with | some (.slice e)=>some e | _=>none
def g0e (P:Program) (t:TypeId):Option (List Field):=match P.underlying t with | some (.struct fs)=>some fs.toList | _=>none
def u1p (P:Program) (t:TypeId):Option IntKind:=match P.underlying t with | some (.int k)=>some k | _=>none
def s0q (P:Program) (f:FuncId):Bool :=
 match P.funcs[f]? with
 | some fn=>!(fn.name == "runtime.NumGoroutine") && fn.body.isSome
 | none=>false
def S0d (d:TypeDesc):Nat:=match d with | .bool=>1 | .slice _=>2 | .func _ _ _=>3 | _=>0
def t0g (P:Program) (name:String):List (TypeId × FuncId) :=
 (List.range P.types.size).filterMap fun t =>
  match P.info? t with
  | some i =>
   match i.methods.find? (·.name == name) with
   | some m =>
    match m.func,P.underlying t with
    | some (f,false),some (.struct _)=>if m.path.isEmpty && s0q P f then some (t,f) else none
    | _,_=>none
   | none=>none
  | none=>none
def m0e (P:Program) (fs:List Field):List (Nat × Operand)->Option (List (Nat × Nat × Opd))
 | []=>some []
 | p :: r =>
  match fs[p.1]? with
  | none=>none
  | some f =>
   match c0E P f.type,b0s p.2,m0e P fs r with
   | some n,some x,some l=>some ((f.offset,n,x) :: l)
   | _,_,_=>none
def j0q (size:Nat):List (Nat × Operand)->Option (List (Nat × Nat × Opd))
 | []=>some []
 | p :: r =>
  match b0s p.2,j0q size r with
  | some x,some l=>some ((p.1 * size,size,x) :: l)
  | _,_=>none
def cOp (P:Program) (lone:Bool):Op->Option SOp
 | .move x | .assign x=>(b0s x).map .mv
 | .pick c a b=>do pure (.pick (<- b0s c) (<- b0s a) (<- b0s b))
 | .alloc e=>do pure (.alloc e (<- k0S P e))
 | .box e x=>do pure (.box e (<- b0s x))
 | .build t ps=>do
  let fs <- g0e P t
  if (fs.all fun f=>(c0E P f.type).isSome) then pure (.build (<- k0S P t) (<- m0e P fs ps.toList)) else none
 | .buildSlice t n ps=>do
  let e <- h0N P t
  let size <- c0E P e
  let z <- k0S P e
  if size=z.length/\0 < size/\n * size<=16777216 then pure (.lit e z n (<- j0q size ps.toList)) else none
 | .load t a=>do pure (.load (<- l0c P t) (<- c0E P t) (<- b0s a))
 | .store t a x=>do pure (.store (<- c0E P t) (<- b0s a) (<- b0s x))
 | .nilCheck x=>do pure (.chk (<- b0s x))
 | .binOp b t x y _=>do
  let d <- P.underlying t
  pure (.bin (S0d d) b (<- b0s x) (<- b0s y))
 | .unOp u _ x=>do pure (.un u (<- b0s x))
 | .convert s d x =>
  match P.underlying s,P.underlying d with
  | some (.int _),some (.int k)=>do pure (.conv k (<- b0s x))
  | some (.slice e),some .string=>match P.underlying e with | some (.int .u8)=>do pure (.b2s (<- b0s x)) | _=>none
  | _,_=>none
 | .makeInterface t x =>
  match P.underlying t with
  | some (.interface _) | none=>none
  | some _=>do pure (.iface t (<- b0s x))
 | .makeFunc f a b=>match f with | .func _=>do pure (.mkfn f (<- i0I a.toList) (<- i0I b.toList)) | _=>none
 | .makeSlice t l c=>do
  let e <- h0N P t
  let size <- c0E P e
  let z <- k0S P e
  if size=z.length/\0 < size then pure (.mk e (<- j0L P e) z (<- b0s l) (<- b0s c)) else none
 | .slice t x lo hi mx =>
  if g0N P t=true then
   match hi,mx with
   | some h,none=>do pure (.sop 2 [<- b0s x,<- b0s (lo.getD (.const (.int .i64 0))),<- b0s h])
   | none,none=>do pure (.sop 3 [<- b0s x,<- b0s (lo.getD (.const (.int .i64 0)))])
   | _,_=>none
  else do
  let e <- h0N P t
  pure (.sl e (<- c0E P e) (<- b0s x) (<- o0R lo) (<- o0R hi) (<- o0R mx))
 | .index t x i=>if g0N P t=true then do pure (.sop 1 [<- b0s x,<- b0s i]) else none
 | .fieldAddr s a i=>do
  let fs <- g0e P s
  let f <- fs[i]?
  let n <- c0E P f.type
  if n=0 then (if f.offset=0/\f.byteOffset=0/\((List.range (P.cellsOf s)).all fun k=>(byteOfCell P P.depth s k).isSome)=true/\P.cellsOf s ≠ 0 then do pure (.fa0 s (<- b0s a)) else none) else pure (.fa f.offset (<- b0s a))
 | .field t x i=>do
  let fs <- g0e P t
  let f <- fs[i]?
  pure (.fld (<- l0c P f.type) f.offset (<- c0E P f.type) (<- b0s x))
 | .indexAddr t x i=>do
  let e <- h0N P t
  pure (.ia (<- c0E P e) (<- b0s x) (<- b0s i))
 | .extract x i=>do pure (.ext (<- b0s x) i)
 | .call { callee:=.builtin b,args,argTypes } =>
  match b,args.toList,argTypes.toList with
  | .len,[x],[t] =>
   if g0N P t=true then do pure (.sop 0 [<- b0s x]) else do
   let _ <- h0N P t
   pure (.len (<- b0s x))
  | .cap,[x],[t]=>do
   let _ <- h0N P t
   pure (.cap (<- b0s x))
  | .max,x :: ys,_=>do pure (.mnx true (<- b0s x) (<- i0I ys))
  | .min,x :: ys,_=>do pure (.mnx false (<- b0s x) (<- i0I ys))
  | .append,[s,x],[t,u]=>do
   let e <- h0N P t
   let size <- c0E P e
   let z <- k0S P e
   if size=z.length/\0 < size/\(u=t ∨ g0N P u=true) then pure (.app e size (<- j0L P e) (<- b0s s) (<- b0s x))
   else if size=z.length/\0 < size/\j0R P u=true then pure (.appz e (<- j0L P e) z (<- b0s s) (<- b0s x)) else none
  | _,_,_=>none
 | .call { callee:=.value (.func f),args,.. }=>if s0q P f then do pure (.call f (<- i0I args.toList) lone) else none
 | .call { callee:=.value x,args,.. }=>do pure (.callv (<- b0s x) (<- i0I args.toList) lone)
 | .call { callee:=.invoke x name,args,.. }=>do pure (.inv (<- b0s x) (t0g P name) (<- i0I args.toList) lone)
 | .panic x=>do pure (.pan (<- b0s x))
 | .makeMap t none=>some (.mkmap t)
 | .lookup t x i false =>
  match P.underlying t with
  | some (.map k e) =>
   if j0R P k=true then
    match (P.info? e).bind (·.zero) with
    | some v=>if r0g v then do pure (.look v (<- b0s x) (<- b0s i)) else none
    | none=>none
   else none
  | _=>none
 | .mapUpdate t m i x =>
  match P.underlying t with
  | some (.map k _)=>if j0R P k=true then do pure (.mupd (<- b0s m) (<- b0s i) (<- b0s x)) else none
  | _=>none
 | _=>none
def g0V (P:Program) (ops:Array Oper) (lone:Bool) (o:Oper):Option a0v:=do
 let op <- cOp P lone o.op
 if (a0g op).all a0s then
  match o.guard with
  | none=>pure { dst:=o.dst,g:=none,op }
  | some (j,want)=>do
   let oj <- ops[j]?
   let d <- oj.dst
   pure { dst:=o.dst,g:=some (d,want),op }
 else none
def way:SOp->Nat
 | .load _ _ _ | .sl _ _ _ _ _ _ | .fa0 _ _ | .look _ _ _ | .b2s _=>1
 | .store _ _ _ | .app _ _ _ _ _ | .mupd _ _ _=>2
 | .call _ _ _ | .callv _ _ _ | .inv _ _ _ _=>3
 | .alloc _ _ | .box _ _ | .lit _ _ _ _ | .mk _ _ _ _ _ | .appz _ _ _ _ _ | .mkmap _=>4
 | _=>0
def F1n:Opd->Option Nat
 | .tmp t=>some t
 | _=>none
def i0U (o:Oper) (s:a0v):List Nat :=
 (a0g s.op).filterMap F1n ++ (match s.g with | some (j,_)=>[j] | none=>[]) ++ o.op.operands.toList.filterMap (fun | .tmp t=>some t | _=>none)
def a0T (bef:List Nat) (i j:Nat):Bool:=(bef.getD j 0).testBit i
def o0E (x y:a0v) (ux uy:List Nat):Bool :=
 (match x.dst with | some d=>!uy.contains d && y.dst != some d | none=>true) &&
 (match y.dst with | some d=>!ux.contains d | none=>true)
def v0r (x y:Nat):Bool:=!((x == 3 && y == 2) || (x == 2 && y == 3))
def l0G (n:Nat):List (Nat × Nat):=(List.range n).flatMap fun j=>(List.range j).map fun i=>(i,j)
def S0z (bef:List Nat) (ws:List Nat) (k:Nat):Bool :=
 (List.range ws.length).all fun i=>i == k || ws.getD i 0 == 0 || a0T bef i k || a0T bef k i
def z0t (bef:List Nat) (ws:List Nat) (k:Nat):Bool :=
 (List.range ws.length).all fun i=>i == k || ws.getD i 0 == 0 || ws.getD i 0 == 1 || a0T bef i k || a0T bef k i
def K1l (P:Program):Op->Bool
 | .call { callee:=.value (.func f),.. } =>
  match P.funcs[f]? with
  | some fn=>(match fn.params[0]? with | some t=>(match P.underlying t with | some (.pointer _)=>true | _=>false) | none=>false)
  | none=>false
 | _=>false
def H0q (P:Program) (bef ws:List Nat) (k:Nat) (op:Op):Bool:=S0z bef ws k || (K1l P op && z0t bef ws k)
def g0K:Op->Nat
 | .load _ _ | .slice _ _ _ _ _ | .fieldAddr _ _ _ | .lookup _ _ _ _ | .convert _ _ _=>1
 | .store _ _ _ | .mapUpdate _ _ _ _=>2
 | .call { callee:=.builtin b,.. }=>match b with | .append=>2 | _=>0
 | .call _=>3
 | .alloc _ | .box _ _ | .buildSlice _ _ _ | .makeSlice _ _ _ | .makeMap _ _=>4
 | _=>0
def V0E (ops:Array Oper) (bef:List Nat):Bool :=
 (List.range ops.size).all fun j =>
  match ops[j]? with
  | some o=>(o.after.toList.all fun e=>!Region.binds .any e || e.on < j) &&
    bef.getD j 0 == (o.after.toList.foldl (fun s e=>if Region.binds .any e then s ||| 2 ^ e.on ||| bef.getD e.on 0 else s) 0)
  | none=>false
def A0c (ops:Array Oper) (l:List a0v) (p:Nat × Nat):Bool :=
 match ops[p.1]?,ops[p.2]?,l[p.1]?,l[p.2]? with
 | some o1,some o2,some x,some y=>o0E x y (i0U o1 x) (i0U o2 y) && v0r (way x.op) (way y.op)
 | _,_,_,_=>false
def f0T (l:List a0v) (p:Nat × Nat):Bool :=
 match l[p.1]?,l[p.2]? with
 | some x,some y=>(way x.op == 2 && way y.op != 0) || (way y.op == 2 && way x.op != 0) || (a0W x.op && way y.op == 1) || (a0W y.op && way x.op == 1)
 | _,_=>false
def j0Y (o:Oper):Bool:=match o.op with | .select _ _=>false | _=>true
def q0I (P:Program) (ops:Array Oper) (bef ws:List Nat):Nat->List Oper->Option (List a0v)
 | _,[]=>some []
 | k,o :: r =>
  match g0V P ops (H0q P bef ws k o.op) o,q0I P ops bef ws (k + 1) r with
  | some x,some l=>some (x :: l)
  | _,_=>none
def y0j (P:Program) (ops:Array Oper):Option SCode:=do
 let bef:=(Region.before ops).toList
 let ws:=ops.toList.map fun o=>g0K o.op
 let l <- q0I P ops bef ws 0 ops.toList
 let un:=(l0G ops.size).filter fun p=>!a0T bef p.1 p.2
 if V0E ops bef=true/\un.all (A0c ops l)=true/\ops.toList.all j0Y=true then pure (.draw l bef (un.filter (f0T l))) else none
def d0f (P:Program):Code->Option SCode
 | .skip | .label _=>some .skip
 | .seq a b=>do pure (.seq (<- d0f P a) (<- d0f P b))
 | .cond c a b=>do
  let c <- b0s c
  if a0s c then pure (.cond c (<- d0f P a) (<- d0f P b)) else none
 | .block id c=>do pure (.block id (<- d0f P c))
 | .scope c=>do pure (.seq .skip (<- d0f P c))
 | .loop c=>do pure (.loop (<- d0f P c))
 | .exit id=>some (.exit id)
 | .ret=>some .ret
 | .region _ ops false=>do pure (.reg (<- ops.toList.mapM fun o=>g0V P ops true o))
 | .region _ ops true=>y0j P ops
 | _=>none
def v1i (P:Program):ResultVar->Option SRes
 | .tmp t=>some (.tmp t)
 | .cell a t=>do pure (.cell a (<- l0c P t) (<- c0E P t))
def a0o (P:Program) (f:FuncId):Option n0v :=
 match P.funcs[f]? with
 | some fn =>
  match fn.body with
  | some c =>
   if s0q P f=false then none else do
   let res <- fn.results.toList.mapM (v1i P)
   let body <- d0f P c
   if fn.params.size + fn.nfree<=fn.ntmps then pure { np:=fn.params.size + fn.nfree,nt:=fn.ntmps,res,body } else none
  | none=>none
 | none=>none
abbrev Inj:=Nat->Option (Nat × Nat)
abbrev Shp:=Nat->Option (Option TypeId × Nat)
structure Cx where
 P:Program
 base:Nat
def u1D (X:Cx) (S:Shp) (a:Addr) (cap:Nat):Prop:=X.base<=a.block->∃ e n,S a.block=some (some e,n)/\a.off + cap * X.P.cellsOf e<=n
inductive VR (X:Cx) (φ:Inj) (S:Shp):Value->Value->Prop
 | bool (b):VR X φ S (.bool b) (.bool b)
 | int (k n):VR X φ S (.int k n) (.int k n)
 | str (s):VR X φ S (.string s) (.string s)
 | pnil:VR X φ S (.pointer none) (.pointer none)
 | ptr (a a' B o) (h1:a.spot=none) (h2:φ a.block=some (B,o)) (h3:a' = ⟨B,o + a.off,none⟩) (h4:X.base<=B->∃ e n,S B=some (some e,n)):VR X φ S (.pointer (some a)) (.pointer (some a'))
 | snil:VR X φ S (.slice none 0 0) (.slice none 0 0)
 | sl (a a' len cap cap' B o) (h1:a.spot=none) (h2:φ a.block=some (B,o)) (h3:a'.spot=none) (h4:a'.block=B) (h5:0 < len->a'.off=o + a.off)
   (h6:cap ≠ unk->cap' = cap) (h7:len<=cap') (h8:u1D X S a' cap'):VR X φ S (.slice (some a) len cap) (.slice (some a') len cap')
 | sle (a a'):VR X φ S (.slice (some a) 0 0) (.slice (some a') 0 0)
 | mp (b B o) (h:φ b=some (B,o)) (h2:S B=some (none,0)):VR X φ S (.map (some b)) (.map (some B))
 | mnil:VR X φ S (.map none) (.map none)
 | nilFunc:VR X φ S .nilFunc .nilFunc
 | nilIface:VR X φ S .nilIface .nilIface
 | func (f a b a' b') (h1:a.size=a'.size) (h2:∀ i,i < a.size->VR X φ S (a.getD i undef) (a'.getD i undef)) (h3:b.size=b'.size)
   (h4:∀ i,i < b.size->VR X φ S (b.getD i undef) (b'.getD i undef)):VR X φ S (.func f a b) (.func f a' b')
 | iface (t v v') (h:VR X φ S v v'):VR X φ S (.iface t v) (.iface t v')
 | agg (a a') (h1:a.size=a'.size) (h2:∀ i,i < a.size->VR X φ S (a.getD i undef) (a'.getD i undef)):VR X φ S (.agg a) (.agg a')
 | tuple (a a') (h1:a.size=a'.size) (h2:∀ i,i < a.size->VR X φ S (a.getD i undef) (a'.getD i undef)):VR X φ S (.tuple a) (.tuple a')
theorem V0u {X:Cx} {S:Shp} {a:Addr} {cap B:Nat} (h:a.block=B) (k:u1D X S a cap):X.base<=B->∃ e n,S B=some (some e,n):=by
 subst h;intro hb;obtain ⟨e,n,h,_⟩:=k hb;exact ⟨e,n,h⟩
def CR (X:Cx) (φ:Inj) (S:Shp) (l l':List Value):Prop:=l.length=l'.length/\∀ i,i < l.length->VR X φ S (l.getD i undef) (l'.getD i undef)
variable {X:Cx} {φ φ':Inj} {S S':Shp}
theorem VR.undef:VR X φ S undef undef:=.tuple _ _ rfl (fun i h=>by simp at h)
theorem VR.mo (hφ:∀ b x,φ b=some x->φ' b=some x) (c:∀ b x,S b=some x->S' b=some x) {v v':Value} (h:VR X φ S v v'):VR X φ' S' v v':=by
 induction h with
 | bool b=>exact .bool b
 | int k n=>exact .int k n
 | str s=>exact .str s
 | pnil=>exact .pnil
 | ptr a a' B o h1 h2 h3 h4=>exact .ptr a a' B o h1 (hφ _ _ h2) h3 (fun hb=>by obtain ⟨e,n,j⟩:=h4 hb;exact ⟨e,n,c _ _ j⟩)
 | snil=>exact .snil
 | sl a a' len cap cap' B o h1 h2 h3 h4 h5 h6 h7 h8 =>
  exact .sl a a' len cap cap' B o h1 (hφ _ _ h2) h3 h4 h5 h6 h7 (fun hb=>by obtain ⟨e,n,j,q⟩:=h8 hb;exact ⟨e,n,c _ _ j,q⟩)
 | sle a a'=>exact .sle a a'
 | mp b B o h h2=>exact .mp b B o (hφ _ _ h) (c _ _ h2)
 | mnil=>exact .mnil
 | nilFunc=>exact .nilFunc
 | nilIface=>exact .nilIface
 | func f a b a' b' h1 _ h3 _ ih1 ih2=>exact .func f a b a' b' h1 ih1 h3 ih2
 | iface t v v' _ ih=>exact .iface t v v' ih
 | agg a a' h1 _ ih=>exact .agg a a' h1 ih
 | tuple a a' h1 _ ih=>exact .tuple a a' h1 ih
theorem CR.mo (hφ:∀ b x,φ b=some x->φ' b=some x) (j:∀ b x,S b=some x->S' b=some x) {l c:List Value} (h:CR X φ S l c):CR X φ' S' l c :=
 ⟨h.1,fun i hi=>(h.2 i hi).mo hφ j⟩
theorem CR.nil:CR X φ S [] []:=⟨rfl,fun i h=>by simp at h⟩
theorem CR.cons {v v':Value} {l j:List Value} (h:VR X φ S v v') (c:CR X φ S l j):CR X φ S (v :: l) (v' :: j) :=
 ⟨by simp [c.1],fun i hi=>by cases i with | zero=>simpa using h | succ i=>simpa using c.2 i (by simpa using hi)⟩
theorem VR.cons_cr {v v':Value} {l c:List Value} (h:VR X φ S v v') (j:CR X φ S l c):CR X φ S (v :: l) (v' :: c):=CR.cons h j
theorem CR.head {v v':Value} {l c:List Value} (h:CR X φ S (v :: l) (v' :: c)):VR X φ S v v':=by simpa using h.2 0 (by simp)
theorem CR.tail {v v':Value} {l c:List Value} (h:CR X φ S (v :: l) (v' :: c)):CR X φ S l c :=
 ⟨by simpa using h.1,fun i hi=>by simpa using h.2 (i + 1) (by simpa using hi)⟩
theorem CR.nil_left {c:List Value} (h:CR X φ S [] c):c = []:=N1r.1 h.1.symm
theorem CR.cons_left {v:Value} {l c:List Value} (h:CR X φ S (v :: l) c):∃ v' r,c = v' :: r/\VR X φ S v v'/\CR X φ S l r:=by
 cases c with
 | nil=>simp [CR] at h
 | cons v' r=>exact ⟨v',r,rfl,h.head,h.tail⟩
theorem CR.get {l c:List Value} (h:CR X φ S l c) (i:Nat):VR X φ S (l.getD i undef) (c.getD i undef):=by
 by_cases hi:i < l.length
 ·exact h.2 i hi
 ·simp only [M1R]
  rw [N1d (by omega),N1d (by have:=h.1;omega)]
  exact VR.undef
theorem CR.append {a c b j:List Value} (h:CR X φ S a c) (k:CR X φ S b j):CR X φ S (a ++ b) (c ++ j):=by
 induction a generalizing c with
 | nil=>rw [h.nil_left];simpa using k
 | cons v r ih=>obtain ⟨v',u,rfl,s,q⟩:=h.cons_left;simpa using CR.cons s (ih q)
theorem CR.take {a c:List Value} (h:CR X φ S a c) (n:Nat):CR X φ S (a.take n) (c.take n):=by
 induction n generalizing a c with
 | zero=>simpa using CR.nil
 | succ n ih =>
  cases a with
  | nil=>rw [h.nil_left];simpa using CR.nil
  | cons v r=>obtain ⟨v',q,rfl,k,j⟩:=h.cons_left;simpa using CR.cons k (ih j)
theorem CR.drop {a c:List Value} (h:CR X φ S a c) (n:Nat):CR X φ S (a.drop n) (c.drop n):=by
 induction n generalizing a c with
 | zero=>simpa using h
 | succ n ih =>
  cases a with
  | nil=>rw [h.nil_left];simpa using CR.nil
  | cons v r=>obtain ⟨v',q,rfl,k,j⟩:=h.cons_left;simpa using ih j
theorem CR.set {a c:List Value} (h:CR X φ S a c) (n:Nat) {v v':Value} (q:VR X φ S v v'):CR X φ S (a.set n v) (c.set n v'):=by
 induction n generalizing a c with
 | zero =>
  cases a with
  | nil=>rw [h.nil_left];simpa using CR.nil
  | cons u r=>obtain ⟨v',s,rfl,k,j⟩:=h.cons_left;simpa using CR.cons q j
 | succ n ih =>
  cases a with
  | nil=>rw [h.nil_left];simpa using CR.nil
  | cons u r=>obtain ⟨v',s,rfl,k,j⟩:=h.cons_left;simpa using CR.cons k (ih j)
theorem CR.of_mem_map {α:Type} (f g:α->Value) (l:List α) (h:∀ x ∈ l,VR X φ S (f x) (g x)):CR X φ S (l.map f) (l.map g):=by
 induction l with
 | nil=>exact CR.nil
 | cons x r ih=>exact CR.cons (h x (by simp)) (ih fun y c=>h y (by simp [c]))
theorem a0E (a:Array Value) (i:Nat):a.getD i undef=a.toList.getD i undef:=by
 simp only [M1R,N1S,M1Y]
theorem VR.agg_iff {a c:Array Value}:VR X φ S (.agg a) (.agg c) <-> CR X φ S a.toList c.toList:=by
 constructor
 ·intro h
  cases h with
  | agg _ _ h1 h2=>exact ⟨by simpa using h1,fun i hi=>by rw [<- a0E,<- a0E];exact h2 i (by simpa using hi)⟩
 ·intro h
  exact .agg _ _ (by simpa using h.1) (fun i hi=>by rw [a0E,a0E];exact h.2 i (by simpa using hi))
theorem VR.tuple_iff {a c:Array Value}:VR X φ S (.tuple a) (.tuple c) <-> CR X φ S a.toList c.toList:=by
 constructor
 ·intro h
  cases h with
  | tuple _ _ h1 h2=>exact ⟨by simpa using h1,fun i hi=>by rw [<- a0E,<- a0E];exact h2 i (by simpa using hi)⟩
 ·intro h
  exact .tuple _ _ (by simpa using h.1) (fun i hi=>by rw [a0E,a0E];exact h.2 i (by simpa using hi))
theorem VR.cells {v v':Value} (h:VR X φ S v v'):CR X φ S (a0t v) v'.cells.toList:=by
 cases h with
 | agg a a' h1 h2=>simpa [a0t,Value.cells] using VR.agg_iff.1 (.agg a a' h1 h2)
 | _=>simp only [a0t,Value.cells];exact CR.cons (by first | exact .sle _ _ | (constructor <;> assumption)) CR.nil
theorem VR.plain {v v':Value} (h:VR X φ S v v') (hp:a0n v=true):v'.oneCell' = true:=by
 cases h <;> simp_all [a0n,Value.oneCell']
theorem CR.plain {l j:List Value} (h:CR X φ S l j) (hp:l.all a0n=true):∀ v ∈ j,v.oneCell' = true:=by
 induction l generalizing j with
 | nil=>rw [h.nil_left];simp
 | cons v r ih =>
  obtain ⟨v',s,rfl,q,k⟩:=h.cons_left
  simp only [N1u,M1W] at hp
  intro u c
  rcases O1W.1 c with rfl | c
  ·exact q.plain hp.1
  ·exact ih k hp.2 u c
theorem c0I:∀ (vs cs:List Value) (off:Nat),(b0e cs off vs).length=cs.length
 | [],_,_=>rfl
 | v :: r,cs,off=>by simp [b0e,c0I r]
theorem CR.write {cs c vs j:List Value} (h:CR X φ S cs c) (k:CR X φ S vs j) (off:Nat):CR X φ S (b0e cs off vs) (b0e c off j):=by
 induction vs generalizing cs c j off with
 | nil=>rw [k.nil_left];simpa [b0e] using h
 | cons v r ih =>
  obtain ⟨v',u,rfl,q,s⟩:=k.cons_left
  simpa [b0e] using ih (h.set off q) s (off + 1)
theorem k0r:∀ (vs cs:List Value) (off:Nat),off + vs.length<=cs.length->b0e cs off vs=cs.take off ++ vs ++ cs.drop (off + vs.length)
 | [],cs,off,_=>by simp [b0e]
 | v :: r,cs,off,h=>by
  simp only [N1I] at h
  rw [b0e,k0r r (cs.set off v) (off + 1) (by simp;omega)]
  have c:off < cs.length:=by omega
  have j:(cs.set off v).take (off + 1)=cs.take off ++ [v]:=by
   rw [List.take_set]
   rw [N1x c]
   rw [List.set_append]
   simp [N1J (Nat.le_of_lt c)]
  have e2:(cs.set off v).drop (off + 1 + r.length)=cs.drop (off + 1 + r.length):=by
   rw [List.drop_set]
   simp
   omega
  rw [j,e2]
  simp [N1U,Nat.add_comm 1]
end
section
open Go
def shq (w:World) (B:Nat):Option (Option TypeId × Nat) :=
 match w.heap[B]? with
 | some (.cells c e _)=>some (some e,c.size)
 | some (.map _ _)=>some (none,0)
 | _=>none
def i0K:List MapEntry->List Value
 | []=>[]
 | e :: r=>e.key :: e.val :: i0K r
def K1S (X:Cx) (φ:Inj) (w:World) (B o:Nat) (ro:Bool) (e:TypeId) (cs:List Value):Prop :=
 ∃ c el fz,w.heap[B]? = some (.cells c el fz)/\o + cs.length<=c.size/\CR X φ (shq w) cs ((c.toList.drop o).take cs.length)/\(ro=false->X.base<=B/\fz=(0,0)/\el=e)/\(ro=true->B < X.base)
def K1T (X:Cx) (φ:Inj) (w:World) (B:Nat) (ro:Bool) (cs:List Value):Prop :=
 ro=false/\X.base<=B/\∃ es clk,w.heap[B]? = some (.map es clk)/\CR X φ (shq w) cs (i0K es.toList)
def g0U (X:Cx) (φ:Inj) (w:World) (B o:Nat) (ro:Bool) (e:TypeId) (cs:List Value):Prop:=K1S X φ w B o ro e cs ∨ K1T X φ w B ro cs
theorem g0U.mo {X:Cx} {φ φ':Inj} {w w':World} {B o:Nat} {ro:Bool} {e:TypeId} {cs:List Value} (h:g0U X φ w B o ro e cs) (hφ:∀ b x,φ b=some x->φ' b=some x) (u:∀ b x,shq w b=some x->shq w' b=some x) (y:w'.heap[B]? = w.heap[B]?) :
  g0U X φ' w' B o ro e cs:=by
 rcases h with ⟨c,z,G,k,q,r,s,H⟩ | ⟨k,q,F,j,r,s⟩
 ·exact .inl ⟨c,z,G,by rw [y];exact k,q,r.mo hφ u,s,H⟩
 ·exact .inr ⟨k,q,F,j,by rw [y];exact r,s.mo hφ u⟩
theorem g0U.lt {X:Cx} {φ:Inj} {w:World} {B o:Nat} {ro:Bool} {e:TypeId} {cs:List Value} (h:g0U X φ w B o ro e cs):B < w.heap.size:=by
 rcases h with ⟨c,q,s,j,_⟩ | ⟨_,_,r,k,j,_⟩ <;> exact (N1y.1 j).1
theorem g0U.based {X:Cx} {φ:Inj} {w:World} {B o:Nat} {e:TypeId} {cs:List Value} (h:g0U X φ w B o false e cs):X.base<=B:=by
 rcases h with ⟨c,k,q,_,_,_,j,_⟩ | ⟨_,j,_⟩
 ·exact (j rfl).1
 ·exact j
theorem g0U.cells {X:Cx} {φ:Inj} {w:World} {B o:Nat} {ro:Bool} {e:TypeId} {cs:List Value} (h:g0U X φ w B o ro e cs) (hs:X.base<=B->∃ e n,shq w B=some (some e,n)):K1S X φ w B o ro e cs:=by
 rcases h with h | ⟨_,j,q,c,k,_⟩
 ·exact h
 ·obtain ⟨e,n,h⟩:=hs j
  simp [shq,k] at h
theorem g0U.map {X:Cx} {φ:Inj} {w:World} {B o:Nat} {ro:Bool} {e:TypeId} {cs:List Value} (h:g0U X φ w B o ro e cs) (hs:shq w B=some (none,0)):K1T X φ w B ro cs:=by
 rcases h with ⟨c,k,q,j,_⟩ | h
 ·simp [shq,j] at hs
 ·exact h
structure Rel (X:Cx) (φ:Inj) (H:a0c) (w:World):Prop where
 bs:X.base<=w.heap.size
 lt:∀ b x,φ b=some x->b < H.size
 row:∀ b B o ro e cs,φ b=some (B,o)->H.bk b=.row ro e cs->g0U X φ w B o ro e cs
 sep:∀ b b' B o o' e cs,φ b=some (B,o)->φ b' = some (B,o')->b ≠ b'->H.bk b=.row false e cs->H.bk b' = .dead
structure b0R (X:Cx) (fl:Nat) (φ:Inj) (H:a0c) (w:World) (φ':Inj) (H':a0c) (w':World):Prop where
 ext:∀ b x,φ b=some x->φ' b=some x
 rel:Rel X φ' H' w'
 shp:∀ B x,(shq w) B=some x->(shq w') B=some x
 wsz:w.heap.size<=w'.heap.size
 os:w'.os=w.os
 tape:w'.tape=w.tape
 out:w'.output=w.output
 hsz:H.size<=H'.size
 keep:∀ b,b < fl->H'.bk b=H.bk b
 kind:∀ b e cs,b < H.size->H'.bk b=.row false e cs->∃ cs0,H.bk b=.row false e cs0
 fresh:∀ b x,φ' b=some x->φ b=none->H.size<=b
 newB:∀ b B o,φ' b=some (B,o)->φ b=none->w.heap.size<=B ∨ ∃ b0 o0 e cs,φ b0=some (B,o0)/\fl<=b0/\H.bk b0=.row false e cs
 frame:∀ B,B < w.heap.size->(∀ b o e cs,φ b=some (B,o)->fl<=b->H.bk b ≠ .row false e cs)->w'.heap[B]? = w.heap[B]?
variable {X:Cx} {φ φ':Inj} {H H':a0c} {w w':World} {fl:Nat}
theorem a0z (H:a0c) (B:Blk) (b:Nat):a0c.bk (H.push B) b=if b=H.size then B else H.bk b:=by
 simp only [a0c.bk,M1Y,P1b]
 split <;> simp_all
theorem a0I (H:a0c) (k:Nat) (B:Blk) (b:Nat) (_:k < H.size):a0c.bk (H.setIfInBounds k B) b=if b=k then B else H.bk b:=by
 simp only [a0c.bk,M1Y,N1l]
 split
 ·rename_i h;subst h;simp
 ·rename_i h;rw [M1V (fun e=>h e.symm)]
theorem a0r {H:a0c} {b:Nat} {ro:Bool} {e:TypeId} {cs:List Value} (h:H.bk b=.row ro e cs):b < H.size:=by
 by_cases hb:b < H.size
 ·exact hb
 ·simp only [a0c.bk,M1Y] at h
  rw [O1i (by omega)] at h
  simp at h
theorem b0R.refl (h:Rel X φ H w):b0R X fl φ H w φ H w :=
 { ext := fun _ _ h => h, rel := h, shp := fun _ _ h => h, wsz := M1U _, os := rfl, tape := rfl, out := rfl, hsz := M1U _, keep := fun _ _ => rfl,
   kind:=fun _ _ cs _ h=>⟨cs,h⟩,fresh:=(fun b x h c=>by rw [h] at c;cases c),newB:=(fun b B o h c=>by rw [h] at c;cases c),frame:=fun _ _ _=>rfl }
theorem b0R.trans {F:Nat} {q I:Inj} {H1 O:a0c} {S U:World} (h:b0R X fl φ H w q H1 S) (k:b0R X F q H1 S I O U) (hf:fl<=F) (R:Rel X φ H w) :
  b0R X fl φ H w I O U :=
 { ext := fun b x hb => k.ext _ _ (h.ext _ _ hb)
   rel:=k.rel
   shp:=fun B x hb=>k.shp _ _ (h.shp _ _ hb)
   wsz:=N1n h.wsz k.wsz
   os:=k.os.trans h.os,tape:=k.tape.trans h.tape,out:=k.out.trans h.out
   hsz:=N1n h.hsz k.hsz
   keep:=fun b hb=>(k.keep b (by omega)).trans (h.keep b hb)
   kind:=fun b e cs hb hk=>by
    obtain ⟨L,c⟩:=k.kind b e cs (N1k hb h.hsz) hk
    exact h.kind b e L hb c
   fresh:=fun b x hb N=>by
    cases c:q b with
    | none=>exact N1n h.hsz (k.fresh b x hb c)
    | some y=>exact h.fresh b y c N
   newB:=fun b B o hb N=>by
    cases c:q b with
    | none =>
     rcases k.newB b B o hb c with s | ⟨r,J,e,cs,s,Q,M⟩
     ·exact .inl (N1n h.wsz s)
     ·cases h5:φ r with
      | none =>
       rcases h.newB r B J s h5 with u | u
       ·exact .inl u
       ·exact .inr u
      | some y =>
       have:=h.ext r y h5
       rw [s] at this;cases this
       obtain ⟨j,u⟩:=h.kind r e cs (R.lt r _ h5) M
       exact .inr ⟨r,J,e,j,h5,by omega,u⟩
    | some y =>
     have:=k.ext b y c
     rw [hb] at this;cases this
     exact h.newB b B o c N
   frame:=fun B hB z=>by
    rw [k.frame B (N1k hB h.wsz) ?_,h.frame B hB z]
    intro b o e cs hb Z G
    cases c:φ b with
    | none =>
     rcases h.newB b B o hb c with s | ⟨r,J,Y,j,s,Q,M⟩
     ·omega
     ·exact z r J Y j s Q M
    | some y =>
     have:=h.ext b y c
     rw [hb] at this;cases this
     obtain ⟨j,u⟩:=h.kind b e cs (R.lt b _ c) G
     exact z b o e j c (by omega) u }
theorem u0G (w:World) (o:Obj) (B:Nat) (x) (h:shq w B=some x):shq (w.alloc o) B=some x:=by
 have c:B < w.heap.size:=by
  by_cases hb:B < w.heap.size
  ·exact hb
  ·simp [shq,O1i (show w.heap.size<=B by omega)] at h
 simp only [shq] at h ⊢
 rw [show (w.alloc o).heap[B]? = w.heap[B]? from by show (w.heap.push o)[B]? = _;rw [P1b,M1V (by omega)]]
 exact h
theorem b0R.new (hR:Rel X φ H w) (e:TypeId) (cs:List Value) (s:Obj) (O:fl<=H.size)
  (M:∀ φ':Inj,(∀ b x,φ b=some x->φ' b=some x)->(∀ B x,shq w B=some x->shq (w.alloc s) B=some x)->(w.alloc s).heap[w.heap.size]? = some s->g0U X φ' (w.alloc s) w.heap.size 0 false e cs) :
  b0R X fl φ H w (fun b=>if b=H.size then some (w.heap.size,0) else φ b) (H.push (.row false e cs)) (w.alloc s):=by
 have y:∀ B,B < w.heap.size->(w.alloc s).heap[B]? = w.heap[B]?:=fun B hB=>by show (w.heap.push _)[B]? = _;rw [P1b,M1V (by omega)]
 have I:(w.alloc s).heap[w.heap.size]? = some s:=by show (w.heap.push _)[_]? = _;simp
 have hsz:(w.alloc s).heap.size=w.heap.size + 1:=by show (w.heap.push _).size=_;simp
 have q:∀ b x,φ b=some x->(fun b=>if b=H.size then some (w.heap.size,0) else φ b) b=some x:=fun b x hb=>by
  have:=hR.lt b x hb
  show (if _ then _ else _)=_
  rw [M1V (by omega)];exact hb
 have r:=fun B x=>u0G w s B x
 have u:∀ b B o ro e cs,φ b=some (B,o)->H.bk b=.row ro e cs->B < w.heap.size:=fun b B o ro e cs hb Q=>(hR.row b B o ro e cs hb Q).lt
 refine { ext:=q,rel:=?_,shp:=r,wsz:=by omega,os:=rfl,tape:=rfl,out:=rfl,hsz:=by simp,keep:=?_,kind:=?_,fresh:=?_,newB:=?_,frame:=fun B hB _=>y B hB }
 ·refine { bs:=by have:=hR.bs;omega,lt:=?_,row:=?_,sep:=?_ }
  ·intro b x hb
   simp only [N1T]
   by_cases h:b=H.size
   ·omega
   ·simp only [M1V h] at hb;have:=hR.lt b x hb;omega
  ·intro b B o ro J k hb c
   rw [a0z] at c
   by_cases h:b=H.size
   ·simp only [M1Z h] at hb c
    cases hb;cases c
    exact M _ q r I
   ·simp only [M1V h] at hb c
    have N:=hR.row b B o ro J k hb c
    exact N.mo q r (y B N.lt)
  ·intro b z B o R J k hb j G c
   rw [a0z] at c ⊢
   by_cases h:b=H.size
   ·have L:z ≠ H.size:=fun e=>G (h.trans e.symm)
    simp only [M1Z h] at hb c
    simp only [M1V L] at j ⊢
    cases hb
    cases hk:H.bk z with
    | dead=>rfl
    | row ro e2 cs2=>have:=u z _ _ _ _ _ j hk;omega
   ·simp only [M1V h] at hb c
    by_cases L:z = H.size
    ·simp only [M1Z L] at j
     cases j
     have:=u b _ _ _ _ _ hb c;omega
    ·simp only [M1V L] at j ⊢
     exact hR.sep b z B o R J k hb j G c
 ·intro b hb;rw [a0z,M1V (by omega)]
 ·intro b J k hb c;rw [a0z,M1V (by omega)] at c;exact ⟨k,c⟩
 ·intro b x hb F
  by_cases h:b=H.size
  ·omega
  ·simp only [M1V h] at hb;rw [hb] at F;cases F
 ·intro b B o hb F
  by_cases h:b=H.size
  ·simp only [M1Z h] at hb;cases hb;exact .inl (M1U _)
  ·simp only [M1V h] at hb;rw [hb] at F;cases F
theorem b0R.alloc (hR:Rel X φ H w) (e:TypeId) (cs:List Value) (c:Array Value) (s:cs.length<=c.size) (hc:CR X φ (shq w) cs (c.toList.take cs.length)) (r:fl<=H.size) :
  b0R X fl φ H w (fun b=>if b=H.size then some (w.heap.size,0) else φ b) (H.push (.row false e cs)) (w.alloc (.cells c e)) :=
 b0R.new hR e cs (.cells c e) r fun φ' j q k=>.inl ⟨c,e,(0,0),k,by omega,by simpa using hc.mo j q,fun _=>⟨hR.bs,rfl,rfl⟩,fun h=>by cases h⟩
theorem b0R.newmap (hR:Rel X φ H w) (e:TypeId) (h:fl<=H.size) :
  b0R X fl φ H w (fun b=>if b=H.size then some (w.heap.size,0) else φ b) (H.push (.row false e [])) (w.alloc (.map #[] 0)) :=
 b0R.new hR e [] (.map #[] 0) h fun φ' _ _ c=>.inr ⟨rfl,hR.bs,#[],0,c,CR.nil⟩
theorem i0p (w:World) (g:Nat) (old cs:Array Value) (t:TypeId) (c:Nat × Nat) (j:w.heap[g]? = some (.cells old t c)) (hsz:cs.size=old.size) (B:Nat) :
  (shq (w.setRow g cs)) B=(shq w) B:=by
 by_cases h:B=g
 ·subst h
  simp only [shq,setRow_heap w B old cs t c j,j,hsz]
 ·simp only [shq]
  rw [setRow_other w g B cs (fun e=>h (by omega))]
theorem j0E:∀ (vs cs:List Value) (o off:Nat),(b0e cs (o + off) vs).drop o=b0e (cs.drop o) off vs
 | [],cs,o,off=>by simp [b0e]
 | v :: r,cs,o,off=>by
  rw [b0e,b0e,N1U,j0E r (cs.set (o + off) v) o (off + 1)]
  congr 1
  rw [List.drop_set,M1V (by omega)]
  congr 1
  omega
theorem n0s:∀ (vs cs:List Value) (n off:Nat),off + vs.length<=n->(b0e cs off vs).take n=b0e (cs.take n) off vs
 | [],cs,n,off,_=>by simp [b0e]
 | v :: r,cs,n,off,h=>by
  simp only [N1I] at h
  rw [b0e,b0e,n0s r (cs.set off v) n (off + 1) (by omega)]
  congr 1
  rw [List.take_set]
theorem Rel.cells (hR:Rel X φ H w) {b B o off n:Nat} {cs:List Value} (hb:φ b=some (B,o)) (hs:X.base<=B->∃ e n,shq w B=some (some e,n)) (hc:H.cells? b off n=some cs) :
  cs.length=n/\∃ h,h.length=n/\CR X φ (shq w) cs h/\∀ j v,h[j]? = some v->w.cell? ⟨B,o + off + j,none⟩ = some v:=by
 unfold a0c.cells? at hc
 cases hk:H.bk b with
 | dead=>simp [hk] at hc
 | row ro e l =>
  simp only [hk] at hc
  split at hc
  ·rename_i s
   cases hc
   obtain ⟨c,u,x,q,y,r,_⟩:=(hR.row b B o ro e l hb hk).cells hs
   refine ⟨by simp;omega,((c.toList.drop o).take l.length |>.drop off).take n,by simp;omega,(r.drop off).take n,?_⟩
   intro j v k
   simp only [World.cell?,q]
   simp only [O1O,O1A] at k
   split at k
   ·split at k
    ·rw [N1S] at k;rw [<- k,M1V (by simp),N1U]
    ·cases k
   ·cases k
  ·cases hc
theorem Rel.blkT (hR:Rel X φ H w) {b B o:Nat} {e:TypeId} {cs:List Value} (hb:φ b=some (B,o)) (hs:X.base<=B->∃ e n,shq w B=some (some e,n)) (s:H.bk b=.row false e cs) :
  ∃ c,w.heap[B]? = some (.cells c e (0,0))/\X.base<=B/\o + cs.length<=c.size/\CR X φ (shq w) cs ((c.toList.drop o).take cs.length):=by
 obtain ⟨c,u,x,h,j,k,q⟩:=(hR.row b B o false e cs hb s).cells hs
 obtain ⟨r,rfl,rfl⟩:=q.1 rfl
 exact ⟨c,h,r,j,k⟩
theorem b0R.anew (hR:Rel X φ H w) {b B o:Nat} {e:TypeId} {l Z:List Value} (hb:φ b=some (B,o)) (z:H.bk b=.row false e l) (Q:fl<=b)
  (hsz:w'.heap.size=w.heap.size) (Y:w'.os=w.os) (F:w'.tape=w.tape) (L:w'.output=w.output) (q:∀ j,j ≠ B->w'.heap[j]? = w.heap[j]?) (M:∀ j,shq w' j=shq w j) (U:g0U X φ w' B o false e Z) :
  b0R X fl φ H w φ (H.setIfInBounds b (.row false e Z)) w':=by
 have u:=a0r z
 refine
  { ext := fun _ _ h => h
    rel:=?_
    shp:=fun B x h=>by rw [M];exact h
    wsz:=by omega
    os:=Y
    tape:=F
    out:=L
    hsz:=by simp
    keep:=?_
    kind:=?_
    fresh:=fun b x h I=>by rw [h] at I;cases I
    newB:=fun b B o h I=>by rw [h] at I;cases I
    frame:=?_ }
 ·refine { bs:=by have:=hR.bs;omega,lt:=fun b x h=>by simpa using hR.lt b x h,row:=?_,sep:=?_ }
  ·intro s j N ro G r k c
   rw [a0I _ _ _ _ u] at c
   by_cases h:s=b
   ·subst h
    rw [M1Z rfl] at c
    cases c
    rw [hb] at k;cases k
    exact U
   ·rw [M1V h] at c
    by_cases hB:j=B
    ·subst hB
     have:=hR.sep b s j o N e l hb k (fun e=>h e.symm) z
     rw [this] at c;cases c
    ·exact (hR.row s j N ro G r k c).mo (fun _ _ h=>h) (fun B x h=>by rw [M];exact h) (q j hB)
  ·intro s b2 j N o2 G r k O R c
   rw [a0I _ _ _ _ u] at c ⊢
   have J:∃ y,H.bk s=.row false G y:=by
    by_cases h:s=b
    ·subst h;rw [M1Z rfl] at c;cases c;exact ⟨l,z⟩
    ·rw [M1V h] at c;exact ⟨r,c⟩
   obtain ⟨y,h0⟩:=J
   have:=hR.sep s b2 j N o2 G y k O R h0
   by_cases h:b2=b
   ·subst h;rw [this] at z;cases z
   ·rw [M1V h];exact this
 ·intro s k
  rw [a0I _ _ _ _ u,M1V (by omega)]
 ·intro s G r _ c
  rw [a0I _ _ _ _ u] at c
  by_cases h:s=b
  ·subst h;rw [M1Z rfl] at c;cases c;exact ⟨l,z⟩
  ·rw [M1V h] at c;exact ⟨r,c⟩
 ·intro j _ S
  refine q j ?_
  intro hB
  subst hB
  exact S b o e l hb Q z
theorem b0R.store (hR:Rel X φ H w) {b B o off:Nat} {vs j:List Value} (hb:φ b=some (B,o)) (hs:X.base<=B->∃ e n,shq w B=some (some e,n)) (r:H.write? fl b off vs=some H') (z:CR X φ (shq w) vs j) :
  ∃ w',(storeCells ⟨B,o + off,none⟩ j).run X.P w=.ok () w'/\b0R X fl φ H w φ H' w':=by
 unfold a0c.write? at r
 cases hk:H.bk b with
 | dead=>simp [hk] at r
 | row ro e l =>
  cases ro with
  | true=>simp [hk] at r
  | false =>
   simp only [hk] at r
   split at r
   ·rename_i k
    obtain ⟨x,L,y⟩:=k
    cases r
    obtain ⟨c,u,J,M,I⟩:=hR.blkT hb hs hk
    have F:=z.1
    have q:=run_storeCells_at X.P B (o + off) e j 0 c w u (by omega) (z.plain y)
    simp only [N1O] at q
    rw [<- k0r j c.toList (o + off) (by simp;omega)] at q
    have hsz:(b0e c.toList (o + off) j).toArray.size=c.size:=by simp [c0I]
    have s:=i0p w B c (b0e c.toList (o + off) j).toArray e (0,0) u hsz
    refine ⟨_,q,b0R.anew hR hb hk x (by simp [World.setRow]) rfl rfl rfl (fun G hB=>setRow_other w B G _ hB) s (.inl ?_)⟩
    refine ⟨_,e,(0,0),setRow_heap w B c _ e (0,0) u,by simp only [c0I,List.size_toArray,O1a];omega,?_,fun _=>⟨J,rfl,rfl⟩,fun h=>by cases h⟩
    rw [funext s]
    simp only [c0I,j0E]
    rw [n0s _ _ _ _ (by omega)]
    exact I.write z off
   ·cases r
end
section
open Go
variable {X:Cx} {φ φ':Inj} {S:Shp} {H H':a0c} {w w':World} {fl:Nat} {t:a0U} {a:Act} {o:Oper}
theorem l0K {v:Value} (h:r0g v=true):VR X φ S v v:=by
 unfold r0g at h
 split at h
 ·exact .bool _
 ·exact .int _ _
 ·exact .str _
 ·exact .pnil
 ·exact .snil
 ·exact .nilFunc
 ·exact .nilIface
 ·exact .mnil
 ·simp at h
  obtain ⟨rfl,rfl⟩:=h
  exact .func _ _ _ _ _ rfl (fun i hi=>by simp at hi) rfl (fun i hi=>by simp at hi)
 ·cases h
theorem f0K {l:List Value} (h:l.all r0g=true):CR X φ S l l:=by
 induction l with
 | nil=>exact CR.nil
 | cons v r ih=>simp only [N1u,M1W] at h;exact CR.cons (l0K h.1) (ih h.2)
theorem m0r {v:Value} (h:a0s (.const v)=true):VR X φ S v v:=by
 unfold a0s at h
 simp only [N1L] at h
 rcases h with h | h
 ·exact l0K h
 ·cases v <;> simp at h
  rename_i cs
  exact VR.agg_iff.2 (f0K (by simpa using h))
theorem a0V (hT:CR X φ S t a.tmps.toList) {x:Operand} {c:Opd} (hc:b0s x=some c) (h:a0s c = true):VR X φ S (ev t c) (a.eval x):=by
 cases x with
 | tmp i=>simp only [b0s,M1Q] at hc;subst hc;simpa [ev,get,Act.eval,a0E] using hT.get i
 | const v=>simp only [b0s,M1Q] at hc;subst hc;exact m0r h
 | func f=>simp only [b0s,M1Q] at hc;subst hc;exact .func _ _ _ _ _ rfl (fun i hi=>by simp at hi) rfl (fun i hi=>by simp at hi)
 | global g=>simp [b0s] at hc
theorem j0B (hT:CR X φ S t a.tmps.toList) {v v':Value} (c:VR X φ S v v') (dst:Option Nat):CR X φ S (put t dst v) (a.put dst v').tmps.toList:=by
 cases dst with
 | none=>exact hT
 | some d=>simpa [put,Act.put] using hT.set d c
theorem c0l (a:Act) (dst:Option Nat) (v:Value):(a.put dst v).defers=a.defers:=by cases dst <;> rfl
def a0D (X:Cx) (fl:Nat) (φ:Inj) (H:a0c) (w:World) (o:Oper) (a:Act) (v:Value) (H':a0c):Prop :=
 ∃ φ' w' v',((execOp a.eval o).run X.P w=.ok (.value v') w' ∨ (v' = undef/\(execOp a.eval o).run X.P w=.ok .skip w'))/\VR X φ' (shq w') v v'/\b0R X fl φ H w φ' H' w'
theorem a0D.same (hR:Rel X φ H w) {v v':Value} (c:(execOp a.eval o).run X.P w=.ok (.value v') w) (h:VR X φ (shq w) v v'):a0D X fl φ H w o a v H :=
 ⟨φ,w,v',.inl c,h,b0R.refl hR⟩
theorem a0D.sameV (hR:Rel X φ H w) {v:Value} (h:VR X φ (shq w) v v) (c:(execOp a.eval o).run X.P w=.ok (.value v) w):a0D X fl φ H w o a v H :=
 ⟨φ,w,v,.inl c,h,b0R.refl hR⟩
theorem c0R {P:Program} {c:TypeId} {n:Nat} (h:c0E P c=some n) (w:World):(sizeOf c).run P w=.ok n w:=by
 unfold c0E at h
 cases hi:P.info? c with
 | none=>simp [hi] at h
 | some i=>simp [hi] at h;simp [sizeOf,typeInfo,hi,h]
theorem d0Y {P:Program} {c:TypeId} {n:Nat} (h:c0E P c=some n):P.cellsOf c=n:=by
 unfold c0E at h;simp [Program.cellsOf,h]
theorem h0J {P:Program} {c:TypeId} {b:Bool} (h:l0c P c=some b) (w:World):(isAgg c).run P w=.ok b w:=by
 unfold l0c at h
 cases hu:P.underlying c with
 | none=>simp [hu] at h
 | some d=>simp only [hu] at h;unfold isAgg;rw [Sem.run_bind,run_underlying hu w];cases d <;> simp_all
theorem f0u {P:Program} {c e:TypeId} (h:h0N P c=some e):P.underlying c=some (.slice e):=by
 unfold h0N at h;split at h <;> simp_all
theorem i0z {P:Program} {j:TypeId} {c:List Field} (h:g0e P j=some c):∃ l,P.underlying j=some (.struct l)/\l.toList=c:=by
 unfold g0e at h;split at h <;> simp_all
theorem i0F {P:Program} {c:TypeId} {z:List Value} (h:k0S P c=some z) :
  z.all r0g=true/\∃ v i,P.info? c=some i/\i.zero=some v/\a0t v=z/\v.cells.toList=z/\∀ w,(zeroValue c).run P w=.ok v w:=by
 unfold k0S at h
 cases hi:P.info? c with
 | none=>simp [hi] at h
 | some i =>
  cases hz:i.zero with
  | none=>simp [hi,hz] at h
  | some v =>
   simp only [hi,hz,Option.bind_some] at h
   split at h
   ·rename_i j;cases h
    refine ⟨j,v,i,rfl,hz,rfl,?_,fun w=>by simp [zeroValue,typeInfo,hi,hz]⟩
    cases v <;> rfl
   ·cases h
section
variable (hR:Rel X φ H w) (hT:CR X φ (shq w) t a.tmps.toList)
include hR hT
theorem U0R {x:Operand} {c:Opd} (ho:o.op=.move x ∨ o.op=.assign x) (hc:b0s x=some c) (h:a0s c = true):a0D X fl φ H w o a (ev t c) H :=
 a0D.same hR (v':=a.eval x) (by rcases ho with ho | ho <;> simp [execOp,ho]) (a0V hT hc h)
theorem S0a {c x y:Operand} {c' q r:Opd} (ho:o.op=.pick c x y) (hc:b0s c=some c') (F:b0s x=some q) (G:b0s y=some r)
  (s:a0s c' = true) (u:a0s q = true) (z:a0s r = true) {v:Value} (h:opA fl t H (.pick c' q r)=.val v H'):a0D X fl φ H w o a v H':=by
 have j:=a0V hT hc s
 simp only [opA] at h
 split at h
 ·rename_i hb;cases h
  rw [hb] at j;generalize k:a.eval c=g at j;cases j
  exact a0D.same hR (v':=a.eval x) (by simp [execOp,ho,k,asBool]) (a0V hT F u)
 ·rename_i hb;cases h
  rw [hb] at j;generalize k:a.eval c=g at j;cases j
  exact a0D.same hR (v':=a.eval y) (by simp [execOp,ho,k,asBool]) (a0V hT G z)
 ·cases h
theorem t1J {x:Operand} {k:Opd} (ho:o.op=.nilCheck x) (hc:b0s x=some k) (r:a0s k = true) {v:Value} (h:opA fl t H (.chk k)=.val v H'):a0D X fl φ H w o a v H':=by
 have c:=a0V hT hc r
 simp only [opA] at h
 split at h
 ·rename_i p hb;cases h
  rw [hb] at c;generalize j:a.eval x=g at c;cases c with
  | ptr _ a' B o' h1 h2 h3 h4=>exact a0D.same hR (v':=.pointer (some a')) (by simp [execOp,ho,j]) (.ptr _ _ _ _ h1 h2 h3 h4)
 ·rename_i f p q hb;cases h
  rw [hb] at c;generalize j:a.eval x=g at c;cases c with
  | func _ _ _ a' b' h1 h2 h3 h4=>exact a0D.same hR (v':=.func (.func f) a' b') (by simp [execOp,ho,j]) (.func _ _ _ _ _ h1 h2 h3 h4)
 ·rename_i f p hb;cases h
  rw [hb] at c;generalize j:a.eval x=g at c;cases c with
  | iface _ _ v' h1=>exact a0D.same hR (v':=.iface f v') (by simp [execOp,ho,j]) (.iface _ _ _ h1)
 ·cases h
theorem R0V {s d:TypeId} {x:Operand} {j:Opd} {k k0:IntKind} (ho:o.op=.convert s d x) (hs:u1p X.P s=some k0) (q:u1p X.P d=some k) (hc:b0s x=some j) (r:a0s j = true)
  {v:Value} (h:opA fl t H (.conv k j)=.val v H'):a0D X fl φ H w o a v H':=by
 have c:=a0V hT hc r
 have z:X.P.underlying s=some (.int k0):=by unfold u1p at hs;split at hs <;> simp_all
 have y:X.P.underlying d=some (.int k):=by unfold u1p at q;split at q <;> simp_all
 simp only [opA] at h
 split at h
 ·rename_i k' n hb;cases h
  rw [hb] at c;generalize u:a.eval x=g at c;cases c
  exact a0D.same hR (v':=.int k (k.wrap n)) (by simp [execOp,ho,u,convert,run_underlying z,run_underlying y,Conv.intToInt]) (.int _ _)
 ·cases h
theorem F0c {c:TypeId} {d:TypeDesc} {x:Operand} {h:Opd} (ho:o.op=.makeInterface c x) (k:X.P.underlying c=some d) (q:∀ m,d ≠ .interface m) (hc:b0s x=some h) (j:a0s h = true) :
  a0D X fl φ H w o a (.iface c (ev t h)) H:=by
 refine a0D.same hR (v':=.iface c (a.eval x)) ?_ (.iface _ _ _ (a0V hT hc j))
 simp only [execOp,ho,Instr.makeInterface,Sem.run_bind,run_underlying k,Result.andThen_ok]
 cases d <;> simp_all
omit hR in
theorem j0r:∀ {xs:List Operand} {c:List Opd},i0I xs=some c->c.all a0s=true->CR X φ (shq w) (c.map (ev t)) (xs.map a.eval)
 | [],c,h,_=>by simp [i0I] at h;subst h;exact CR.nil
 | x :: xs,c,h,hf=>by
  simp only [i0I,O1M] at h
  cases hx:b0s x with
  | none=>simp [hx] at h
  | some x' =>
   cases hr:i0I xs with
   | none=>simp only [i0I] at hr;simp [hx,hr] at h
   | some r =>
    have j:=hr
    simp only [i0I] at hr;simp [hx,hr] at h;subst h
    simp only [N1u,M1W] at hf
    exact CR.cons (a0V hT hx hf.1) (j0r j hf.2)
theorem R0Y {f:Fn} {xs j:Array Operand} {c h:List Opd} (ho:o.op=.makeFunc f xs j) (s:i0I xs.toList=some c) (u:i0I j.toList=some h)
  (q:c.all a0s=true) (r:h.all a0s=true):a0D X fl φ H w o a (.func f (c.map (ev t)).toArray (h.map (ev t)).toArray) H:=by
 have k:=j0r hT s q
 have e2:=j0r hT u r
 refine a0D.same hR (v':=.func f (xs.map a.eval) (j.map a.eval)) (by simp [execOp,ho,Instr.makeFunc]) ?_
 exact .func _ _ _ _ _ (by simpa using k.1) (fun i hi=>by simpa [a0E] using k.2 i (by simpa using hi)) (by simpa using e2.1) (fun i hi=>by simpa [a0E] using e2.2 i (by simpa using hi))
theorem t1K {x:Operand} {r:Opd} {i:Nat} (ho:o.op=.extract x i) (hc:b0s x=some r) (s:a0s r = true) {v:Value} (h:opA fl t H (.ext r i)=.val v H'):a0D X fl φ H w o a v H':=by
 have q:=a0V hT hc s
 simp only [opA] at h
 split at h
 ·rename_i vs hb
  rw [hb] at q;generalize y:a.eval x=g at q;cases q with
  | tuple _ a' h1 h2 =>
   cases hi:vs[i]? with
   | none=>simp [hi,a0R] at h
   | some u =>
    simp [hi,a0R] at h;obtain ⟨rfl,rfl⟩:=h
    have k:i < vs.size:=(N1y.1 hi).1
    have j:=h2 i k
    simp only [M1Y,hi,N1D] at j
    have c:a'[i]? = some a'[i]:=N1v (by omega)
    rw [c,N1D] at j
    exact a0D.same hR (v':=a'[i]) (by simp [execOp,ho,y,Instr.extract,c]) j
 ·cases h
theorem t1N {y e:TypeId} {x:Operand} {z:Opd} {as:Array Operand} {at_:Array TypeId} (ho:o.op=.call { callee:=.builtin .len,args:=as,argTypes:=at_ }) (r:as.toList=[x])
  (s:at_.toList=[y]) (J:h0N X.P y=some e) (hc:b0s x=some z) (G:a0s z = true) {v:Value} (h:opA fl t H (.len z)=.val v H'):a0D X fl φ H w o a v H':=by
 have u:=a0V hT hc G
 have k:as = #[x]:=by rw [<- N1A (xs:=as),r]
 have q:at_ = #[y]:=by rw [<- N1A (xs:=at_),s]
 subst k q
 simp only [opA] at h
 split at h
 ·rename_i p n c hb;cases h
  rw [hb] at u;generalize I:a.eval x=g at u
  have j:∀ F c',g=.slice F n c'->a0D X fl φ H w o a (.int .i64 n) H:=fun F c' e=>by
   subst e
   exact a0D.same hR (v':=.int .i64 n) (by simp [execOp,ho,I,resolve,invoke,builtin,Builtin.len_,run_underlying (f0u J),goInt]) (.int _ _)
  cases u with
  | snil=>exact j _ _ rfl
  | sle _ _=>exact j _ _ rfl
  | sl _ a' _ _ c' B o' h1 h2 h3 h4 h5 h6 h7 h8=>exact j _ _ rfl
 ·cases h
theorem t1I {u e:TypeId} {x:Operand} {k:Opd} {as:Array Operand} {at_:Array TypeId} (ho:o.op=.call { callee:=.builtin .cap,args:=as,argTypes:=at_ }) (q:as.toList=[x])
  (r:at_.toList=[u]) (G:h0N X.P u=some e) (hc:b0s x=some k) (z:a0s k = true) {v:Value} (h:opA fl t H (.cap k)=.val v H'):a0D X fl φ H w o a v H':=by
 have s:=a0V hT hc z
 have c:as = #[x]:=by rw [<- N1A (xs:=as),q]
 have j:at_ = #[u]:=by rw [<- N1A (xs:=at_),r]
 subst c j
 simp only [opA,a0R,V0v] at h
 by_cases hb:ev t k = .slice none 0 0
 ·rw [hb] at s h;cases h;generalize F:a.eval x=g at s
  cases s
  exact a0D.same hR (v':=.int .i64 0) (by simp [execOp,ho,F,resolve,invoke,builtin,Builtin.cap_,run_underlying (f0u G),goInt]) (.int _ _)
 ·split at h
  ·rename_i y;split at y
   ·rename_i hc;exact N1i hc hb
   ·cases y
  ·cases h
end
theorem o0b {P:Program} {c:TypeId} (h:P.underlying c=some .bool) (p q:Bool) (w:World):(Op.equal c (.bool p) (.bool q)).run P w=.ok (p == q) w:=by
 unfold Op.equal Op.maxDepth;rw [Op.equalIn];simp only [Sem.run_bind,run_underlying h,Result.andThen_ok];rfl
theorem g0M {P:Program} {h e:TypeId} (k:P.underlying h=some (.slice e)) (l c q j:Nat) (w:World):(Op.equal h (.slice none l c) (.slice none q j)).run P w=.ok true w:=by
 unfold Op.equal Op.maxDepth;rw [Op.equalIn];simp only [Sem.run_bind,run_underlying k,Result.andThen_ok];rfl
theorem c0Q {P:Program} {h e:TypeId} (k:P.underlying h=some (.slice e)) (p:Addr) (l c q j:Nat) (w:World):(Op.equal h (.slice (some p) l c) (.slice none q j)).run P w=.ok false w:=by
 unfold Op.equal Op.maxDepth;rw [Op.equalIn];simp only [Sem.run_bind,run_underlying k,Result.andThen_ok];rfl
theorem h0O {P:Program} {c:TypeId} {x y:Array TypeId} {z:Bool} (h:P.underlying c=some (.func x y z)) (w:World):(Op.equal c .nilFunc .nilFunc).run P w=.ok true w:=by
 unfold Op.equal Op.maxDepth;rw [Op.equalIn];simp only [Sem.run_bind,run_underlying h,Result.andThen_ok];rfl
theorem h0P {P:Program} {c:TypeId} {x y:Array TypeId} {z:Bool} (h:P.underlying c=some (.func x y z)) (f:Fn) (p q:Array Value) (w:World):(Op.equal c (.func f p q) .nilFunc).run P w=.ok false w:=by
 unfold Op.equal Op.maxDepth;rw [Op.equalIn];simp only [Sem.run_bind,run_underlying h,Result.andThen_ok];rfl
theorem w0y {d:TypeDesc} (h:S0d d=1):d=.bool:=by cases d <;> simp [S0d] at h ⊢
theorem s0i {d:TypeDesc} (h:S0d d=2):∃ e,d=.slice e:=by cases d <;> simp [S0d] at h ⊢
theorem l0R {d:TypeDesc} (h:S0d d=3):∃ p q r,d=.func p q r:=by cases d <;> simp [S0d] at h ⊢
section
variable (hR:Rel X φ H w) (hT:CR X φ (shq w) t a.tmps.toList)
include hR hT
theorem t1G {b:BinOp} {M Y:TypeId} {d:TypeDesc} {x y:Operand} {N O:Opd} (ho:o.op=.binOp b M x y Y) (J:X.P.underlying M=some d) (hx:b0s x=some N) (hy:b0s y=some O)
  (fx:a0s N = true) (fy:a0s O = true) {v:Value} (h:opA fl t H (.bin (S0d d) b N O)=.val v H'):a0D X fl φ H w o a v H':=by
 have j:=a0V hT hx fx
 have s:=a0V hT hy fy
 simp only [opA] at h
 cases hb:c0k (S0d d) b (ev t N) (ev t O) with
 | none=>simp [hb,a0R] at h
 | some u =>
  simp only [hb,a0R,OpRes.val.injEq] at h
  obtain ⟨rfl,rfl⟩:=h
  generalize Q:a.eval x=g1 at j
  generalize R:a.eval y=g2 at s
  have c:∀ {v'},(binOp b M g1 g2).run X.P w=.ok v' w->(eqGuard b M x y g1 g2).run X.P w=.ok () w->(execOp a.eval o).run X.P w=.ok (.value v') w:=by
   intro v' F e2
   simp [execOp,ho,Q,R,F,e2]
  unfold c0k at hb
  split at hb
  ·split at hb
   ·rename_i k p Z q F e2 U;cases hb
    rw [F] at j;rw [e2] at s;cases j;cases s
    exact a0D.same hR (c (by simp [binOp,Op.shift,show ¬ q < 0 by omega]) (by simp [eqGuard])) (.int _ _)
   ·cases hb
  ·split at hb
   ·rename_i k p Z q F e2 U;cases hb
    rw [F] at j;rw [e2] at s;cases j;cases s
    exact a0D.same hR (c (by simp [binOp,Op.shift,show ¬ q < 0 by omega]) (by simp [eqGuard])) (.int _ _)
   ·cases hb
  ·rename_i k p Z q _ _ F e2
   split at hb
   ·rename_i hk;subst hk
    rw [F] at j;rw [e2] at s;cases j;cases s
    have I:∀ L,(eqGuard L M x y (.int k p) (.int k q)).run X.P w=.ok () w:=by intro L;cases L <;> simp [eqGuard]
    split at hb
    case h_4 | h_5 =>
     split at hb
     ·cases hb
     ·rename_i U;cases hb
      exact a0D.same hR (c (by simp [binOp,Op.intDiv,U]) (I _)) (.int _ _)
    case h_9 | h_16 | h_17=>cases hb
    all_goals
     cases hb
     refine a0D.sameV hR (by constructor) (c ?_ (I _))
     simp only [binOp,ne_eq,not_true_eq_false,N1G];rfl
   ·cases hb
  ·split at hb
   ·rename_i p q F e2 G;cases hb
    rw [F] at j;rw [e2] at s;cases j;cases s
    have z:=w0y G;subst z
    exact a0D.same hR (c (by simp [binOp,o0b J p q w]) (by simp [eqGuard])) (.bool _)
   ·cases hb
  ·split at hb
   ·rename_i p q F e2 G;cases hb
    rw [F] at j;rw [e2] at s;cases j;cases s
    have z:=w0y G;subst z
    exact a0D.same hR (c (by simp [binOp,o0b J p q w,bne]) (by simp [eqGuard])) (.bool _)
   ·cases hb
  ·split at hb
   ·rename_i p _ _ _ _ F e2 G;cases hb
    rw [F] at j;rw [e2] at s;cases s
    obtain ⟨e,z⟩:=s0i G;subst z
    cases j
    ·exact a0D.same hR (c (v':=.bool true) (by simp [binOp,g0M J]) (by simp [eqGuard])) (.bool _)
    ·exact a0D.same hR (c (v':=.bool false) (by simp [binOp,c0Q J]) (by simp [eqGuard])) (.bool _)
    ·exact a0D.same hR (c (v':=.bool false) (by simp [binOp,c0Q J]) (by simp [eqGuard])) (.bool _)
   ·cases hb
  ·split at hb
   ·rename_i p _ _ _ _ F e2 G;cases hb
    rw [F] at j;rw [e2] at s;cases s
    obtain ⟨e,z⟩:=s0i G;subst z
    cases j
    ·exact a0D.same hR (c (v':=.bool false) (by simp [binOp,g0M J]) (by simp [eqGuard])) (.bool _)
    ·exact a0D.same hR (c (v':=.bool true) (by simp [binOp,c0Q J]) (by simp [eqGuard])) (.bool _)
    ·exact a0D.same hR (c (v':=.bool true) (by simp [binOp,c0Q J]) (by simp [eqGuard])) (.bool _)
   ·cases hb
  ·split at hb
   ·rename_i F e2 G;cases hb
    rw [F] at j;rw [e2] at s;cases j;cases s
    obtain ⟨p,q,r,z⟩:=l0R G;subst z
    exact a0D.same hR (c (v':=.bool true) (by simp [binOp,h0O J]) (by simp [eqGuard])) (.bool _)
   ·cases hb
  ·split at hb
   ·rename_i F e2 G;cases hb
    rw [F] at j;rw [e2] at s;cases j;cases s
    obtain ⟨p,q,r,z⟩:=l0R G;subst z
    exact a0D.same hR (c (v':=.bool false) (by simp [binOp,h0O J]) (by simp [eqGuard])) (.bool _)
   ·cases hb
  ·split at hb
   ·rename_i F e2 G;cases hb
    rw [F] at j;rw [e2] at s;cases s
    obtain ⟨p,q,r,z⟩:=l0R G;subst z
    cases j
    exact a0D.same hR (c (v':=.bool false) (by simp [binOp,h0P J]) (by simp [eqGuard])) (.bool _)
   ·cases hb
  ·split at hb
   ·rename_i F e2 G;cases hb
    rw [F] at j;rw [e2] at s;cases s
    obtain ⟨p,q,r,z⟩:=l0R G;subst z
    cases j
    exact a0D.same hR (c (v':=.bool true) (by simp [binOp,h0P J]) (by simp [eqGuard])) (.bool _)
   ·cases hb
  ·rename_i p q F e2;cases hb
   rw [F] at j;rw [e2] at s;cases j;cases s
   exact a0D.same hR (c (v':=.bool (p.data.toList == q.data.toList)) (by rw [binOp_string_eql,ByteArray.toList_eq,ByteArray.toList_eq];rfl) (by simp [eqGuard])) (.bool _)
  ·rename_i p q F e2;cases hb
   rw [F] at j;rw [e2] at s;cases j;cases s
   exact a0D.same hR (c (v':=.bool !(p.data.toList == q.data.toList)) (by rw [binOp_string_neq,ByteArray.toList_eq,ByteArray.toList_eq];rfl) (by simp [eqGuard])) (.bool _)
  ·rename_i p q F e2
   split at hb
   ·rename_i S;cases hb
    rw [F] at j;rw [e2] at s;cases j;cases s
    have hs:((p.size + q.size:Nat):Int)<=IntKind.i64.max:=by
     have j:p.data.toList.length=p.size:=by rw [O1a];rfl
     have s:q.data.toList.length=q.size:=by rw [O1a];rfl
     rw [j,s] at S
     simp [IntKind.max,IntKind.signed,IntKind.bits];omega
    have he:(⟨(p.data.toList ++ q.data.toList).toArray⟩:ByteArray)=p ++ q:=by
     apply ByteArray.ext;simp
    rw [he]
    exact a0D.same hR (c (v':=.string (p ++ q)) (by rw [binOp_string_add];simp only [Op.stringOp];rw [M1V (by omega)];rfl) (by simp [eqGuard])) (.str _)
   ·cases hb
  ·cases hb
theorem F1m {u:UnOp} {F:TypeId} {x:Operand} {s:Opd} (ho:o.op=.unOp u F x) (z:b0s x=some s) (y:a0s s = true) {v:Value} (h:opA fl t H (.un u s)=.val v H'):a0D X fl φ H w o a v H':=by
 have c:=a0V hT z y
 simp only [opA] at h
 cases hb:unA u (ev t s) with
 | none=>simp [hb,a0R] at h
 | some r =>
  simp only [hb,a0R,OpRes.val.injEq] at h
  obtain ⟨rfl,rfl⟩:=h
  generalize j:a.eval x=g1 at c
  unfold unA at hb
  split at hb
  ·rename_i k n q;cases hb;rw [q] at c;cases c
   exact a0D.same hR (v':=_) (by simp [execOp,ho,j,Op.unary,Op.intArith]) (.int _ _)
  ·rename_i k n q;cases hb;rw [q] at c;cases c
   exact a0D.same hR (v':=_) (by simp [execOp,ho,j,Op.unary,Op.intBits]) (.int _ _)
  ·rename_i k q;cases hb;rw [q] at c;cases c
   exact a0D.same hR (v':=_) (by simp [execOp,ho,j,Op.unary]) (.bool _)
  ·cases hb
theorem F0e {c:Bool} {Y:Builtin} {J:Array TypeId} {as:Array Operand} {x:Operand} {xs:List Operand} {I:Opd} {j:List Opd}
  (ho:o.op=.call { callee:=.builtin Y,args:=as,argTypes:=J }) (N:Y=if c then .max else .min) (M:as.toList=x :: xs) (hx:b0s x=some I) (R:i0I xs=some j)
  (Z:a0s I = true) (L:j.all a0s=true) {v:Value} (h:opA fl t H (.mnx c I j)=.val v H'):a0D X fl φ H w o a v H':=by
 have h1:=a0V hT hx Z
 have h2:=j0r hT R L
 have s:as=(x :: xs).toArray:=by rw [<- N1A (xs:=as),M]
 subst s
 simp only [opA] at h
 cases hb:v0t c (ev t I) (j.map (ev t)) with
 | none=>simp [hb,a0R] at h
 | some r =>
  simp only [hb,a0R,OpRes.val.injEq] at h
  obtain ⟨rfl,rfl⟩:=h
  have S:∀ (l F:List Value) (u G r:Value),CR X φ (shq w) l F->VR X φ (shq w) u G->v0t c u l=some r ->
    ∃ k n,r=.int k n/\(F.foldlM (if c then Builtin.max2 else Builtin.min2) G).run X.P w=.ok (.int k n) w:=by
   intro l
   induction l with
   | nil =>
    intro F u G r O Q y
    rw [O.nil_left]
    cases u <;> simp [v0t] at y
    subst y;cases Q
    exact ⟨_,_,rfl,rfl⟩
   | cons p q ih =>
    intro F u G r O Q y
    obtain ⟨p',q',rfl,hp,hq⟩:=O.cons_left
    cases u <;> cases p <;> simp [v0t] at y
    cases Q;cases hp
    rename_i k n k2 U
    obtain ⟨k3,n3,rfl,h3⟩:=ih q' _ _ r hq (.int k (mn2 c n U)) y
    refine ⟨k3,n3,rfl,?_⟩
    rw [List.foldlM_cons,Sem.run_bind]
    have:((if c then Builtin.max2 else Builtin.min2) (.int k n) (.int k2 U)).run X.P w=.ok (.int k (mn2 c n U)) w:=by
     cases c <;> simp [Builtin.max2,Builtin.min2,mn2]
    rw [this];exact h3
  obtain ⟨k,n,rfl,z⟩:=S _ _ _ _ _ h2 h1 hb
  refine a0D.same hR (v':=.int k n) ?_ (.int _ _)
  subst N
  cases c
  ·simp only [N1g,N1G] at z ho
   simp [execOp,ho,resolve,invoke,builtin,Builtin.min_,z]
  ·simp only [N1E] at z ho
   simp [execOp,ho,resolve,invoke,builtin,Builtin.max_,z]
end
theorem c0P {p:Addr} (h:p.spot=none) (n:Nat):p.add n = ⟨p.block,p.off + n,none⟩:=by
 cases p;simp only at h;subst h;unfold Addr.add;split <;> simp_all
theorem k0n {P:Program} {v v':Value} {d n y:Nat} (c:VR X φ S v v') (hb:bnd d (some v)=some n) (j:n<=y) (code:BoundsCode) (w:World):(Instr.sliceBound v' y code).run P w=.ok n w:=by
 cases v <;> simp [bnd] at hb
 obtain ⟨h,rfl⟩:=hb
 cases c
 rename_i k i
 simp [Instr.sliceBound,asIntOf]
 omega
theorem m0h {B o off:Nat} {w:World} {c:List Value} (h:∀ j v,c[j]? = some v->w.cell? ⟨B,o + off + j,none⟩ = some v) :
  ∀ j v,c[j]? = some v->w.cell? ((⟨B,o + off,none⟩:Addr).add j)=some v:=fun j v k=>by rw [c0P rfl];exact h j v k
section
variable (hR:Rel X φ H w) (hT:CR X φ (shq w) t a.tmps.toList)
include hR hT
theorem F1l {ty e:TypeId} {size:Nat} {x:Operand} {lo hi mx:Option Operand} {x':Opd} {Q I G:Option Opd} (ho:o.op=.slice ty x lo hi mx) (he:h0N X.P ty=some e) (hs:c0E X.P e=some size)
  (hx:b0s x=some x') (a3:o0R lo=some Q) (b0:o0R hi=some I) (c1:o0R mx=some G) (fx:a0s x' = true) (a0:Q.toList.all a0s=true) (a4:I.toList.all a0s=true)
  (b3:G.toList.all a0s=true) {v:Value} (h:opA fl t H (.sl e size x' Q I G)=.val v H'):a0D X fl φ H w o a v H':=by
 have hv:=a0V hT hx fx
 have c5:=f0u he
 simp only [opA] at h
 split at h
 ·cases h
 rename_i a2
 cases hb:d0s size (ev t x') (Q.map (ev t)) (I.map (ev t)) (G.map (ev t)) with
 | none=>simp [hb,a0R] at h
 | some r =>
  simp only [hb,a0R,OpRes.val.injEq] at h
  obtain ⟨rfl,rfl⟩:=h
  have M:∀ {z:Option Operand} {z':Option Opd},o0R z=some z'->z'.toList.all a0s=true ->
    (z=none/\z' = none) ∨ ∃ p k,z=some p/\z' = some k/\VR X φ (shq w) (ev t k) (a.eval p):=by
   intro z z' hz hf
   cases z with
   | none=>simp [o0R] at hz;exact .inl ⟨rfl,hz.symm⟩
   | some p =>
    simp only [o0R] at hz
    cases hp:b0s p with
    | none=>simp [hp] at hz
    | some k=>simp [hp] at hz;subst hz;exact .inr ⟨p,k,rfl,rfl,a0V hT hp (by simpa using hf)⟩
  -- the J, as the model reckons them
  have J:∀ (len cap l y:Nat),bnd 0 (Q.map (ev t))=some l->bnd len (I.map (ev t))=some y->l<=y->y<=len->len<=cap->∀ m,
    ((G.map (ev t)=none/\m=cap) ∨ (∃ u,G.map (ev t)=some u/\(I.map (ev t)).isSome=true/\bnd 0 (some u)=some m/\y<=m/\m<=len)) ->
    (Instr.sliceBounds true len cap (lo.map a.eval) (hi.map a.eval) (mx.map a.eval)).run X.P w=.ok (l,y,m) w:=by
   intro len cap l y N hh L c7 c6 m hm
   rcases M c1 b3 with ⟨rfl,rfl⟩ | ⟨q,q',rfl,rfl,hq⟩
   ·rcases hm with ⟨_,rfl⟩ | ⟨u,hu,_⟩
    ·rcases M b0 a4 with ⟨rfl,rfl⟩ | ⟨p,k,rfl,rfl,hp⟩
     ·simp [bnd] at hh;subst hh
      rcases M a3 a0 with ⟨rfl,rfl⟩ | ⟨p2,b2,rfl,rfl,O⟩
      ·simp [bnd] at N;subst N;simp [Instr.sliceBounds]
      ·simp [Instr.sliceBounds,k0n O N L]
     ·rcases M a3 a0 with ⟨rfl,rfl⟩ | ⟨p2,b2,rfl,rfl,O⟩
      ·simp [bnd] at N;subst N;simp [Instr.sliceBounds,k0n hp hh (show y<=m by omega)]
      ·simp [Instr.sliceBounds,k0n O N L,k0n hp hh (show y<=m by omega)]
    ·simp at hu
   ·rcases hm with ⟨hu,_⟩ | ⟨u,hu,Y,a5,b1,b8⟩
    ·simp at hu
    ·simp only [N1M,M1Q] at hu;subst hu
     rcases M b0 a4 with ⟨rfl,rfl⟩ | ⟨p,k,rfl,rfl,hp⟩
     ·simp at Y
     ·rcases M a3 a0 with ⟨rfl,rfl⟩ | ⟨p2,b2,rfl,rfl,O⟩
      ·simp [bnd] at N;subst N;simp [Instr.sliceBounds,k0n hq a5 (show m<=cap by omega),k0n hp hh b1]
      ·simp [Instr.sliceBounds,k0n hq a5 (show m<=cap by omega),k0n hp hh b1,k0n O N L]
  generalize hg:a.eval x=g at hv
  unfold d0s at hb
  split at hb
  ·rename_i p len cap e1
   rw [e1] at hv a2
   split at hb
   ·rename_i l y N hh
    split at hb
    ·rename_i L
     have fin:∀ (k:Option Addr) (j m:Nat),g=.slice k len j->len<=j ->
       ((G.map (ev t)=none/\m=j) ∨ (∃ u,G.map (ev t)=some u/\(I.map (ev t)).isSome=true/\bnd 0 (some u)=some m/\y<=m/\m<=len)) ->
       (execOp a.eval o).run X.P w=.ok (.value (.slice (if m=l then k else k.map (·.add (l * size))) (y - l) (m - l))) w:=by
      intro k j m F S hm
      have b5:=J len j l y N hh L.1 L.2 S m hm
      simp only [execOp,ho,hg,F,Instr.sliceAt,Instr.slice,Sem.run_bind,run_underlying c5,Result.andThen_ok,b5,c0R hs,Sem.run_pure]
     -- the values fit
     have val:∀ (j m:Nat) (c2:Nat),VR X φ (shq w) (.slice p len cap) g->(∃ k,g=.slice k len j)->y<=m->m<=j->(c2 ≠ unk->m - l=c2)->(p=none ∨ cap=0->c2=0) ->
       ∀ k,g=.slice k len j->VR X φ (shq w) (.slice (p.map fun q=>⟨q.block,q.off + l * size,none⟩) (y - l) c2) (.slice (if m=l then k else k.map (·.add (l * size))) (y - l) (m - l)):=by
      intro j m c2 c4 _ h1 h2 h3 hz k c3
      subst c3
      cases c4 with
      | snil =>
       have:l=0:=by omega
       have:y=0:=by omega
       have:m=0:=by omega
       have:=hz (.inl rfl)
       subst_vars
       exact .snil
      | sle q q' =>
       have:l=0:=by omega
       have:y=0:=by omega
       have:m=0:=by omega
       have:=hz (.inr rfl)
       subst_vars
       simp only [Nat.sub_self,N1E,N1M]
       exact .sle _ _
      | sl q q' _ _ _ B o' g1 g2 g3 g4 g5 g6 g7 g8 =>
       have e2:(if m=l then some q' else (some q').map (·.add (l * size)))=some (if m=l then q' else q'.add (l * size)):=by split <;> rfl
       rw [e2]
       refine .sl _ _ _ _ _ B o' rfl g2 ?_ ?_ ?_ h3 (by omega) ?_
       ·split
        ·exact g3
        ·rw [c0P g3]
       ·split
        ·exact g4
        ·rw [c0P g3];exact g4
       ·intro c8
        rw [M1V (by omega),c0P g3]
        simp only
        rw [g5 (by omega)];omega
       ·intro s
        have R:X.base<=q'.block:=by
         split at s
         ·exact s
         ·rw [c0P g3] at s;exact s
        obtain ⟨e2,n,g9,b4⟩:=g8 R
        split
        ·rename_i b8;refine ⟨e2,n,g9,?_⟩
         have:m - l=0:=by omega
         rw [this]
         have:0 * X.P.cellsOf e2<=j * X.P.cellsOf e2:=N1e _ (N1K _)
         omega
        ·rw [c0P g3]
         -- the row's element type is the slice's
         have b7:X.P.cellsOf e2=size:=by
          cases hk:H.bk q.block with
          | dead =>
           have a1:cap=0:=by
            rcases O1P cap with h | h
            ·exact h
            ·have:cap ≠ 0:=by omega
             simp [elemOk,hk,this] at a2
           have:=g6 (by subst a1;simp [unk])
           omega
          | row ro e3 cs =>
           obtain ⟨c,el,fz,k1,k2,k3,k4,k5⟩:=(hR.row _ _ _ _ _ _ g2 hk).cells (V0u g4 g8)
           cases ro with
           | true=>have:=k5 rfl;omega
           | false =>
            obtain ⟨k6,rfl,rfl⟩:=k4 rfl
            have a8:(el == e)=true:=by
             have a1:cap ≠ 0:=fun h=>by have:=g6 (by subst h;simp [unk]);omega
             simpa [elemOk,hk,a1] using a2
            have a9:el=e:=by simpa using a8
            rw [g4] at g9
            simp only [shq,k1,M1Q,N1V] at g9
            rw [<- g9.1,a9]
            exact d0Y hs
         refine ⟨e2,n,g9,?_⟩
         simp only
         rw [b7] at b4 ⊢
         have:l * size + (m - l) * size=m * size:=by rw [<- N1t];congr 1;omega
         have:m * size<=j * size:=N1e _ h2
         omega
     have Z:∃ k j,g=.slice k len j/\len<=j/\(cap ≠ unk->j = cap):=by
      cases hv with
      | snil=>exact ⟨_,_,rfl,M1U _,fun _=>rfl⟩
      | sle q q'=>exact ⟨_,_,rfl,M1U _,fun _=>rfl⟩
      | sl q q' _ _ j B o' g1 g2 g3 g4 g5 g6 g7 g8=>exact ⟨_,_,rfl,g7,g6⟩
     obtain ⟨k,j,F,S,a6⟩:=Z
     split at hb
     ·rename_i b9;cases hb
      refine a0D.same hR (fin k j j F S (.inl ⟨b9,rfl⟩)) (val j j _ hv ⟨_,F⟩ (by omega) (M1U _) ?_ ?_ k F)
      ·intro Y
       split at Y
       ·exact N1i rfl Y
       ·rename_i a7;rw [M1V a7,a6 a7]
      ·rintro (hp | hp)
       ·subst hp
        cases hv
        simp [unk]
       ·subst hp
        simp [unk]
     ·rename_i u c0
      split at hb
      ·rename_i m b6
       split at hb
       ·rename_i U;cases hb
        exact a0D.same hR (fin k j m F S (.inr ⟨u,c0,U.1,b6,U.2.1,U.2.2⟩)) (val j m _ hv ⟨_,F⟩ U.2.1 (by omega) (fun _=>rfl) (fun hp=>hp.elim (fun hp=>by subst hp;cases hv;omega) (fun hp=>by have:=a6 (by subst hp;simp [unk]);omega)) k F)
       ·cases hb
      ·cases hb
    ·cases hb
   ·cases hb
  ·cases hb
omit hR hT in
theorem q0q {P:Program} {c:TypeId} (h:g0N P c=true):P.underlying c=some .string:=by
 unfold g0N at h;split at h
 ·rename_i j;exact j
 ·cases h
omit hR hT in
theorem q0p (s:ByteArray):s.data.toList.length=s.size:=by rw [O1a];rfl
omit hR hT in
theorem F0i (s:ByteArray) (i j:Nat):s.extract i j = ⟨((s.data.toList.take j).drop i).toArray⟩:=by
 apply ByteArray.ext
 apply O1x
 simp [ByteArray.data_extract,O1q]
theorem S0b {z:TypeId} {x:Operand} {k:Opd} {as:Array Operand} {at_:Array TypeId} (ho:o.op=.call { callee:=.builtin .len,args:=as,argTypes:=at_ }) (q:as.toList=[x]) (r:at_.toList=[z])
  (I:g0N X.P z=true) (L:b0s x=some k) (G:a0s k = true) {v:Value} (h:opA fl t H (.sop 0 [k])=.val v H'):a0D X fl φ H w o a v H':=by
 have y:=a0V hT L G
 have F:=q0q I
 have j:as = #[x]:=by rw [<- N1A (xs:=as),q]
 have c:at_ = #[z]:=by rw [<- N1A (xs:=at_),r]
 subst j c
 simp only [opA,O1o,List.map_nil] at h
 generalize J:a.eval x=g at y
 generalize ev t k = u at y h
 cases y <;> (try simp only [F0h,a0R] at h) <;> (try (cases h;done))
 rename_i s
 cases h
 refine a0D.same hR (v':=.int .i64 s.data.toList.length) ?_ (.int _ _)
 simp [execOp,ho,J,resolve,invoke,builtin,Builtin.len_,run_underlying F,goInt,q0p]
theorem t1P {G:TypeId} {x i:Operand} {q j:Opd} (ho:o.op=.index G x i) (M:g0N X.P G=true) (Q:b0s x=some q) (hi:b0s i=some j) (L:a0s q = true) (J:a0s j = true)
  {v:Value} (h:opA fl t H (.sop 1 [q,j])=.val v H'):a0D X fl φ H w o a v H':=by
 have F:=a0V hT Q L
 have c:=a0V hT hi J
 have I:=q0q M
 simp only [opA,O1o,List.map_nil] at h
 generalize N:a.eval x=g at F
 generalize z:a.eval i=g2 at c
 generalize ev t q = u at F h
 generalize ev t j = u2 at c h
 cases F <;> (try simp only [F0h,a0R] at h) <;> (try (cases h;done))
 cases c <;> (try simp only [F0h,a0R] at h) <;> (try (cases h;done))
 rename_i s k n
 by_cases r:0<=n
 ·rw [M1Z r] at h
  cases hb:s.data.toList[n.toNat]? with
  | none=>rw [hb] at h;cases h
  | some b =>
   rw [hb] at h
   simp only [N1M,OpRes.val.injEq] at h
   obtain ⟨rfl,rfl⟩:=h
   have O:n.toNat < s.size:=by rw [<- q0p];exact (N1b.1 hb).1
   have y:s[n.toNat]=b:=by
    have:=(N1b.1 hb).2
    rw [<- this];rfl
   refine a0D.same hR (v':=.int .u8 b.toNat) ?_ (.int _ _)
   have hi:=run_index_string (P:=X.P) w G s k n I
   rw [dif_pos ⟨r,by omega⟩,y] at hi
   simp [execOp,ho,N,z,hi]
 ·rw [M1V r] at h;cases h
theorem t1R {M:TypeId} {x hi:Operand} {lo:Option Operand} {G F z:Opd} (ho:o.op=.slice M x lo (some hi) none) (R:g0N X.P M=true) (Y:b0s x=some G) (U:b0s (lo.getD (.const (.int .i64 0)))=some F)
  (S:b0s hi=some z) (Q:a0s G = true) (fl':a0s F = true) (O:a0s z = true) {v:Value} (h:opA fl t H (.sop 2 [G,F,z])=.val v H'):a0D X fl φ H w o a v H':=by
 have I:=a0V hT Y Q
 have q:=a0V hT U fl'
 have j:=a0V hT S O
 have y:=q0q R
 simp only [opA,O1o,List.map_nil] at h
 generalize L:a.eval x=g at I
 generalize c:a.eval (lo.getD (.const (.int .i64 0)))=g2 at q
 generalize r:a.eval hi=g3 at j
 generalize ev t G = u at I h
 generalize ev t F = u2 at q h
 generalize ev t z = u3 at j h
 cases I <;> (try simp only [F0h,a0R] at h) <;> (try (cases h;done))
 cases q <;> (try simp only [F0h,a0R] at h) <;> (try (cases h;done))
 cases j <;> (try simp only [F0h,a0R] at h) <;> (try (cases h;done))
 rename_i s k n Z m
 by_cases hc:0<=n/\n<=m/\m<=s.data.toList.length
 ·rw [M1Z hc] at h
  simp only [OpRes.val.injEq] at h
  obtain ⟨rfl,rfl⟩:=h
  obtain ⟨N,c2,c3⟩:=hc
  have hsz:=q0p s
  refine a0D.same hR (v':=.string (s.extract n.toNat m.toNat)) ?_ (by rw [F0i];exact .str _)
  have J:(Instr.sliceBound (.int Z m) s.size .sliceAlen).run X.P w=.ok m.toNat w:=by simp [Instr.sliceBound,asIntOf,show 0<=m by omega,show m<=s.size by omega]
  cases lo with
  | none =>
   have:(.int .i64 0:Value)=.int k n:=by simpa [Act.eval] using c
   cases this
   simp [execOp,ho,L,r,Instr.sliceAt,Instr.slice,run_underlying y,Instr.sliceBounds,J]
  | some l =>
   simp only [N1D] at c
   have e2:(Instr.sliceBound (.int k n) m.toNat .sliceB).run X.P w=.ok n.toNat w:=by simp [Instr.sliceBound,asIntOf,N];omega
   simp [execOp,ho,L,c,r,Instr.sliceAt,Instr.slice,run_underlying y,Instr.sliceBounds,J,e2]
 ·rw [M1V hc] at h;cases h
theorem t1Q {G:TypeId} {x:Operand} {lo:Option Operand} {y r:Opd} (ho:o.op=.slice G x lo none none) (L:g0N X.P G=true) (N:b0s x=some y) (M:b0s (lo.getD (.const (.int .i64 0)))=some r)
  (J:a0s y = true) (fl':a0s r = true) {v:Value} (h:opA fl t H (.sop 3 [y,r])=.val v H'):a0D X fl φ H w o a v H':=by
 have z:=a0V hT N J
 have j:=a0V hT M fl'
 have q:=q0q L
 simp only [opA,O1o,List.map_nil] at h
 generalize F:a.eval x=g at z
 generalize c:a.eval (lo.getD (.const (.int .i64 0)))=g2 at j
 generalize ev t y = u at z h
 generalize ev t r = u2 at j h
 cases z <;> (try simp only [F0h,a0R] at h) <;> (try (cases h;done))
 cases j <;> (try simp only [F0h,a0R] at h) <;> (try (cases h;done))
 rename_i s k n
 by_cases hc:0<=n/\n<=s.data.toList.length
 ·rw [M1Z hc] at h
  simp only [OpRes.val.injEq] at h
  obtain ⟨rfl,rfl⟩:=h
  obtain ⟨I,O⟩:=hc
  have hsz:=q0p s
  refine a0D.same hR (v':=.string (s.extract n.toNat s.size)) ?_ (by rw [F0i,<- hsz,N1f];exact .str _)
  cases lo with
  | none =>
   have:(.int .i64 0:Value)=.int k n:=by simpa [Act.eval] using c
   cases this
   simp [execOp,ho,F,Instr.sliceAt,Instr.slice,run_underlying q,Instr.sliceBounds]
  | some l =>
   simp only [N1D] at c
   have e2:(Instr.sliceBound (.int k n) s.size .sliceB).run X.P w=.ok n.toNat w:=by simp [Instr.sliceBound,asIntOf,I];omega
   simp [execOp,ho,F,c,Instr.sliceAt,Instr.slice,run_underlying q,Instr.sliceBounds,e2]
 ·rw [M1V hc] at h;cases h
omit hR hT in
theorem n0W:∀ {cs:List Value} {l:List UInt8},bytesOf cs=some l->∃ ns:List Int,cs=ns.map (Value.int .u8)/\l=ns.map fun n=>UInt8.ofNat n.toNat
 | [],l,h=>by simp only [bytesOf,M1Q] at h;subst h;exact ⟨[],rfl,rfl⟩
 | c :: r,l,h=>by
  unfold bytesOf at h
  split at h
  ·rename_i e;cases e
  ·rename_i n q e
   cases e
   simp only [N1z] at h
   obtain ⟨k,j,rfl⟩:=h
   obtain ⟨ns,rfl,rfl⟩:=n0W j
   exact ⟨n :: ns,rfl,rfl⟩
  ·cases h
omit hR hT in
theorem v0n {S:Shp}:∀ {ns:List Int} {c:List Value},CR X φ S (ns.map (Value.int .u8)) c->c = ns.map (Value.int .u8)
 | [],c,h=>h.nil_left
 | n :: ns,c,h=>by
  obtain ⟨v',q,rfl,k,j⟩:=CR.cons_left h
  cases k
  rw [v0n j];rfl
theorem t1F {s d e:TypeId} {x:Operand} {I:Opd} (ho:o.op=.convert s d x) (hs:X.P.underlying s=some (.slice e)) (L:X.P.underlying d=some .string) (M:X.P.underlying e=some (.int .u8))
  (Y:b0s x=some I) (S:a0s I = true) {v:Value} (h:opA fl t H (.b2s I)=.val v H'):a0D X fl φ H w o a v H':=by
 have G:=a0V hT Y S
 simp only [opA] at h
 generalize N:a.eval x=g at G
 generalize ev t I = u at G h
 have C1b:∀ (p:Option Addr) (c:Nat),g=.slice p 0 c->a0D X fl φ H w o a (.string ⟨#[]⟩) H:=by
  rintro p c rfl
  refine a0D.same hR (v':=.string ⟨#[]⟩) ?_ (.str _)
  have:(convert s d (.slice p 0 c)).run X.P w=.ok (.string ⟨#[]⟩) w:=by
   rw [run_convert_bytes_string w s d e _ 0 c hs M L]
   cases p with
   | none=>simp [Conv.bytesToString];rfl
   | some p =>
    have y:(loadCells p 0).run X.P w=.ok (([]:List Int).map (Value.int .u8)).toArray w:=by simp [loadCells,loadCellsFrom]
    rw [run_bytesToString w p 0 c [] y];rfl
  simp [execOp,ho,N,this]
 unfold v1a at h
 split at h
 ·simp only [a0R,OpRes.val.injEq] at h
  obtain ⟨rfl,rfl⟩:=h
  cases G
  exact C1b _ _ rfl
 ·rename_i p n cap
  split at h
  ·rename_i cs k
   cases hb:bytesOf cs with
   | none=>rw [hb] at h;cases h
   | some l =>
    rw [hb] at h
    simp only [N1M,a0R,OpRes.val.injEq] at h
    obtain ⟨rfl,rfl⟩:=h
    obtain ⟨ns,rfl,rfl⟩:=n0W hb
    cases G with
    | sle _ q =>
     have y:ns.length=0:=by
      unfold a0c.cells? at k
      split at k
      ·split at k
       ·have:=congrArg List.length (Option.some.inj k);simpa using this.symm
       ·cases k
      ·cases k
     have:ns=[]:=N1r.1 y
     subst this
     exact C1b _ _ rfl
    | sl _ q _ _ c' B o' g1 g2 g3 g4 g5 g6 g7 g8 =>
     obtain ⟨J,R,Q,F,r⟩:=hR.cells g2 (V0u g4 g8) k
     have:=v0n F
     subst this
     refine a0D.same hR (v':=.string ⟨(ns.map fun n=>UInt8.ofNat n.toNat).toArray⟩) ?_ (.str _)
     have y:(loadCells q n).run X.P w=.ok (ns.map (Value.int .u8)).toArray w:=by
      have z:ns.length=n:=by simpa using J
      have:=run_loadCells_list (P:=X.P) w q (ns.map (Value.int .u8)) (fun j v O=>by
       have U:j < n:=by have:=(N1b.1 O).1;simp at this;omega
       rw [c0P g3,g4,g5 (by omega)]
       exact r j v O)
      simpa [z] using this
     have:(convert s d (.slice (some q) n c')).run X.P w=.ok (.string ⟨(ns.map fun n=>UInt8.ofNat n.toNat).toArray⟩) w:=by
      rw [run_convert_bytes_string w s d e _ n c' hs M L,run_bytesToString w q n c' ns y,foldl_push_bytes]
      simp [ByteArray.empty,ByteArray.emptyWithCapacity]
      rfl
     simp [execOp,ho,N,this]
  ·cases h
 ·cases h
theorem F1i {y:TypeId} {u:List Field} {f:Field} {n i:Nat} {x:Operand} {s:Opd} (ho:o.op=.fieldAddr y x i) (j:g0e X.P y=some u) (G:u[i]? = some f) (J:c0E X.P f.type=some n) (k:n ≠ 0)
  (M:b0s x=some s) (F:a0s s = true) {v:Value} (h:opA fl t H (.fa f.offset s)=.val v H'):a0D X fl φ H w o a v H':=by
 have r:=a0V hT M F
 obtain ⟨l,L,rfl⟩:=i0z j
 simp only [opA] at h
 split at h
 ·rename_i p z
  split at h
  ·cases h
  ·cases h
   rw [z] at r;generalize I:a.eval x=g at r
   cases r with
   | ptr _ q B o' h1 h2 h3 h4 =>
    subst h3
    have c:l[i]? = some f:=by simpa using G
    refine a0D.same hR (v':=.pointer (some ⟨B,o' + p.off + f.offset,none⟩)) ?_ (.ptr _ _ B o' rfl h2 (by simp [N1U]) h4)
    simp [execOp,ho,I,Instr.fieldAt,run_underlying L,c,Instr.sureAddr,fieldPlace,c0R J,k,c0P]
 ·cases h
theorem t1L {s:TypeId} {R:List Field} {f:Field} {i:Nat} {x:Operand} {Q:Opd} (ho:o.op=.fieldAddr s x i) (J:g0e X.P s=some R) (Z:R[i]? = some f) (hn:c0E X.P f.type=some 0)
  (y:f.offset=0) (z:f.byteOffset=0) (j:((List.range (X.P.cellsOf s)).all fun k=>(byteOfCell X.P X.P.depth s k).isSome)=true) (G:X.P.cellsOf s ≠ 0)
  (hx:b0s x=some Q) (U:a0s Q = true) {v:Value} (h:opA fl t H (.fa0 s Q)=.val v H'):a0D X fl φ H w o a v H':=by
 have O:=a0V hT hx U
 obtain ⟨l,hu,rfl⟩:=i0z J
 simp only [opA] at h
 split at h
 ·rename_i p S
  split at h
  ·rename_i r cs hk
   split at h
   ·rename_i hc
    obtain ⟨Y,rfl,F⟩:=hc
    cases h
    rw [S] at O;generalize hg:a.eval x=g at O
    cases O with
    | ptr _ q B o' h1 h2 h3 h4 =>
     subst h3
     have I:l[i]? = some f:=by simpa using Z
     obtain ⟨c,k1,k2,k3,k4⟩:=hR.blkT h2 h4 hk
     have N:w.shape? B=some (r,c.size):=by simp [World.shape?,k1]
     have u:∀ off,∃ n,(byteOf ⟨B,off,none⟩).run X.P w=.ok n w:=by
      intro off
      have L:off % X.P.cellsOf r < X.P.cellsOf r:=N1R _ (by omega)
      have hb:=N1H.1 j (off % X.P.cellsOf r) (N1N.2 L)
      obtain ⟨b,hb⟩:=Option.isSome_iff_exists.1 hb
      exact ⟨off / X.P.cellsOf r * X.P.bytesOf r + b,by simp [byteOf,noView,viewAt,N,G,hb]⟩
     obtain ⟨nb,M⟩:=u (o' + p.off)
     refine a0D.same hR (v':=.pointer (some ⟨B,o' + p.off,none⟩)) ?_ (.ptr _ _ B o' rfl h2 (by simp [F]) h4)
     simp [execOp,ho,hg,Instr.fieldAt,run_underlying hu,I,Instr.sureAddr,fieldPlace,c0R hn,partAt,y,z,M]
   ·cases h
  ·cases h
 ·cases h
theorem F1j {I e:TypeId} {size:Nat} {x y:Operand} {F G:Opd} (ho:o.op=.indexAddr I x y) (N:h0N X.P I=some e) (hs:c0E X.P e=some size) (R:b0s x=some F) (S:b0s y=some G)
  (L:a0s F = true) (M:a0s G = true) {v:Value} (h:opA fl t H (.ia size F G)=.val v H'):a0D X fl φ H w o a v H':=by
 have u:=a0V hT R L
 have hi:=a0V hT S M
 have z:=f0u N
 simp only [opA] at h
 split at h
 ·rename_i p n c k j J e2
  split at h
  ·rename_i Q;cases h
   rw [J] at u;rw [e2] at hi
   generalize O:a.eval x=g at u
   generalize s:a.eval y=g2 at hi
   cases hi
   cases u with
   | sle _ q=>omega
   | sl _ q _ _ c' B o' g1 g2 g3 g4 g5 g6 g7 g8 =>
    have r:=g5 (by omega)
    refine a0D.same hR (v':=.pointer (some ⟨B,o' + (p.off + j.toNat * size),none⟩)) ?_ (.ptr _ _ B o' rfl g2 rfl (V0u g4 g8))
    simp [execOp,ho,O,s,Instr.indexAt,asIntOf,run_underlying z,Q,c0R hs,c0P g3,g4,r,N1U]
  ·cases h
 ·cases h
theorem t1M {L:TypeId} {F:List Field} {f:Field} {n i:Nat} {b:Bool} {x:Operand} {q:Opd} (ho:o.op=.field L x i) (u:g0e X.P L=some F) (O:F[i]? = some f) (R:c0E X.P f.type=some n)
  (hb:l0c X.P f.type=some b) (S:b0s x=some q) (N:a0s q = true) {v:Value} (h:opA fl t H (.fld b f.offset n q)=.val v H'):a0D X fl φ H w o a v H':=by
 have z:=a0V hT S N
 obtain ⟨l,J,rfl⟩:=i0z u
 have j:l[i]? = some f:=by simpa using O
 simp only [opA] at h
 cases hr:S0r b f.offset n (ev t q) with
 | none=>simp [hr,a0R] at h
 | some r =>
  simp only [hr,a0R,OpRes.val.injEq] at h
  obtain ⟨rfl,rfl⟩:=h
  generalize I:a.eval x=g at z
  unfold S0r at hr
  split at hr
  ·rename_i cs M
   rw [M] at z
   cases z with
   | agg _ cs' h1 h2 =>
    have s:=VR.agg_iff.1 (.agg cs cs' h1 h2)
    split at hr
    ·rename_i c
     split at hr
     ·rename_i Q;cases hr
      refine a0D.same hR (v':=.agg (cs'.extract f.offset (f.offset + n))) (by simp [execOp,ho,I,Instr.field,run_underlying J,j,asAgg,part,h0J hb,c,c0R R]) ?_
      exact VR.agg_iff.2 (by simpa [Array.toList_extract] using (s.drop f.offset).take n)
     ·cases hr
    ·rename_i c
     have y:f.offset < cs.size:=(N1y.1 hr).1
     have k:cs'[f.offset]? = some cs'[f.offset]:=N1v (by omega)
     have G:=h2 f.offset y
     simp only [M1Y,hr,N1D,k] at G
     exact a0D.same hR (v':=cs'[f.offset]) (by simp [execOp,ho,I,Instr.field,run_underlying J,j,asAgg,part,h0J hb,c,k]) G
  ·cases hr
theorem R0W {N:TypeId} {n:Nat} {b:Bool} {x:Operand} {G:Opd} (ho:o.op=.load N x) (O:c0E X.P N=some n) (hb:l0c X.P N=some b) (Y:b0s x=some G) (S:a0s G = true)
  {v:Value} (h:opA fl t H (.load b n G)=.val v H'):a0D X fl φ H w o a v H':=by
 have M:=a0V hT Y S
 simp only [opA] at h
 cases hr:b0w H b n (ev t G) with
 | none=>simp [hr,a0R] at h
 | some r =>
  simp only [hr,a0R,OpRes.val.injEq] at h
  obtain ⟨rfl,rfl⟩:=h
  generalize L:a.eval x=g at M
  unfold b0w at hr
  split at hr
  ·rename_i p R
   rw [R] at M
   cases M with
   | ptr _ q B o' h1 h2 h3 h4 =>
    subst h3
    split at hr
    ·rename_i I;cases hr
     obtain ⟨rfl,rfl⟩:=I
     exact a0D.same hR (v':=.agg #[]) (by simp [execOp,ho,L,Instr.loadAt,Instr.sureAddr,loadVar,h0J hb,c0R O,loadCells,loadCellsFrom]) (VR.agg_iff.2 CR.nil)
    ·split at hr
     ·cases hr
     ·split at hr
      ·rename_i cs J
       obtain ⟨j,s,k,z,c⟩:=hR.cells h2 h4 J
       cases b with
       | true =>
        simp only [N1E] at hr j k;cases hr
        have F:=run_loadCells_list (P:=X.P) w ⟨B,o' + p.off,none⟩ s (m0h c)
        rw [k] at F
        exact a0D.same hR (v':=.agg s.toArray) (by simp [execOp,ho,L,Instr.loadAt,Instr.sureAddr,loadVar,h0J hb,c0R O,F]) (VR.agg_iff.2 (by simpa using z))
       | false =>
        simp only [N1g,N1G] at hr j k
        cases cs with
        | nil=>simp at j
        | cons u r' =>
         simp only [List.head?_cons,M1Q] at hr;subst hr
         obtain ⟨Q,r2,rfl,U,_⟩:=z.cons_left
         have y:=c 0 Q rfl
         simp only [N1O] at y
         exact a0D.same hR (v':=Q) (by simp [execOp,ho,L,Instr.loadAt,Instr.sureAddr,loadVar,h0J hb,y]) U
      ·cases hr
  ·cases hr
end
theorem v0q {P:Program} {α c:Type} (g:α->Sem c) (f:α->c) (w:World):∀ (l:List α),(∀ x ∈ l,(g x).run P w=.ok (f x) w)->(l.mapM g).run P w=.ok (l.map f) w
 | [],_=>by simp
 | x :: r,h=>by
  have j:=h x (by simp)
  have k:=v0q g f w r (fun y q=>h y (by simp [q]))
  simp [O1M,j,k]
theorem u0Q:∀ (vs:List Value) (cs:Array Value) (off:Nat) (k:Nat),((vs.toArray.zipIdx k).foldl (fun cs (c,j)=>cs.setIfInBounds (off + j) c) cs).toList=b0e cs.toList (off + k) vs:=by
 intro vs
 induction vs with
 | nil =>
  intro cs off k
  have e:(([]:List Value).toArray.zipIdx k) = #[]:=by apply O1x;simp
  rw [e];simp [b0e]
 | cons v r ih =>
  intro cs off k
  have e:((v :: r).toArray.zipIdx k) = #[(v,k)] ++ (r.toArray.zipIdx (k + 1)):=by
   apply O1x
   simp [List.zipIdx_cons]
  rw [e,Array.foldl_append]
  simp only [b0e]
  have:=ih (cs.setIfInBounds (off + k) v) off (k + 1)
  rw [N1U]
  simpa using this
theorem p0c (c:Nat->Option (Nat × Nat)):∀ (s:List (Nat × Nat × Value)) (x:List (Nat × Value)) (cs q:List Value) (r:List Value),
  s.length=x.length->(∀ i,i < s.length->c (x.getD i default).1=some ((s.getD i default).1,(s.getD i default).2.1)/\VR X φ S (s.getD i default).2.2 (x.getD i default).2) ->
  CR X φ S cs q->d0M cs s=some r->∃ z,Instr.fill c q.toArray x=some z.toArray/\CR X φ S r z
 | [],[],cs,q,r,_,_,hc,h=>by simp [d0M] at h;subst h;exact ⟨q,by simp [Instr.fill],hc⟩
 | [],_ :: _,_,_,_,hl,_,_,_=>by simp at hl
 | _ :: _,[],_,_,_,hl,_,_,_=>by simp at hl
 | (off,n,v) :: s,(i,u) :: x,cs,q,r,hl,hp,hc,h=>by
  have J:=hp 0 (by simp)
  simp only [List.getD_cons_zero] at J
  obtain ⟨H,I⟩:=J
  simp only [d0M] at h
  split at h
  ·rename_i w
   have k:=I.cells
   have y:=k.1
   have hsz:u.cells.size=n:=by rw [<- w.1,y];simp
   have F:=hc.write k off
   have G:=hc.1
   obtain ⟨z,L,M⟩:=p0c c s x _ _ r (by simpa using hl) (fun j N=>by have:=hp (j + 1) (by simpa using N);simpa using this) F h
   refine ⟨z,?_,M⟩
   unfold Instr.fill
   simp only [H,hsz,ne_eq,not_true_eq_false,N1L,N1s,false_or]
   rw [M1V (by simp;omega)]
   rw [<- L]
   congr 1
   apply O1x
   have:=u0Q u.cells.toList q.toArray off 0
   simp only [N1A,N1O] at this
   rw [this]
  ·cases h
theorem d0G (z:List Value):∀ n,(e0W z n).length=n * z.length
 | 0=>by simp [e0W]
 | n + 1=>by simp [e0W,d0G z n,N1t,Nat.add_comm]
theorem w0o (z:List Value) (c:0 < z.length):∀ (n i:Nat),i < n * z.length->(e0W z n)[i]? = z[i % z.length]?
 | 0,i,h=>by simp at h
 | n + 1,i,h=>by
  simp only [e0W]
  by_cases hi:i < z.length
  ·rw [O1C hi,N1o hi]
  ·rw [O1w (by omega),w0o z c n (i - z.length) (by rw [Nat.succ_mul] at h;omega)]
   congr 1
   exact (Nat.mod_eq_sub_mod (by omega)).symm
theorem k0m {z:List Value} (h:z.all r0g=true):∀ n,(e0W z n).all r0g=true
 | 0=>rfl
 | n + 1=>by simp only [e0W,List.all_append,M1W];exact ⟨h,k0m h n⟩
theorem k0D (z:Array Value) (n:Nat) (h:0 < z.size):((Array.range (n * z.size)).map (z[· % z.size]!)).toList=e0W z.toList n:=by
 apply O1V
 intro i
 by_cases hi:i < n * z.size
 ·rw [w0o z.toList (by simpa using h) n i (by simpa using hi)]
  have c:=N1R i h
  simp only [Array.toList_map,Array.toList_range,N1Q,O1j hi,N1M,O1a,N1S]
  rw [N1v c]
  simp [getElem!_def,N1v c]
 ·rw [N1d (by simp;omega),N1d (by rw [d0G];simp;omega)]
section
variable (hR:Rel X φ H w) (hT:CR X φ (shq w) t a.tmps.toList)
include hR hT
theorem a0D.made (h:fl<=H.size) (e:TypeId) (cs:List Value) (c:Array Value) (j:cs.length<=c.size) (hc:CR X φ (shq w) cs (c.toList.take cs.length)) (v v':Value)
  (k:(execOp a.eval o).run X.P w=.ok (.value v') (w.alloc (.cells c e)))
  (q:VR X (fun b=>if b=H.size then some (w.heap.size,0) else φ b) (shq (w.alloc (.cells c e))) v v'):a0D X fl φ H w o a v (H.push (.row false e cs)) :=
 have _:=hT
 ⟨_,_,v',.inl k,q,b0R.alloc hR e cs c j hc h⟩
omit hT in
theorem z0D (c:Array Value) (e:TypeId):VR X (fun b=>if b=H.size then some (w.heap.size,0) else φ b) (shq (w.alloc (.cells c e))) (.pointer (some ⟨H.size,0,none⟩)) (.pointer (some ⟨w.heap.size,0,none⟩)) :=
 have _:=hR
 .ptr _ _ w.heap.size 0 rfl (by simp) (by simp) (fun _=>⟨e,c.size,by simp only [shq,heap_alloc_new]⟩)
omit hT in
theorem j0X (c:Array Value) (e:TypeId) (n cap h size:Nat) (hs:X.P.cellsOf e=size) (j:cap ≠ unk->h = cap) (k:n<=h) (hsz:h * size<=c.size) :
  VR X (fun b=>if b=H.size then some (w.heap.size,0) else φ b) (shq (w.alloc (.cells c e))) (.slice (some ⟨H.size,0,none⟩) n cap) (.slice (some ⟨w.heap.size,0,none⟩) n h):=by
 have _:=hR
 refine .sl _ _ _ _ _ w.heap.size 0 rfl (by simp) rfl rfl (fun _=>rfl) j k (fun _=>⟨e,c.size,?_,by rw [hs];simpa using hsz⟩)
 simp only [shq,heap_alloc_new]
theorem F0a (j:fl<=H.size) {e:TypeId} {z:List Value} (ho:o.op=.alloc e) (q:k0S X.P e=some z):a0D X fl φ H w o a (.pointer (some ⟨H.size,0,none⟩)) (H.push (.row false e z)):=by
 obtain ⟨k,v,i,_,_,_,h,c⟩:=i0F q
 have r:z.length=v.cells.size:=by rw [<- h];simp
 refine a0D.made hR hT j e z v.cells (by omega) (by rw [h,N1f];exact f0K k) _ (.pointer (some ⟨w.heap.size,0,none⟩)) ?_ (z0D hR _ _)
 simp [execOp,ho,Instr.alloc,c,newVar,newRow]
theorem t1H (c:fl<=H.size) {e:TypeId} {x:Operand} {h:Opd} (ho:o.op=.box e x) (r:b0s x=some h) (q:a0s h = true) :
  a0D X fl φ H w o a (.pointer (some ⟨H.size,0,none⟩)) (H.push (.row false e (a0t (ev t h)))):=by
 have k:=(a0V hT r q).cells
 have j:=k.1
 refine a0D.made hR hT c e _ (a.eval x).cells (by rw [j];simp) (by rw [j,N1f];exact k) _ (.pointer (some ⟨w.heap.size,0,none⟩)) ?_ (z0D hR _ _)
 simp [execOp,ho,Instr.box,newVar,newRow]
omit hR in
theorem r0O {k:List Field}:∀ {j:List (Nat × Operand)} {c:List (Nat × Nat × Opd)},m0e X.P k j=some c->(c.map (·.2.2)).all a0s=true ->
  (b0c t c).length=j.length/\∀ i,i < j.length->(∃ f n,k[(j.getD i default).1]? = some f/\c0E X.P f.type=some n/\((b0c t c).getD i default).1=f.offset/\((b0c t c).getD i default).2.1=n) /\
   VR X φ (shq w) ((b0c t c).getD i default).2.2 (a.eval (j.getD i default).2)
 | [],c,h,_=>by simp [m0e] at h;subst h;simp [b0c]
 | p :: j,c,h,hf=>by
  simp only [m0e] at h
  cases h1:k[p.1]? with
  | none=>simp [h1] at h
  | some f =>
   cases h2:c0E X.P f.type with
   | none=>simp [h1,h2] at h
   | some n =>
    cases h3:b0s p.2 with
    | none=>simp [h1,h2,h3] at h
    | some x =>
     cases h40:m0e X.P k j with
     | none=>simp [h1,h2,h3,h40] at h
     | some qs' =>
      simp [h1,h2,h3,h40] at h;subst h
      simp only [O1o,N1u,M1W] at hf
      obtain ⟨q,r⟩:=r0O h40 hf.2
      refine ⟨by simpa [b0c] using q,fun i hi=>?_⟩
      cases i with
      | zero=>exact ⟨⟨f,n,by simpa using h1,h2,rfl,rfl⟩,by simpa [b0c] using a0V hT h3 hf.1⟩
      | succ i=>have:=r i (by simpa using hi);simpa [b0c] using this
theorem F0b {L:TypeId} {y:List Field} {z:List Value} {j:Array (Nat × Operand)} {u:List (Nat × Nat × Opd)} (ho:o.op=.build L j) (G:g0e X.P L=some y)
  (q:(y.all fun f=>(c0E X.P f.type).isSome)=true) (hz:k0S X.P L=some z) (hq:m0e X.P y j.toList=some u) (Y:(u.map (·.2.2)).all a0s=true)
  {v:Value} (h:opA fl t H (.build z u)=.val v H'):a0D X fl φ H w o a v H':=by
 obtain ⟨l,hu,rfl⟩:=i0z G
 obtain ⟨F,zv,i,_,_,_,J,s⟩:=i0F hz
 simp only [opA] at h
 cases hfill:d0M z (b0c t u) with
 | none=>simp [hfill,a0R] at h
 | some r =>
  simp only [hfill,N1M,a0R,OpRes.val.injEq] at h
  obtain ⟨rfl,rfl⟩:=h
  obtain ⟨M,Z⟩:=r0O (w:=w) hT hq Y
  let sz:Field->Nat:=fun f=>(c0E X.P f.type).getD 0
  have c:(l.mapM fun f=>do pure (f.offset,<- sizeOf f.type):Sem (Array (Nat × Nat))).run X.P w=.ok (l.map fun f=>(f.offset,sz f)) w:=by
   rw [O1Y]
   have:=v0q (P:=X.P) (fun f:Field=>(do pure (f.offset,<- sizeOf f.type):Sem (Nat × Nat))) (fun f=>(f.offset,sz f)) w l.toList (fun f F=>by
    have k:=N1H.1 q f F
    obtain ⟨n,N⟩:=Option.isSome_iff_exists.1 k
    simp [c0R N,sz,N])
   simp only [Sem.run_map,this,Result.andThen_ok]
   congr 1
   apply O1x
   simp
  obtain ⟨r',k,h2⟩:=p0c (X:=X) (φ:=φ) (S:=(shq w)) (fun i=>(l.map fun f=>(f.offset,sz f))[i]?) (b0c t u) (j.toList.map fun p=>(p.1,a.eval p.2)) z zv.cells.toList r
   (by simpa using M) (fun i hi=>by
    rw [M] at hi
    obtain ⟨⟨f,n,O,e2,Q,R⟩,U⟩:=Z i hi
    have I:(j.toList.map fun p=>(p.1,a.eval p.2)).getD i default=((j.toList.getD i default).1,a.eval (j.toList.getD i default).2):=by
     simp only [M1R,N1Q,M1X hi,N1M,N1D]
    rw [I]
    refine ⟨?_,U⟩
    have x:l[(j.toList.getD i default).1]? = some f:=by simpa using O
    simp only [Array.getElem?_map,x,N1M,Q,R,sz,e2,N1D])
   (by rw [J];exact f0K F) hfill
  refine a0D.same hR (v':=.agg r'.toArray) ?_ (VR.agg_iff.2 (by simpa using h2))
  simp only [N1A] at k
  simp only [Array.getElem?_map] at k
  simp only [execOp,ho,Instr.build,Sem.run_bind,s,Result.andThen_ok,run_underlying hu,c]
  simp [k]
omit hR in
theorem o0o {size:Nat}:∀ {j:List (Nat × Operand)} {c:List (Nat × Nat × Opd)},j0q size j=some c->(c.map (·.2.2)).all a0s=true ->
  (b0c t c).length=j.length/\∀ i,i < j.length->((b0c t c).getD i default).1=(j.getD i default).1 * size/\((b0c t c).getD i default).2.1=size /\
   VR X φ (shq w) ((b0c t c).getD i default).2.2 (a.eval (j.getD i default).2)
 | [],c,h,_=>by simp [j0q] at h;subst h;simp [b0c]
 | p :: j,c,h,hf=>by
  simp only [j0q] at h
  cases h3:b0s p.2 with
  | none=>simp [h3] at h
  | some x =>
   cases h40:j0q size j with
   | none=>simp [h3,h40] at h
   | some qs' =>
    simp [h3,h40] at h;subst h
    simp only [O1o,N1u,M1W] at hf
    obtain ⟨k,q⟩:=o0o h40 hf.2
    refine ⟨by simpa [b0c] using k,fun i hi=>?_⟩
    cases i with
    | zero=>exact ⟨rfl,rfl,by simpa [b0c] using a0V hT h3 hf.1⟩
    | succ i=>have:=q i (by simpa using hi);simpa [b0c] using this
theorem t1O (J:fl<=H.size) {Y e:TypeId} {z:List Value} {n size:Nat} {j:Array (Nat × Operand)} {F:List (Nat × Nat × Opd)} (ho:o.op=.buildSlice Y n j) (he:h0N X.P Y=some e)
  (hs:c0E X.P e=some size) (hz:k0S X.P e=some z) (hsz:size=z.length) (U:0 < size) (Q:n * size<=16777216) (hq:j0q size j.toList=some F) (fq:(F.map (·.2.2)).all a0s=true)
  {v:Value} (h:opA fl t H (.lit e z n F)=.val v H'):a0D X fl φ H w o a v H':=by
 have hu:=f0u he
 obtain ⟨hf,G,i,_,_,_,x,u⟩:=i0F hz
 have y:G.cells.size=size:=by rw [hsz,<- x];simp
 simp only [opA] at h
 cases hfill:d0M (e0W z n) (b0c t F) with
 | none=>simp [hfill] at h
 | some r =>
  simp only [hfill,OpRes.val.injEq] at h
  obtain ⟨rfl,rfl⟩:=h
  obtain ⟨M,g2⟩:=o0o (w:=w) hT hq fq
  obtain ⟨r',I,O⟩:=p0c (X:=X) (φ:=φ) (S:=(shq w)) (fun i=>some (i * size,size)) (b0c t F) (j.toList.map fun p=>(p.1,a.eval p.2)) (e0W z n) (e0W z n) r
   (by simpa using M) (fun i hi=>by
    rw [M] at hi
    obtain ⟨e1,e2,e5⟩:=g2 i hi
    have L:(j.toList.map fun p=>(p.1,a.eval p.2)).getD i default=((j.toList.getD i default).1,a.eval (j.toList.getD i default).2):=by
     simp only [M1R,N1Q,M1X hi,N1M,N1D]
    rw [L,e1,e2]
    exact ⟨rfl,e5⟩)
   (f0K (k0m hf n)) hfill
  have c:∀ (j:List (Nat × Nat × Value)) (cs r:List Value),d0M cs j=some r->r.length=cs.length:=by
   intro j
   induction j with
   | nil=>intro cs r h;simp [d0M] at h;rw [h]
   | cons p j ih =>
    intro cs r h
    obtain ⟨q1,q2,q3⟩:=p
    simp only [d0M] at h
    split at h
    ·rw [ih _ _ h,c0I]
    ·cases h
  have R:r.length=n * size:=by rw [c _ _ _ hfill,d0G,hsz]
  have q:=O.1
  have s:((Array.range (n * size)).map (G.cells[· % G.cells.size]!))=(e0W z n).toArray:=by
   apply O1x
   have:=k0D G.cells n (by omega)
   rw [y,x] at this
   rw [y];simpa using this
  refine a0D.made hR hT J e r r'.toArray (by simp;omega) (by simpa [q] using O) _ (.slice (some ⟨w.heap.size,0,none⟩) n n) ?_
   (j0X hR _ e n n n size (d0Y hs) (fun _=>rfl) (M1U _) (by simp;omega))
  have k:¬ (n * size > 2 ^ 24):=by omega
  simp only [execOp,ho,Instr.buildSlice,Sem.run_bind,run_underlying hu,Result.andThen_ok,c0R hs]
  simp only [k,N1G,Sem.run_pure]
  by_cases N:n * size=0
  ·have hn:n=0:=by
    rcases Nat.mul_eq_zero.1 N with h | h
    ·exact h
    ·omega
   subst hn
   have Z:(Array.range 0) = #[]:=rfl
   simp [e0W] at I
   simp [I,newRow,Z]
  ·rw [M1V N]
   simp only [Sem.run_bind,u,Result.andThen_ok,Sem.run_pure,s]
   simp [I,newRow]
end
end
end Go.Proofs.YtgopfcmbofkmmaaGreat.AI
