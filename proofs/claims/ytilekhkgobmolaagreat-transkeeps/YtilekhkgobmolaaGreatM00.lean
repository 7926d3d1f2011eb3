/- Part 1 of the proof. -/
import Derived.Calls
import Derived.Laws.AppendOwn
import Derived.Laws.MakeOwn
import Derived.Laws.Build
set_option linter.unusedVariables false
set_option linter.unusedSimpArgs false
set_option linter.unusedSectionVars false
namespace Go.Proofs.YtilekhkgobmolaaGreat
abbrev k1v:=@List.getD_eq_getElem?_getD
abbrev k1w:=@Option.bind_eq_some_iff
abbrev k1x:=@Nat.le_refl
abbrev k1y:=@if_neg
abbrev k1z:=@Option.some.injEq
abbrev k1A:=@List.getElem?_eq_getElem
abbrev k1B:=@if_pos
abbrev k1C:=@Option.bind_eq_bind
abbrev k1D:=@List.getElem_mem
abbrev k1E:=@Nat.mul_le_mul_right
abbrev k1F:=@Option.pure_def
abbrev k1G:=@List.getElem?_eq_none
abbrev k1H:=@Nat.le_trans
abbrev k1I:=@Array.getD_eq_getD_getElem?
abbrev k1J:=@List.take_of_length_le
abbrev k1K:=@Nat.mul_add
abbrev k1L:=@Bool.and_eq_true
abbrev k1M:=@List.take_length
abbrev k1N:=@List.take_succ_eq_append_getElem
abbrev k1O:=@Nat.mul_assoc
abbrev k1P:=@Nat.lt_of_lt_of_le
abbrev k1Q:=@absurd
abbrev k1R:=@Nat.add_mul
abbrev k1S:=@List.length_append
abbrev k1T:=@List.mem_append
abbrev k1U:=@List.length_eq_zero_iff
abbrev k1V:=@Nat.pow_succ
abbrev k1W:=@Bool.false_eq_true
abbrev k1X:=@List.getElem_append_right
abbrev k1Y:=@Nat.mod_eq_of_lt
abbrev k1Z:=@Nat.mul_comm
abbrev l1a:=@List.all_eq_true
abbrev l1b:=@List.getElem?_eq_some_iff
abbrev l1c:=@Nat.mul_le_mul_left
abbrev l1d:=@Option.getD_some
abbrev l1e:=@Nat.zero_add
abbrev l1f:=@Array.getElem?_setIfInBounds
abbrev l1g:=@List.getElem?_set
abbrev l1h:=@Array.getElem?_eq_getElem
abbrev l1i:=@List.getElem?_append_left
abbrev l1j:=@Array.getElem?_eq_some_iff
abbrev l1k:=@decide_eq_true_eq
abbrev l1l:=@Nat.one_mul
abbrev l1m:=@List.getElem_map
abbrev l1n:=@List.getElem?_append_right
abbrev l1o:=@if_true
abbrev l1p:=@List.length_cons
abbrev l1q:=@List.drop_eq_getElem_cons
abbrev l1r:=@List.mem_map
abbrev l1s:=@List.getElem_append_left
abbrev l1t:=@Classical.byContradiction
abbrev l1u:=@Nat.mul_le_mul
abbrev l1v:=@List.length_take
abbrev l1w:=@List.length_map
abbrev l1x:=@Nat.min_eq_left
abbrev l1y:=@if_false
abbrev l1z:=@Int.mul_le_mul_of_nonneg_right
abbrev l1A:=@Nat.add_zero
abbrev l1B:=@Array.toArray_toList
abbrev l1C:=@Int.mul_nonpos_of_nonpos_of_nonneg
abbrev l1D:=@Nat.zero_le
abbrev l1E:=@List.all_cons
abbrev l1F:=@List.drop_zero
abbrev l1G:=@List.mem_range
abbrev l1H:=@Nat.mul_one
abbrev l1I:=@List.mem_iff_getElem
abbrev l1J:=@Nat.div_le_self
abbrev l1K:=@List.getElem?_take
abbrev l1L:=@List.getElem_of_mem
abbrev l1M:=@List.drop_append_of_le_length
abbrev l1N:=@List.getElem?_map
abbrev l1O:=@Int.add_zero
abbrev l1P:=@Nat.pow_le_pow_right
abbrev l1Q:=@List.getElem?_drop
abbrev l1R:=@Nat.add_assoc
abbrev l1S:=@Option.map_some
abbrev l1T:=@Nat.mod_lt
abbrev l1U:=@Int.tdiv_eq_ediv_of_nonneg
abbrev l1V:=@List.drop_eq_nil_of_le
abbrev l1W:=@List.getElem?_set_self
abbrev l1X:=@Array.size_push
abbrev l1Y:=@Int.natCast_mul
abbrev l1Z:=@List.nil_append
abbrev m1a:=@Nat.lt_of_mul_lt_mul_left
abbrev m1b:=@List.mem_cons
abbrev m1c:=@List.take_append_of_le_length
abbrev m1d:=@List.map_congr_left
abbrev m1e:=@Array.getElem?_toList
abbrev m1f:=@Int.natAbs_mul
abbrev m1g:=@List.drop_drop
abbrev m1h:=@List.getElem?_replicate
abbrev m1i:=@List.getElem_range
abbrev m1j:=@List.mem_singleton
abbrev m1k:=@Bool.not_eq_true'
abbrev m1l:=@List.getElem?_range
abbrev m1m:=@Ne.symm
abbrev m1n:=@Int.eq_of_mul_eq_mul_left
abbrev m1o:=@List.take_append_drop
abbrev m1p:=@Nat.div_lt_iff_lt_mul
abbrev m1q:=@Rat.add_zero
abbrev m1r:=@Nat.div_eq_of_lt
abbrev m1s:=@List.mem_of_mem_take
abbrev m1t:=@Prod.mk.injEq
abbrev m1u:=@List.append_assoc
abbrev m1v:=@Nat.mul_left_comm
abbrev m1w:=@Nat.pow_add
abbrev m1x:=@Nat.two_pow_add_eq_or_of_lt
abbrev m1y:=@Rat.intCast_mul
abbrev m1z:=@Array.getElem?_eq_none
abbrev m1A:=@Option.map_eq_some_iff
abbrev m1B:=@List.cons_append
abbrev m1C:=@BitVec.toNat_ofInt
abbrev m1D:=@Int.sub_eq_add_neg
abbrev m1E:=@Nat.eq_zero_or_pos
abbrev m1F:=@Rat.zero_mul
abbrev m1G:=@Int.mul_neg_of_pos_of_neg
abbrev m1H:=@List.take_take
abbrev m1I:=@List.mem_cons_of_mem
abbrev m1J:=@List.ext_getElem?
abbrev m1K:=@Nat.div_add_mod
abbrev m1L:=@Int.mul_zero
abbrev m1M:=@Array.toList_append
abbrev m1N:=@Int.gcd_le_natAbs_right
abbrev m1O:=@Int.mul_assoc
abbrev m1P:=@Int.toNat_of_nonneg
abbrev m1Q:=@List.take_succ_cons
abbrev m1R:=@Int.mul_nonneg
abbrev m1S:=@List.drop_take
abbrev m1T:=@List.mapM_cons
abbrev m1U:=@List.getElem_cons_succ
abbrev m1V:=@Bool.true_eq_false
abbrev m1W:=@List.mem_replicate
abbrev m1X:=@Bool.eq_iff_iff
abbrev m1Y:=@Int.mul_ne_zero
abbrev m1Z:=@List.all_append
abbrev n1a:=@List.all_nil
abbrev n1b:=@List.length_replicate
abbrev n1c:=@List.map_append
abbrev n1d:=@Nat.le_of_lt
abbrev n1e:=@Nat.mod_add_div
abbrev n1f:=@Nat.two_pow_pos
abbrev n1g:=@Rat.den_intCast
abbrev n1h:=@Rat.num_intCast
abbrev n1i:=@Bool.false_or
abbrev n1j:=@Int.gcd_dvd_right
abbrev n1k:=@Rat.divInt_eq_div
abbrev n1l:=@Nat.lt_of_mul_lt_mul_right
abbrev n1m:=@Array.mapM_eq_mapM_toList
abbrev n1n:=@List.take_zero
abbrev n1o:=@Rat.mul_nonneg
abbrev n1p:=@Bool.not_eq_true
abbrev n1q:=@List.ext_getElem
abbrev n1r:=@List.range'_succ
abbrev n1s:=@Nat.div_add_mod'
abbrev n1t:=@Array.length_toList
abbrev n1u:=@List.getElem_set_ne
abbrev n1v:=@List.length_pos_iff
abbrev n1w:=@List.replicate_succ
abbrev n1x:=@Rat.mul_pos
abbrev n1y:=@propext
abbrev n1z:=@Nat.sub_self
abbrev n1A:=@Bool.true_and
abbrev n1B:=@List.mem_cons_self
abbrev n1C:=@Nat.lt_of_le_of_lt
abbrev n1D:=@Rat.num_divInt_den
abbrev n1E:=@congrArg
abbrev n1F:=@Rat.div_def
abbrev n1G:=@Nat.sub_zero
abbrev n1H:=@Nat.zero_mul
abbrev n1I:=@Rat.le_of_lt
end Go.Proofs.YtilekhkgobmolaaGreat
namespace Go.Proofs.YtilekhkgobmolaaGreat.AI
section
open Go
def unk:Nat:=18446744073709551616
inductive Blk where
 | dead
 | row (ro:Bool) (elem:TypeId) (cells:List Value)
 deriving Inhabited
abbrev a0f:=Array Blk
abbrev b0c:=List Value
inductive Opd where
 | tmp (t:Nat)
 | const (v:Value)
 | fn (f:FuncId)
 deriving Inhabited
inductive SOp where
 | mv (x:Opd)
 | pick (c a b:Opd)
 | alloc (elem:TypeId) (zero:List Value)
 | box (elem:TypeId) (x:Opd)
 | build (zero:List Value) (parts:List (Nat × Nat × Opd))
 | lit (elem:TypeId) (zero:List Value) (len:Nat) (parts:List (Nat × Nat × Opd))
 | load (agg:Bool) (n:Nat) (a:Opd)
 | store (n:Nat) (a x:Opd)
 | chk (x:Opd)
 | bin (tag:Nat) (b:BinOp) (x y:Opd)
 | un (u:UnOp) (x:Opd)
 | conv (k:IntKind) (x:Opd)
 | iface (t:TypeId) (x:Opd)
 | mkfn (fn:Fn) (first captured:List Opd)
 | mk (elem:TypeId) (bytes:Nat) (zero:List Value) (len cap:Opd)
 | sl (elem:TypeId) (size:Nat) (x:Opd) (lo hi mx:Option Opd)
 | fa (off:Nat) (a:Opd)
 | fa0 (elem:TypeId) (a:Opd)
 | fld (agg:Bool) (off n:Nat) (x:Opd)
 | ia (size:Nat) (x i:Opd)
 | ext (x:Opd) (i:Nat)
 | call (f:FuncId) (args:List Opd) (lone:Bool)
 | callv (x:Opd) (args:List Opd) (lone:Bool)
 | inv (x:Opd) (tbl:List (TypeId × FuncId)) (args:List Opd) (lone:Bool)
 | len (x:Opd)
 | cap (x:Opd)
 | mnx (big:Bool) (x:Opd) (ys:List Opd)
 | app (elem:TypeId) (size bytes:Nat) (s x:Opd)
 | appz (elem:TypeId) (bytes:Nat) (zero:List Value) (s n:Opd)
 | pan (x:Opd)
 deriving Inhabited
structure a0J where
 dst:Option Nat
 g:Option (Nat × Bool)
 op:SOp
 deriving Inhabited
inductive SCode where
 | skip
 | seq (a b:SCode)
 | cond (c:Opd) (a b:SCode)
 | block (id:Nat) (c:SCode)
 | loop (c:SCode)
 | exit (id:Nat)
 | ret
 | reg (ops:List a0J)
 | draw (ops:List a0J) (bef:List Nat) (pairs:List (Nat × Nat))
 deriving Inhabited
inductive SRes where
 | tmp (t:Nat)
 | cell (a:Nat) (agg:Bool) (n:Nat)
 deriving Inhabited
structure w0J where
 np:Nat
 nt:Nat
 res:List SRes
 body:SCode
 deriving Inhabited
inductive XA where
 | normal
 | exit (id:Nat)
 | ret
 deriving DecidableEq,Inhabited
inductive Res (α:Type) where
 | bad
 | pan (v:Value)
 | ok (a:α)
namespace Res
def bind {α β:Type}:Res α->(α->Res β)->Res β
 | .bad,_=>.bad
 | .pan v,_=>.pan v
 | .ok a,f=>f a
end Res
def get (t:b0c) (i:Nat):Value:=t.getD i undef
def put (t:b0c):Option Nat->Value->b0c
 | some d,v=>t.set d v
 | none,_=>t
def ev (t:b0c):Opd->Value
 | .tmp i=>get t i
 | .const v=>v
 | .fn f=>.func (.func f) #[] #[]
def a0f.bk (H:a0f) (b:Nat):Blk:=H.getD b .dead
def a0f.cells? (H:a0f) (b off n:Nat):Option (List Value) :=
 match H.bk b with
 | .row _ _ cs=>if off + n<=cs.length then some ((cs.drop off).take n) else none
 | .dead=>none
def a0W:Value->List Value
 | .agg cs=>cs.toList
 | v=>[v]
def a0v:Value->Bool
 | .agg _ | .tuple _=>false
 | _=>true
def b0x (cs:List Value) (off:Nat):List Value->List Value
 | []=>cs
 | v :: r=>b0x (cs.set off v) (off + 1) r
def a0f.write? (H:a0f) (fl b off:Nat) (vs:List Value):Option a0f :=
 match H.bk b with
 | .row false e cs=>if fl<=b/\off + vs.length<=cs.length/\vs.all a0v=true then some (H.setIfInBounds b (.row false e (b0x cs off vs))) else none
 | _=>none
def g0X (cells:List Value):List (Nat × Nat × Value)->Option (List Value)
 | []=>some cells
 | (off,n,v) :: r=>if (a0W v).length=n/\off + n<=cells.length then g0X (b0x cells off (a0W v)) r else none
def b0D (t:b0c) (ps:List (Nat × Nat × Opd)):List (Nat × Nat × Value):=ps.map fun p=>(p.1,p.2.1,ev t p.2.2)
def e0M (zero:List Value):Nat->List Value
 | 0=>[]
 | n + 1=>zero ++ e0M zero n
def d0p (tag:Nat) (op:BinOp) (x y:Value):Option Value :=
 match op,x,y with
 | .shl,.int k a,.int _ b=>if 0<=b then some (.int k (k.wrap (a * 2 ^ (min b.toNat k.bits)))) else none
 | .shr,.int k a,.int _ b=>if 0<=b then some (.int k (a.fdiv (2 ^ (min b.toNat k.bits)))) else none
 | op,.int k a,.int k' b =>
  if k=k' then
   match op with
   | .add=>some (.int k (k.wrap (a + b)))
   | .sub=>some (.int k (k.wrap (a - b)))
   | .mul=>some (.int k (k.wrap (a * b)))
   | .quo=>if b=0 then none else some (.int k (k.wrap (a.tdiv b)))
   | .rem=>if b=0 then none else some (.int k (a.tmod b))
   | .and=>some (.int k (k.wrap (BitVec.ofInt k.bits a &&& BitVec.ofInt k.bits b).toNat))
   | .or=>some (.int k (k.wrap (BitVec.ofInt k.bits a ||| BitVec.ofInt k.bits b).toNat))
   | .xor=>some (.int k (k.wrap (BitVec.ofInt k.bits a ^^^ BitVec.ofInt k.bits b).toNat))
   | .andNot=>none
   | .eql=>some (.bool (a == b))
   | .neq=>some (.bool (a != b))
   | .lss=>some (.bool (a < b))
   | .leq=>some (.bool (a<=b))
   | .gtr=>some (.bool (a > b))
   | .geq=>some (.bool (a ≥ b))
   | .shl | .shr=>none
  else none
 | .eql,.bool a,.bool b=>if tag=1 then some (.bool (a == b)) else none
 | .neq,.bool a,.bool b=>if tag=1 then some (.bool (a != b)) else none
 | .eql,.slice a _ _,.slice none _ _=>if tag=2 then some (.bool a.isNone) else none
 | .neq,.slice a _ _,.slice none _ _=>if tag=2 then some (.bool a.isSome) else none
 | .eql,.nilFunc,.nilFunc=>if tag=3 then some (.bool true) else none
 | .neq,.nilFunc,.nilFunc=>if tag=3 then some (.bool false) else none
 | .eql,.func _ _ _,.nilFunc=>if tag=3 then some (.bool false) else none
 | .neq,.func _ _ _,.nilFunc=>if tag=3 then some (.bool true) else none
 | _,_,_=>none
def unA (u:UnOp) (x:Value):Option Value :=
 match u,x with
 | .neg,.int k n=>some (.int k (k.wrap (0 - n)))
 | .xor,.int k n=>some (.int k (k.wrap (BitVec.ofInt k.bits (if k.signed then -1 else k.max) ^^^ BitVec.ofInt k.bits n).toNat))
 | .not,.bool b=>some (.bool !b)
 | _,_=>none
def mn2 (big:Bool) (a b:Int):Int:=if big then (if b > a then b else a) else (if b < a then b else a)
def z0C (bytes:Nat):Value->Value->Option Nat
 | .slice none 0 0,.int _ n=>if 0 < n/\n<=1073741824/\bytes<=1024 then some n.toNat else none
 | _,_=>none
def a1s:Value->Option Value
 | .slice none 0 0=>some (.int .i64 0)
 | _=>none
def u0P (big:Bool):Value->List Value->Option Value
 | .int k a,[]=>some (.int k a)
 | .int k a,.int _ b :: r=>u0P big (.int k (mn2 big a b)) r
 | _,_=>none
def elemOk (H:a0f) (e:TypeId):Value->Bool
 | .slice (some p) _ cap=>if cap=0 then true else match H.bk p.block with | .row true _ _=>true | .row false e' _=>e' == e | .dead=>false
 | _=>true
def bnd (d:Nat):Option Value->Option Nat
 | none=>some d
 | some (.int _ n)=>if 0<=n then some n.toNat else none
 | some _=>none
def e0g (size:Nat) (x:Value) (lo hi mx:Option Value):Option Value :=
 match x with
 | .slice a len cap =>
  match bnd 0 lo,bnd len hi with
  | some l,some h =>
   if l<=h/\h<=len then
    match mx with
    | none=>some (.slice (a.map fun p=>⟨p.block,p.off + l * size,none⟩) (h - l) (if cap=unk then unk else cap - l))
    | some v =>
     match bnd 0 (some v) with
     | some m=>if hi.isSome=true/\h<=m/\m<=len then some (.slice (a.map fun p=>⟨p.block,p.off + l * size,none⟩) (h - l) (m - l)) else none
     | none=>none
   else none
  | _,_=>none
 | _=>none
def b0v (H:a0f) (agg:Bool) (n:Nat) (a:Value):Option Value :=
 match a with
 | .pointer (some p) =>
  if agg=true/\n=0 then some (.agg #[]) else
  if p.spot.isSome=true then none else
  match H.cells? p.block p.off (if agg then n else 1) with
  | some cs=>if agg then some (.agg cs.toArray) else cs.head?
  | none=>none
 | _=>none
def O0e (agg:Bool) (off n:Nat):Value->Option Value
 | .agg cs=>if agg then (if off + n<=cs.size then some (.agg (cs.extract off (off + n))) else none) else cs[off]?
 | _=>none
def i0H (fl:Nat) (H:a0f) (elem:TypeId) (size bytes:Nat) (s x:Value):Option (Value × a0f) :=
 match s,x with
 | .slice base len cap,.slice xb n _ =>
  if n=0 then some (.slice base len cap,H) else
  if len + n<=1073741824/\bytes<=1024/\0 < size then
   match xb with
   | none=>none
   | some xp =>
    match H.cells? xp.block xp.off (n * size) with
    | none=>none
    | some new =>
     if new.all a0v=false then none else
     match base with
     | none=>if len=0/\cap=0 then some (.slice (some ⟨H.size,0,none⟩) n unk,H.push (.row false elem new)) else none
     | some sp =>
      if len=0/\cap=0 then some (.slice (some ⟨H.size,0,none⟩) n unk,H.push (.row false elem new)) else
      match H.cells? sp.block sp.off (len * size) with
      | none=>none
      | some old =>
       if cap ≠ unk/\cap < len + n then some (.slice (some ⟨H.size,0,none⟩) (len + n) unk,H.push (.row false elem (old ++ new)))
       else
        match H.bk sp.block with
        | .row false e _ =>
         if e=elem/\fl<=sp.block then some (.slice (some ⟨H.size,0,none⟩) (len + n) unk,(H.setIfInBounds sp.block .dead).push (.row false elem (old ++ new)))
         else none
        | _=>none
  else none
 | _,_=>none
inductive OpRes where
 | bad
 | val (v:Value) (H:a0f)
 | pan (v:Value)
 | call (f:FuncId) (args:List Value) (lone:Bool)
def b0H (H:a0f):Option Value->OpRes
 | some v=>.val v H
 | none=>.bad
def g0Q:Option (Value × a0f)->OpRes
 | some (v,H)=>.val v H
 | none=>.bad
def opA (fl:Nat) (t:b0c) (H:a0f):SOp->OpRes
 | .mv x=>.val (ev t x) H
 | .pick c a b=>match ev t c with | .bool true=>.val (ev t a) H | .bool false=>.val (ev t b) H | _=>.bad
 | .alloc e z=>.val (.pointer (some ⟨H.size,0,none⟩)) (H.push (.row false e z))
 | .box e x=>.val (.pointer (some ⟨H.size,0,none⟩)) (H.push (.row false e (a0W (ev t x))))
 | .build z ps=>b0H H ((g0X z (b0D t ps)).map fun cs=>.agg cs.toArray)
 | .lit e z n ps =>
  match g0X (e0M z n) (b0D t ps) with
  | some cs=>.val (.slice (some ⟨H.size,0,none⟩) n n) (H.push (.row false e cs))
  | none=>.bad
 | .load agg n a=>b0H H (b0v H agg n (ev t a))
 | .store n a x =>
  match ev t a with
  | .pointer (some p) =>
   if p.spot.isSome=true ∨ (a0W (ev t x)).length ≠ n then .bad else
   match H.write? fl p.block p.off (a0W (ev t x)) with
   | some H'=>.val undef H'
   | none=>.bad
  | _=>.bad
 | .chk x =>
  match ev t x with
  | .pointer (some a)=>.val (.pointer (some a)) H
  | .func (.func f) a b=>.val (.func (.func f) a b) H
  | .iface a b=>.val (.iface a b) H
  | _=>.bad
 | .bin tag b x y=>b0H H (d0p tag b (ev t x) (ev t y))
 | .un u x=>b0H H (unA u (ev t x))
 | .conv k x=>match ev t x with | .int _ n=>.val (.int k (k.wrap n)) H | _=>.bad
 | .iface ty x=>.val (.iface ty (ev t x)) H
 | .mkfn f a b=>.val (.func f (a.map (ev t)).toArray (b.map (ev t)).toArray) H
 | .mk e bytes z len cap =>
  match ev t len,ev t cap with
  | .int _ l,.int _ c =>
   if 0<=l/\l<=c/\c<=1073741824/\bytes<=1024 then .val (.slice (some ⟨H.size,0,none⟩) l.toNat c.toNat) (H.push (.row false e (e0M z l.toNat))) else .bad
  | _,_=>.bad
 | .sl e size x lo hi mx=>if elemOk H e (ev t x)=false then .bad else b0H H (e0g size (ev t x) (lo.map (ev t)) (hi.map (ev t)) (mx.map (ev t)))
 | .fa off a=>match ev t a with | .pointer (some p)=>if p.spot.isSome=true then .bad else .val (.pointer (some ⟨p.block,p.off + off,none⟩)) H | _=>.bad
 | .fa0 e a =>
  match ev t a with
  | .pointer (some p) =>
   match H.bk p.block with
   | .row false e' _=>if p.spot.isSome=false/\e' = e/\p.off=0 then .val (.pointer (some ⟨p.block,0,none⟩)) H else .bad
   | _=>.bad
  | _=>.bad
 | .fld agg off n x=>b0H H (O0e agg off n (ev t x))
 | .ia size x i =>
  match ev t x,ev t i with
  | .slice (some p) n _,.int _ j=>if 0<=j/\j < n then .val (.pointer (some ⟨p.block,p.off + j.toNat * size,none⟩)) H else .bad
  | _,_=>.bad
 | .ext x i=>match ev t x with | .tuple vs=>b0H H vs[i]? | _=>.bad
 | .call f args lone=>.call f (args.map (ev t)) lone
 | .callv x args lone=>match ev t x with | .func (.func f) first captured=>.call f (first.toList ++ args.map (ev t) ++ captured.toList) lone | _=>.bad
 | .inv x tbl args lone =>
  match ev t x with
  | .iface ty v=>match tbl.lookup ty with | some f=>.call f (v :: args.map (ev t)) lone | none=>.bad
  | _=>.bad
 | .len x=>match ev t x with | .slice _ n _=>.val (.int .i64 n) H | _=>.bad
 | .cap x=>b0H H (a1s (ev t x))
 | .mnx big x ys=>b0H H (u0P big (ev t x) (ys.map (ev t)))
 | .app e size bytes s x=>g0Q (i0H fl H e size bytes (ev t s) (ev t x))
 | .appz e bytes z s x=>match z0C bytes (ev t s) (ev t x) with | some n=>.val (.slice (some ⟨H.size,0,none⟩) n unk) (H.push (.row false e (e0M z n))) | none=>.bad
 | .pan x=>match ev t x with | .iface a b=>.pan (.iface a b) | _=>.bad
def blkOf:Value->List Nat
 | .pointer (some p)=>[p.block]
 | .slice (some p) _ _=>[p.block]
 | _=>[]
def blkW:Value->List Nat
 | .slice (some p) len cap=>if len=0/\cap=0 then [] else [p.block]
 | _=>[]
def d0m (t:b0c):SOp->List Nat × List Nat
 | .load _ _ a=>(blkOf (ev t a),[])
 | .store _ a _=>([],blkOf (ev t a))
 | .app _ _ _ s x=>(blkOf (ev t x),blkW (ev t s))
 | .sl _ _ x _ _ _=>(blkOf (ev t x),[])
 | .fa0 _ x=>(blkOf (ev t x),[])
 | _=>([],[])
def b0k (t:b0c):Option (Nat × Bool)->Bool
 | none=>true
 | some (j,want)=>match get t j with | .bool b=>b == want | _=>false
def s0Y (a b:List Nat):Bool:=a.any b.contains
def d0a (log:List (List Nat × List Nat)) (pairs:List (Nat × Nat)):Bool :=
 pairs.all fun p =>
  let x:=log.getD p.1 ([],[])
  let y:=log.getD p.2 ([],[])
  !s0Y x.2 y.1 && !s0Y x.2 y.2 && !s0Y x.1 y.2
def h0r (bef:List Nat) (i:Nat):Option (Nat × Value)->Bool
 | some (j,_)=>(bef.getD i 0).testBit j
 | none=>false
inductive Out where
 | bad
 | pan (v:Value)
 | fin (e:XA) (t:b0c) (H:a0f)
section
variable (call:Nat->FuncId->List Value->a0f->Res (Value × a0f))   -- floor,function,arguments,heap
def b0E (fl:Nat) (t:b0c) (H:a0f) (o:SOp):Res (Value × a0f) :=
 match opA fl t H o with
 | .bad=>.bad
 | .pan v=>.pan v
 | .val v H'=>.ok (v,H')
 | .call f args lone=>call (if lone then fl else max fl H.size) f args H
def f0s (fl:Nat):List a0J->b0c->a0f->Out
 | [],t,H=>.fin .normal t H
 | o :: r,t,H =>
  if b0k t o.g then
   match b0E call fl t H o.op with
   | .bad=>.bad
   | .pan v=>.pan v
   | .ok (v,H')=>f0s fl r (put t o.dst v) H'
  else f0s fl r (put t o.dst undef) H
def b0V (fl:Nat) (bef:List Nat) (pairs:List (Nat × Nat)):Nat->List a0J->b0c->a0f->Option (Nat × Value)->List (List Nat × List Nat)->Out
 | _,[],t,H,p,log =>
  if d0a log.reverse pairs then
   match p with
   | none=>.fin .normal t H
   | some (_,v)=>.pan v
  else .bad
 | i,o :: r,t,H,p,log =>
  if h0r bef i p=true then b0V fl bef pairs (i + 1) r t H p (([],[]) :: log) else
  if b0k t o.g then
   match b0E call fl t H o.op with
   | .bad=>.bad
   | .pan v=>match p with | none=>b0V fl bef pairs (i + 1) r t H (some (i,v)) (([],[]) :: log) | some _=>.bad
   | .ok (v,H')=>b0V fl bef pairs (i + 1) r (put t o.dst v) H' p (d0m t o.op :: log)
  else b0V fl bef pairs (i + 1) r (put t o.dst undef) H p (([],[]) :: log)
def b0h (fl:Nat):Nat->SCode->b0c->a0f->Out
 | 0,_,_,_=>.bad
 | n + 1,c,t,H =>
  match c with
  | .skip=>.fin .normal t H
  | .exit id=>.fin (.exit id) t H
  | .ret=>.fin .ret t H
  | .seq a b =>
   match b0h fl n a t H with
   | .fin .normal t' H'=>b0h fl n b t' H'
   | r=>r
  | .cond c a b =>
   match ev t c with
   | .bool true=>b0h fl n a t H
   | .bool false=>b0h fl n b t H
   | _=>.bad
  | .block id c =>
   match b0h fl n c t H with
   | .fin (.exit id') t' H'=>if id' = id then .fin .normal t' H' else .fin (.exit id') t' H'
   | r=>r
  | .loop c =>
   match b0h fl n c t H with
   | .fin .normal t' H'=>b0h fl n (.loop c) t' H'
   | r=>r
  | .reg ops=>f0s call fl ops t H
  | .draw ops bef pairs=>b0V call fl bef pairs 0 ops t H none []
end
def r0Z (H:a0f) (t:b0c):SRes->Option Value
 | .tmp i=>some (get t i)
 | .cell a agg n=>b0v H agg n (get t a)
def e0S (H:a0f) (t:b0c):List SRes->Option (List Value)
 | []=>some []
 | r :: rs=>match r0Z H t r,e0S H t rs with | some v,some vs=>some (v :: vs) | _,_=>none
def d0y:List Value->Value
 | [v]=>v
 | vs=>.tuple vs.toArray
structure f1u where
 f:FuncId
 solved:FuncId
 zero:List Value
 np:Nat
 ns:Nat
 deriving Inhabited
structure Env where
 code:FuncId->Option w0J
 quick:Option f1u
 known:List (FuncId × Value):=[]
def Env.know (E:Env) (f:FuncId) (args:List Value):Option Value:=if args.isEmpty then E.known.lookup f else none
def e0e (z:List Value) (H:a0f):Res (Value × a0f)->Res (Value × a0f)
 | .bad=>.bad
 | .pan (.iface _ _)=>.ok (.tuple #[.agg z.toArray,.int .i64 0,.bool false],H)
 | .pan _=>.bad
 | .ok (.tuple vs,H')=>match vs.toList with | [.agg a,.int k n]=>if a.size=z.length/\a.toList.all a0v=true then .ok (.tuple #[.agg a,.int k n,.bool true],H') else .bad | _=>.bad
 | .ok _=>.bad
def b0q (E:Env):Nat->Nat->FuncId->List Value->a0f->Res (Value × a0f)
 | 0,_,_,_,_=>.bad
 | n + 1,fl,f,args,H =>
  match E.code f with
  | none =>
   match E.know f args with
   | some v=>.ok (v,H)
   | none =>
   match E.quick with
   | some q =>
    if f=q.f then
     match args with
     | [.agg p,.agg s]=>if p.size=q.np/\s.size=q.ns then e0e q.zero H (b0q E n (max fl H.size) q.solved [.agg #[],.agg p,.agg s] H) else .bad
     | _=>.bad
    else .bad
   | none=>.bad
  | some sf =>
   if args.length=sf.np then
    match b0h (b0q E n) fl n sf.body (args ++ List.replicate (sf.nt - args.length) undef) H with
    | .bad=>.bad
    | .pan v=>.pan v
    | .fin e t H' =>
     match e with
     | .exit _=>.bad
     | _ =>
      match e0S H' t sf.res with
      | some vs=>.ok (d0y vs,H')
      | none=>.bad
   else .bad
def c0B:Operand->Option Opd
 | .tmp t=>some (.tmp t)
 | .const v=>some (.const v)
 | .func f=>some (.fn f)
 | .global _=>none
def i0l (l:List Operand):Option (List Opd):=l.mapM c0B
def q0l:Option Operand->Option (Option Opd)
 | none=>some none
 | some x=>(c0B x).map some
def flat:Value->Bool
 | .bool _ | .int _ _ | .string _ | .pointer none | .slice none 0 0 | .nilFunc | .nilIface=>true
 | .func (.func _) a b=>a.size == 0 && b.size == 0
 | _=>false
def a0U:Opd->Bool
 | .const v=>flat v || (match v with | .agg cs=>cs.toList.all flat | _=>false)
 | _=>true
def a0B:SOp->List Opd
 | .mv x | .box _ x | .load _ _ x | .chk x | .un _ x | .conv _ x | .iface _ x | .fa _ x | .fa0 _ x | .fld _ _ _ x | .ext x _ | .len x | .cap x | .pan x=>[x]
 | .pick a b c=>[a,b,c]
 | .alloc _ _=>[]
 | .build _ ps | .lit _ _ _ ps=>ps.map (·.2.2)
 | .store _ a x | .bin _ _ a x | .mk _ _ _ a x | .ia _ a x | .app _ _ _ a x | .appz _ _ _ a x=>[a,x]
 | .mnx _ x ys=>x :: ys
 | .mkfn _ a b=>a ++ b
 | .sl _ _ x lo hi mx=>[x] ++ lo.toList ++ hi.toList ++ mx.toList
 | .call _ as _=>as
 | .callv x as _ | .inv x _ as _=>x :: as
def B0V (P:Program) (t:TypeId):Bool:=match P.underlying t with | some (.int _)=>true | _=>false
def l0i (P:Program) (t:TypeId):Option Bool :=
 match P.underlying t with
 | some (.struct _) | some (.array _ _)=>some true
 | some _=>some false
 | none=>none
def d0k (P:Program) (t:TypeId):Option Nat:=(P.info? t).map (·.size)
def j0y (P:Program) (t:TypeId):Option Nat:=(P.info? t).map (·.bytes)
def l0c (P:Program) (t:TypeId):Option (List Value) :=
 match (P.info? t).bind (·.zero) with
 | some v=>if (a0W v).all flat then some (a0W v) else none
 | none=>none
def h0o (P:Program) (t:TypeId):Option TypeId:=match P.underlying t with | some (.slice e)=>some e | _=>none
def g0l (P:Program) (t:TypeId):Option (List Field):=match P.underlying t with | some (.struct fs)=>some fs.toList | _=>none
def Z0s (P:Program) (t:TypeId):Option IntKind:=match P.underlying t with | some (.int k)=>some k | _=>none
def A0z (P:Program) (f:FuncId):Bool :=
 match P.funcs[f]? with
 | some fn=>!(fn.name == "runtime.NumGoroutine") && fn.body.isSome
 | none=>false
def N0J (d:TypeDesc):Nat:=match d with | .bool=>1 | .slice _=>2 | .func _ _ _=>3 | _=>0
def u0O (P:Program) (name:String):List (TypeId × FuncId) :=
 (List.range P.types.size).filterMap fun t =>
  match P.info? t with
  | some i =>
   match i.methods.find? (·.name == name) with
   | some m =>
    match m.func,P.underlying t with
    | some (f,false),some (.struct _)=>if m.path.isEmpty && A0z P f then some (t,f) else none
    | _,_=>none
   | none=>none
  | none=>none
def m0l (P:Program) (fs:List Field):List (Nat × Operand)->Option (List (Nat × Nat × Opd))
 | []=>some []
 | p :: r =>
  match fs[p.1]? with
  | none=>none
  | some f =>
   match d0k P f.type,c0B p.2,m0l P fs r with
   | some n,some x,some l=>some ((f.offset,n,x) :: l)
   | _,_,_=>none
def i0X (size:Nat):List (Nat × Operand)->Option (List (Nat × Nat × Opd))
 | []=>some []
 | p :: r =>
  match c0B p.2,i0X size r with
  | some x,some l=>some ((p.1 * size,size,x) :: l)
  | _,_=>none
def cOp (P:Program) (lone:Bool):Op->Option SOp
 | .move x | .assign x=>(c0B x).map .mv
 | .pick c a b=>do pure (.pick (<- c0B c) (<- c0B a) (<- c0B b))
 | .alloc e=>do pure (.alloc e (<- l0c P e))
 | .box e x=>do pure (.box e (<- c0B x))
 | .build t ps=>do
  let fs <- g0l P t
  if (fs.all fun f=>(d0k P f.type).isSome) then pure (.build (<- l0c P t) (<- m0l P fs ps.toList)) else none
 | .buildSlice t n ps=>do
  let e <- h0o P t
  let size <- d0k P e
  let z <- l0c P e
  if size=z.length/\0 < size/\n * size<=16777216 then pure (.lit e z n (<- i0X size ps.toList)) else none
 | .load t a=>do pure (.load (<- l0i P t) (<- d0k P t) (<- c0B a))
 | .store t a x=>do pure (.store (<- d0k P t) (<- c0B a) (<- c0B x))
 | .nilCheck x=>do pure (.chk (<- c0B x))
 | .binOp b t x y _=>do
  let d <- P.underlying t
  pure (.bin (N0J d) b (<- c0B x) (<- c0B y))
 | .unOp u _ x=>do pure (.un u (<- c0B x))
 | .convert s d x=>do
  let _ <- Z0s P s
  pure (.conv (<- Z0s P d) (<- c0B x))
 | .makeInterface t x =>
  match P.underlying t with
  | some (.interface _) | none=>none
  | some _=>do pure (.iface t (<- c0B x))
 | .makeFunc f a b=>match f with | .func _=>do pure (.mkfn f (<- i0l a.toList) (<- i0l b.toList)) | _=>none
 | .makeSlice t l c=>do
  let e <- h0o P t
  let size <- d0k P e
  let z <- l0c P e
  if size=z.length/\0 < size then pure (.mk e (<- j0y P e) z (<- c0B l) (<- c0B c)) else none
 | .slice t x lo hi mx=>do
  let e <- h0o P t
  pure (.sl e (<- d0k P e) (<- c0B x) (<- q0l lo) (<- q0l hi) (<- q0l mx))
 | .fieldAddr s a i=>do
  let fs <- g0l P s
  let f <- fs[i]?
  let n <- d0k P f.type
  if n=0 then (if f.offset=0/\f.byteOffset=0/\((List.range (P.cellsOf s)).all fun k=>(byteOfCell P P.depth s k).isSome)=true/\P.cellsOf s ≠ 0 then do pure (.fa0 s (<- c0B a)) else none) else pure (.fa f.offset (<- c0B a))
 | .field t x i=>do
  let fs <- g0l P t
  let f <- fs[i]?
  pure (.fld (<- l0i P f.type) f.offset (<- d0k P f.type) (<- c0B x))
 | .indexAddr t x i=>do
  let e <- h0o P t
  pure (.ia (<- d0k P e) (<- c0B x) (<- c0B i))
 | .extract x i=>do pure (.ext (<- c0B x) i)
 | .call { callee:=.builtin b,args,argTypes } =>
  match b,args.toList,argTypes.toList with
  | .len,[x],[t]=>do
   let _ <- h0o P t
   pure (.len (<- c0B x))
  | .cap,[x],[t]=>do
   let _ <- h0o P t
   pure (.cap (<- c0B x))
  | .max,x :: ys,_=>do pure (.mnx true (<- c0B x) (<- i0l ys))
  | .min,x :: ys,_=>do pure (.mnx false (<- c0B x) (<- i0l ys))
  | .append,[s,x],[t,u]=>do
   let e <- h0o P t
   let size <- d0k P e
   let z <- l0c P e
   if size=z.length/\0 < size/\u=t then pure (.app e size (<- j0y P e) (<- c0B s) (<- c0B x))
   else if size=z.length/\0 < size/\B0V P u=true then pure (.appz e (<- j0y P e) z (<- c0B s) (<- c0B x)) else none
  | _,_,_=>none
 | .call { callee:=.value (.func f),args,.. }=>if A0z P f then do pure (.call f (<- i0l args.toList) lone) else none
 | .call { callee:=.value x,args,.. }=>do pure (.callv (<- c0B x) (<- i0l args.toList) lone)
 | .call { callee:=.invoke x name,args,.. }=>do pure (.inv (<- c0B x) (u0O P name) (<- i0l args.toList) lone)
 | .panic x=>do pure (.pan (<- c0B x))
 | _=>none
def g0V (P:Program) (ops:Array Oper) (lone:Bool) (o:Oper):Option a0J:=do
 let op <- cOp P lone o.op
 if (a0B op).all a0U then
  match o.guard with
  | none=>pure { dst:=o.dst,g:=none,op }
  | some (j,want)=>do
   let oj <- ops[j]?
   let d <- oj.dst
   pure { dst:=o.dst,g:=some (d,want),op }
 else none
def way:SOp->Nat
 | .load _ _ _ | .sl _ _ _ _ _ _ | .fa0 _ _=>1
 | .store _ _ _ | .app _ _ _ _ _=>2
 | .call _ _ _ | .callv _ _ _ | .inv _ _ _ _=>3
 | .alloc _ _ | .box _ _ | .lit _ _ _ _ | .mk _ _ _ _ _ | .appz _ _ _ _ _=>4
 | _=>0
def c1V:Opd->Option Nat
 | .tmp t=>some t
 | _=>none
def i0E (o:Oper) (s:a0J):List Nat :=
 (a0B s.op).filterMap c1V ++ (match s.g with | some (j,_)=>[j] | none=>[]) ++ o.op.operands.toList.filterMap (fun | .tmp t=>some t | _=>none)
def b0w (bef:List Nat) (i j:Nat):Bool:=(bef.getD j 0).testBit i
def p0V (x y:a0J) (ux uy:List Nat):Bool :=
 (match x.dst with | some d=>!uy.contains d && y.dst != some d | none=>true) &&
 (match y.dst with | some d=>!ux.contains d | none=>true)
def x0q (x y:Nat):Bool:=!((x == 3 && y == 2) || (x == 2 && y == 3))
def l0L (n:Nat):List (Nat × Nat):=(List.range n).flatMap fun j=>(List.range j).map fun i=>(i,j)
def x0n (bef:List Nat) (ws:List Nat) (k:Nat):Bool :=
 (List.range ws.length).all fun i=>i == k || ws.getD i 0 == 0 || b0w bef i k || b0w bef k i
def o0I:Op->Nat
 | .load _ _ | .slice _ _ _ _ _ | .fieldAddr _ _ _=>1
 | .store _ _ _=>2
 | .call { callee:=.builtin b,.. }=>match b with | .append=>2 | _=>0
 | .call _=>3
 | .alloc _ | .box _ _ | .buildSlice _ _ _ | .makeSlice _ _ _=>4
 | _=>0
def W0K (ops:Array Oper) (bef:List Nat):Bool :=
 (List.range ops.size).all fun j =>
  match ops[j]? with
  | some o=>(o.after.toList.all fun e=>!Region.binds .any e || e.on < j) &&
    bef.getD j 0 == (o.after.toList.foldl (fun s e=>if Region.binds .any e then s ||| 2 ^ e.on ||| bef.getD e.on 0 else s) 0)
  | none=>false
def C0K (ops:Array Oper) (l:List a0J) (p:Nat × Nat):Bool :=
 match ops[p.1]?,ops[p.2]?,l[p.1]?,l[p.2]? with
 | some o1,some o2,some x,some y=>p0V x y (i0E o1 x) (i0E o2 y) && x0q (way x.op) (way y.op)
 | _,_,_,_=>false
def j0V (l:List a0J) (p:Nat × Nat):Bool :=
 match l[p.1]?,l[p.2]? with
 | some x,some y=>(way x.op == 2 && way y.op != 0) || (way y.op == 2 && way x.op != 0)
 | _,_=>false
def j0M (o:Oper):Bool:=match o.op with | .select _ _=>false | _=>true
def s0p (P:Program) (ops:Array Oper) (bef ws:List Nat):Nat->List Oper->Option (List a0J)
 | _,[]=>some []
 | k,o :: r =>
  match g0V P ops (x0n bef ws k) o,s0p P ops bef ws (k + 1) r with
  | some x,some l=>some (x :: l)
  | _,_=>none
def B0c (P:Program) (ops:Array Oper):Option SCode:=do
 let bef:=(Region.before ops).toList
 let ws:=ops.toList.map fun o=>o0I o.op
 let l <- s0p P ops bef ws 0 ops.toList
 let un:=(l0L ops.size).filter fun p=>!b0w bef p.1 p.2
 if W0K ops bef=true/\un.all (C0K ops l)=true/\ops.toList.all j0M=true then pure (.draw l bef (un.filter (j0V l))) else none
def e0n (P:Program):Code->Option SCode
 | .skip | .label _=>some .skip
 | .seq a b=>do pure (.seq (<- e0n P a) (<- e0n P b))
 | .cond c a b=>do
  let c <- c0B c
  if a0U c then pure (.cond c (<- e0n P a) (<- e0n P b)) else none
 | .block id c=>do pure (.block id (<- e0n P c))
 | .loop c=>do pure (.loop (<- e0n P c))
 | .exit id=>some (.exit id)
 | .ret=>some .ret
 | .region _ ops false=>do pure (.reg (<- ops.toList.mapM fun o=>g0V P ops true o))
 | .region _ ops true=>B0c P ops
 | _=>none
def a1r (P:Program):ResultVar->Option SRes
 | .tmp t=>some (.tmp t)
 | .cell a t=>do pure (.cell a (<- l0i P t) (<- d0k P t))
def b0e (P:Program) (f:FuncId):Option w0J :=
 match P.funcs[f]? with
 | some fn =>
  match fn.body with
  | some c =>
   if A0z P f=false then none else do
   let res <- fn.results.toList.mapM (a1r P)
   let body <- e0n P c
   if fn.params.size + fn.nfree<=fn.ntmps then pure { np:=fn.params.size + fn.nfree,nt:=fn.ntmps,res,body } else none
  | none=>none
 | none=>none
abbrev Inj:=Nat->Option (Nat × Nat)
abbrev Shp:=Nat->Option (TypeId × Nat)
structure Cx where
 P:Program
 base:Nat
def f1q (X:Cx) (S:Shp) (a:Addr) (cap:Nat):Prop:=X.base<=a.block->∃ e n,S a.block=some (e,n)/\a.off + cap * X.P.cellsOf e<=n
inductive VR (X:Cx) (φ:Inj) (S:Shp):Value->Value->Prop
 | bool (b):VR X φ S (.bool b) (.bool b)
 | int (k n):VR X φ S (.int k n) (.int k n)
 | str (s):VR X φ S (.string s) (.string s)
 | pnil:VR X φ S (.pointer none) (.pointer none)
 | ptr (a a' B o) (h1:a.spot=none) (h2:φ a.block=some (B,o)) (h3:a' = ⟨B,o + a.off,none⟩):VR X φ S (.pointer (some a)) (.pointer (some a'))
 | snil:VR X φ S (.slice none 0 0) (.slice none 0 0)
 | sl (a a' len cap cap' B o) (h1:a.spot=none) (h2:φ a.block=some (B,o)) (h3:a'.spot=none) (h4:a'.block=B) (h5:0 < len->a'.off=o + a.off)
   (h6:cap ≠ unk->cap' = cap) (h7:len<=cap') (h8:f1q X S a' cap'):VR X φ S (.slice (some a) len cap) (.slice (some a') len cap')
 | sle (a a'):VR X φ S (.slice (some a) 0 0) (.slice (some a') 0 0)
 | nilFunc:VR X φ S .nilFunc .nilFunc
 | nilIface:VR X φ S .nilIface .nilIface
 | func (f a b a' b') (h1:a.size=a'.size) (h2:∀ i,i < a.size->VR X φ S (a.getD i undef) (a'.getD i undef)) (h3:b.size=b'.size)
   (h4:∀ i,i < b.size->VR X φ S (b.getD i undef) (b'.getD i undef)):VR X φ S (.func f a b) (.func f a' b')
 | iface (t v v') (h:VR X φ S v v'):VR X φ S (.iface t v) (.iface t v')
 | agg (a a') (h1:a.size=a'.size) (h2:∀ i,i < a.size->VR X φ S (a.getD i undef) (a'.getD i undef)):VR X φ S (.agg a) (.agg a')
 | tuple (a a') (h1:a.size=a'.size) (h2:∀ i,i < a.size->VR X φ S (a.getD i undef) (a'.getD i undef)):VR X φ S (.tuple a) (.tuple a')
def CR (X:Cx) (φ:Inj) (S:Shp) (l l':List Value):Prop:=l.length=l'.length/\∀ i,i < l.length->VR X φ S (l.getD i undef) (l'.getD i undef)
variable {X:Cx} {φ φ':Inj} {S S':Shp}
theorem VR.undef:VR X φ S undef undef:=.tuple _ _ rfl (fun i h=>by simp at h)
theorem VR.mo (c:∀ b x,φ b=some x->φ' b=some x) (j:∀ b x,S b=some x->S' b=some x) {v v':Value} (h:VR X φ S v v'):VR X φ' S' v v':=by
 induction h with
 | bool b=>exact .bool b
 | int k n=>exact .int k n
 | str s=>exact .str s
 | pnil=>exact .pnil
 | ptr a a' B o h1 h2 h3=>exact .ptr a a' B o h1 (c _ _ h2) h3
 | snil=>exact .snil
 | sl a a' len cap cap' B o h1 h2 h3 h4 h5 h6 h7 h8 =>
  exact .sl a a' len cap cap' B o h1 (c _ _ h2) h3 h4 h5 h6 h7 (fun hb=>by obtain ⟨e,n,q,u⟩:=h8 hb;exact ⟨e,n,j _ _ q,u⟩)
 | sle a a'=>exact .sle a a'
 | nilFunc=>exact .nilFunc
 | nilIface=>exact .nilIface
 | func f a b a' b' h1 _ h3 _ ih1 ih2=>exact .func f a b a' b' h1 ih1 h3 ih2
 | iface t v v' _ ih=>exact .iface t v v' ih
 | agg a a' h1 _ ih=>exact .agg a a' h1 ih
 | tuple a a' h1 _ ih=>exact .tuple a a' h1 ih
theorem CR.mo (c:∀ b x,φ b=some x->φ' b=some x) (j:∀ b x,S b=some x->S' b=some x) {l e:List Value} (h:CR X φ S l e):CR X φ' S' l e :=
 ⟨h.1,fun i hi=>(h.2 i hi).mo c j⟩
theorem CR.nil:CR X φ S [] []:=⟨rfl,fun i h=>by simp at h⟩
theorem CR.cons {v v':Value} {l e:List Value} (h:VR X φ S v v') (c:CR X φ S l e):CR X φ S (v :: l) (v' :: e) :=
 ⟨by simp [c.1],fun i hi=>by cases i with | zero=>simpa using h | succ i=>simpa using c.2 i (by simpa using hi)⟩
theorem VR.cons_cr {v v':Value} {l c:List Value} (h:VR X φ S v v') (e:CR X φ S l c):CR X φ S (v :: l) (v' :: c):=CR.cons h e
theorem CR.head {v v':Value} {l c:List Value} (h:CR X φ S (v :: l) (v' :: c)):VR X φ S v v':=by simpa using h.2 0 (by simp)
theorem CR.tail {v v':Value} {l c:List Value} (h:CR X φ S (v :: l) (v' :: c)):CR X φ S l c :=
 ⟨by simpa using h.1,fun i hi=>by simpa using h.2 (i + 1) (by simpa using hi)⟩
theorem CR.nil_left {c:List Value} (h:CR X φ S [] c):c = []:=k1U.1 h.1.symm
theorem CR.cons_left {v:Value} {l c:List Value} (h:CR X φ S (v :: l) c):∃ v' r,c = v' :: r/\VR X φ S v v'/\CR X φ S l r:=by
 cases c with
 | nil=>simp [CR] at h
 | cons v' r=>exact ⟨v',r,rfl,h.head,h.tail⟩
theorem CR.get {l c:List Value} (h:CR X φ S l c) (i:Nat):VR X φ S (l.getD i undef) (c.getD i undef):=by
 by_cases hi:i < l.length
 ·exact h.2 i hi
 ·simp only [k1v]
  rw [k1G (by omega),k1G (by have:=h.1;omega)]
  exact VR.undef
theorem CR.append {a c b e:List Value} (h:CR X φ S a c) (k:CR X φ S b e):CR X φ S (a ++ b) (c ++ e):=by
 induction a generalizing c with
 | nil=>rw [h.nil_left];simpa using k
 | cons v r ih=>obtain ⟨v',q,rfl,hv,j⟩:=h.cons_left;simpa using CR.cons hv (ih j)
theorem CR.take {a c:List Value} (h:CR X φ S a c) (n:Nat):CR X φ S (a.take n) (c.take n):=by
 induction n generalizing a c with
 | zero=>simpa using CR.nil
 | succ n ih =>
  cases a with
  | nil=>rw [h.nil_left];simpa using CR.nil
  | cons v r=>obtain ⟨v',j,rfl,hv,e⟩:=h.cons_left;simpa using CR.cons hv (ih e)
theorem CR.drop {a c:List Value} (h:CR X φ S a c) (n:Nat):CR X φ S (a.drop n) (c.drop n):=by
 induction n generalizing a c with
 | zero=>simpa using h
 | succ n ih =>
  cases a with
  | nil=>rw [h.nil_left];simpa using CR.nil
  | cons v r=>obtain ⟨v',j,rfl,hv,e⟩:=h.cons_left;simpa using ih e
theorem CR.set {a c:List Value} (h:CR X φ S a c) (n:Nat) {v v':Value} (hv:VR X φ S v v'):CR X φ S (a.set n v) (c.set n v'):=by
 induction n generalizing a c with
 | zero =>
  cases a with
  | nil=>rw [h.nil_left];simpa using CR.nil
  | cons u r=>obtain ⟨v',k,rfl,j,e⟩:=h.cons_left;simpa using CR.cons hv e
 | succ n ih =>
  cases a with
  | nil=>rw [h.nil_left];simpa using CR.nil
  | cons u r=>obtain ⟨v',k,rfl,j,e⟩:=h.cons_left;simpa using CR.cons j (ih e)
theorem CR.of_mem_map {α:Type} (f g:α->Value) (l:List α) (h:∀ x ∈ l,VR X φ S (f x) (g x)):CR X φ S (l.map f) (l.map g):=by
 induction l with
 | nil=>exact CR.nil
 | cons x r ih=>exact CR.cons (h x (by simp)) (ih fun y c=>h y (by simp [c]))
theorem a0V (a:Array Value) (i:Nat):a.getD i undef=a.toList.getD i undef:=by
 simp only [k1v,m1e,k1I]
theorem VR.agg_iff {a c:Array Value}:VR X φ S (.agg a) (.agg c) <-> CR X φ S a.toList c.toList:=by
 constructor
 ·intro h
  cases h with
  | agg _ _ h1 h2=>exact ⟨by simpa using h1,fun i hi=>by rw [<- a0V,<- a0V];exact h2 i (by simpa using hi)⟩
 ·intro h
  exact .agg _ _ (by simpa using h.1) (fun i hi=>by rw [a0V,a0V];exact h.2 i (by simpa using hi))
theorem VR.tuple_iff {a c:Array Value}:VR X φ S (.tuple a) (.tuple c) <-> CR X φ S a.toList c.toList:=by
 constructor
 ·intro h
  cases h with
  | tuple _ _ h1 h2=>exact ⟨by simpa using h1,fun i hi=>by rw [<- a0V,<- a0V];exact h2 i (by simpa using hi)⟩
 ·intro h
  exact .tuple _ _ (by simpa using h.1) (fun i hi=>by rw [a0V,a0V];exact h.2 i (by simpa using hi))
theorem VR.cells {v v':Value} (h:VR X φ S v v'):CR X φ S (a0W v) v'.cells.toList:=by
 cases h with
 | agg a a' h1 h2=>simpa [a0W,Value.cells] using VR.agg_iff.1 (.agg a a' h1 h2)
 | _=>simp only [a0W,Value.cells];exact CR.cons (by first | exact .sle _ _ | (constructor <;> assumption)) CR.nil
theorem VR.plain {v v':Value} (h:VR X φ S v v') (hp:a0v v=true):v'.oneCell' = true:=by
 cases h <;> simp_all [a0v,Value.oneCell']
theorem CR.plain {l e:List Value} (h:CR X φ S l e) (hp:l.all a0v=true):∀ v ∈ e,v.oneCell' = true:=by
 induction l generalizing e with
 | nil=>rw [h.nil_left];simp
 | cons v r ih =>
  obtain ⟨v',k,rfl,hv,j⟩:=h.cons_left
  simp only [l1E,k1L] at hp
  intro u c
  rcases m1b.1 c with rfl | c
  ·exact hv.plain hp.1
  ·exact ih j hp.2 u c
theorem c0K:∀ (vs cs:List Value) (off:Nat),(b0x cs off vs).length=cs.length
 | [],_,_=>rfl
 | v :: r,cs,off=>by simp [b0x,c0K r]
theorem CR.write {cs c vs e:List Value} (h:CR X φ S cs c) (hv:CR X φ S vs e) (off:Nat):CR X φ S (b0x cs off vs) (b0x c off e):=by
 induction vs generalizing cs c e off with
 | nil=>rw [hv.nil_left];simpa [b0x] using h
 | cons v r ih =>
  obtain ⟨v',q,rfl,j,k⟩:=hv.cons_left
  simpa [b0x] using ih (h.set off j) k (off + 1)
theorem h0T:∀ (vs cs:List Value) (off:Nat),off + vs.length<=cs.length->b0x cs off vs=cs.take off ++ vs ++ cs.drop (off + vs.length)
 | [],cs,off,_=>by simp [b0x]
 | v :: r,cs,off,h=>by
  simp only [l1p] at h
  rw [b0x,h0T r (cs.set off v) (off + 1) (by simp;omega)]
  have c:off < cs.length:=by omega
  have e:(cs.set off v).take (off + 1)=cs.take off ++ [v]:=by
   rw [List.take_set]
   rw [k1N c]
   rw [List.set_append]
   simp [l1x (n1d c)]
  have e2:(cs.set off v).drop (off + 1 + r.length)=cs.drop (off + 1 + r.length):=by
   rw [List.drop_set]
   simp
   omega
  rw [e,e2]
  simp [l1R,Nat.add_comm 1]
end
section
open Go
structure Rel (X:Cx) (φ:Inj) (H:a0f) (w:World):Prop where
 bs:X.base<=w.heap.size
 lt:∀ b x,φ b=some x->b < H.size
 row:∀ b B o ro e cs,φ b=some (B,o)->H.bk b=.row ro e cs->∃ c el fz,w.heap[B]? = some (.cells c el fz)/\o + cs.length<=c.size /\
  CR X φ w.shape? cs ((c.toList.drop o).take cs.length)/\(ro=false->X.base<=B/\fz=(0,0)/\el=e)/\(ro=true->B < X.base)
 sep:∀ b b' B o o' e cs,φ b=some (B,o)->φ b' = some (B,o')->b ≠ b'->H.bk b=.row false e cs->H.bk b' = .dead
structure d0v (X:Cx) (fl:Nat) (φ:Inj) (H:a0f) (w:World) (φ':Inj) (H':a0f) (w':World):Prop where
 ext:∀ b x,φ b=some x->φ' b=some x
 rel:Rel X φ' H' w'
 shp:∀ B x,w.shape? B=some x->w'.shape? B=some x
 wsz:w.heap.size<=w'.heap.size
 os:w'.os=w.os
 tape:w'.tape=w.tape
 out:w'.output=w.output
 hsz:H.size<=H'.size
 keep:∀ b,b < fl->H'.bk b=H.bk b
 kind:∀ b e cs,b < H.size->H'.bk b=.row false e cs->∃ cs0,H.bk b=.row false e cs0
 fresh:∀ b x,φ' b=some x->φ b=none->H.size<=b
 newB:∀ b B o,φ' b=some (B,o)->φ b=none->w.heap.size<=B ∨ ∃ b0 o0 e cs,φ b0=some (B,o0)/\fl<=b0/\H.bk b0=.row false e cs
 frame:∀ B,B < w.heap.size->(∀ b o e cs,φ b=some (B,o)->fl<=b->H.bk b ≠ .row false e cs)->w'.heap[B]? = w.heap[B]?
variable {X:Cx} {φ φ':Inj} {H H':a0f} {w w':World} {fl:Nat}
theorem a0L (H:a0f) (B:Blk) (b:Nat):a0f.bk (H.push B) b=if b=H.size then B else H.bk b:=by
 simp only [a0f.bk,k1I,Array.getElem?_push]
 split <;> simp_all
theorem b0a (H:a0f) (k:Nat) (B:Blk) (b:Nat) (_:k < H.size):a0f.bk (H.setIfInBounds k B) b=if b=k then B else H.bk b:=by
 simp only [a0f.bk,k1I,l1f]
 split
 ·rename_i h;subst h;simp
 ·rename_i h;rw [k1y (fun e=>h e.symm)]
theorem a0k {H:a0f} {b:Nat} {ro:Bool} {e:TypeId} {cs:List Value} (h:H.bk b=.row ro e cs):b < H.size:=by
 by_cases hb:b < H.size
 ·exact hb
 ·simp only [a0f.bk,k1I] at h
  rw [m1z (by omega)] at h
  simp at h
theorem d0v.refl (h:Rel X φ H w):d0v X fl φ H w φ H w :=
 { ext := fun _ _ h => h, rel := h, shp := fun _ _ h => h, wsz := k1x _, os := rfl, tape := rfl, out := rfl, hsz := k1x _, keep := fun _ _ => rfl,
   kind:=fun _ _ cs _ h=>⟨cs,h⟩,fresh:=(fun b x h c=>by rw [h] at c;cases c),newB:=(fun b B o h c=>by rw [h] at c;cases c),frame:=fun _ _ _=>rfl }
theorem d0v.trans {z:Nat} {q G:Inj} {H1 N:a0f} {U Z:World} (h:d0v X fl φ H w q H1 U) (k:d0v X z q H1 U G N Z) (hf:fl<=z) (R:Rel X φ H w) :
  d0v X fl φ H w G N Z :=
 { ext := fun b x hb => k.ext _ _ (h.ext _ _ hb)
   rel:=k.rel
   shp:=fun B x hb=>k.shp _ _ (h.shp _ _ hb)
   wsz:=k1H h.wsz k.wsz
   os:=k.os.trans h.os,tape:=k.tape.trans h.tape,out:=k.out.trans h.out
   hsz:=k1H h.hsz k.hsz
   keep:=fun b hb=>(k.keep b (by omega)).trans (h.keep b hb)
   kind:=fun b e cs hb hk=>by
    obtain ⟨J,c⟩:=k.kind b e cs (k1P hb h.hsz) hk
    exact h.kind b e J hb c
   fresh:=fun b x hb M=>by
    cases c:q b with
    | none=>exact k1H h.hsz (k.fresh b x hb c)
    | some y=>exact h.fresh b y c M
   newB:=fun b B o hb M=>by
    cases c:q b with
    | none =>
     rcases k.newB b B o hb c with s | ⟨b0,I,e,cs,s,O,L⟩
     ·exact .inl (k1H h.wsz s)
     ·cases h5:φ b0 with
      | none =>
       rcases h.newB b0 B I s h5 with u | u
       ·exact .inl u
       ·exact .inr u
      | some y =>
       have:=h.ext b0 y h5
       rw [s] at this;cases this
       obtain ⟨j,u⟩:=h.kind b0 e cs (R.lt b0 _ h5) L
       exact .inr ⟨b0,I,e,j,h5,by omega,u⟩
    | some y =>
     have:=k.ext b y c
     rw [hb] at this;cases this
     exact h.newB b B o c M
   frame:=fun B hB v=>by
    rw [k.frame B (k1P hB h.wsz) ?_,h.frame B hB v]
    intro b o e cs hb a0 F
    cases c:φ b with
    | none =>
     rcases h.newB b B o hb c with s | ⟨b0,I,e0,j,s,O,L⟩
     ·omega
     ·exact v b0 I e0 j s O L
    | some y =>
     have:=h.ext b y c
     rw [hb] at this;cases this
     obtain ⟨j,u⟩:=h.kind b e cs (R.lt b _ c) F
     exact v b o e j c (by omega) u }
theorem w0x (w:World) (o:Obj) (B:Nat) (x) (h:w.shape? B=some x):(w.alloc o).shape? B=some x:=by
 have c:B < w.heap.size:=by
  by_cases hb:B < w.heap.size
  ·exact hb
  ·simp [World.shape?,m1z (show w.heap.size<=B by omega)] at h
 simp only [World.shape?] at h ⊢
 rw [show (w.alloc o).heap[B]? = w.heap[B]? from by show (w.heap.push o)[B]? = _;rw [Array.getElem?_push,k1y (by omega)]]
 exact h
theorem d0v.alloc (hR:Rel X φ H w) (e:TypeId) (cs:List Value) (c:Array Value) (a1:cs.length<=c.size) (hc:CR X φ w.shape? cs (c.toList.take cs.length)) (a0:fl<=H.size) :
  d0v X fl φ H w (fun b=>if b=H.size then some (w.heap.size,0) else φ b) (H.push (.row false e cs)) (w.alloc (.cells c e)):=by
 have y:∀ B,B < w.heap.size->(w.alloc (.cells c e)).heap[B]? = w.heap[B]?:=fun B hB=>by show (w.heap.push _)[B]? = _;rw [Array.getElem?_push,k1y (by omega)]
 have I:(w.alloc (.cells c e)).heap[w.heap.size]? = some (.cells c e (0,0)):=by show (w.heap.push _)[_]? = _;simp
 have hsz:(w.alloc (.cells c e)).heap.size=w.heap.size + 1:=by show (w.heap.push _).size=_;simp
 have s:∀ b x,φ b=some x->(fun b=>if b=H.size then some (w.heap.size,0) else φ b) b=some x:=fun b x hb=>by
  have:=hR.lt b x hb
  show (if _ then _ else _)=_
  rw [k1y (by omega)];exact hb
 have u:=fun B x=>w0x w (.cells c e) B x
 have v:∀ b B o ro e cs,φ b=some (B,o)->H.bk b=.row ro e cs->B < w.heap.size:=fun b B o ro e cs hb hr=>by
  obtain ⟨c,M,N,L,_⟩:=hR.row b B o ro e cs hb hr
  exact (l1j.1 L).1
 refine { ext:=s,rel:=?_,shp:=u,wsz:=by omega,os:=rfl,tape:=rfl,out:=rfl,hsz:=by simp,keep:=?_,kind:=?_,fresh:=?_,newB:=?_,frame:=fun B hB _=>y B hB }
 ·refine { bs:=by have:=hR.bs;omega,lt:=?_,row:=?_,sep:=?_ }
  ·intro b x hb
   simp only [l1X]
   by_cases h:b=H.size
   ·omega
   ·simp only [k1y h] at hb;have:=hR.lt b x hb;omega
  ·intro b B o ro e' q hb j
   rw [a0L] at j
   by_cases h:b=H.size
   ·simp only [k1B h] at hb j
    cases hb;cases j
    exact ⟨c,e,(0,0),I,by omega,by simpa using hc.mo s u,fun _=>⟨hR.bs,rfl,rfl⟩,fun h=>by cases h⟩
   ·simp only [k1y h] at hb j
    obtain ⟨O,M,N,L,R,U,Z⟩:=hR.row b B o ro e' q hb j
    exact ⟨O,M,N,by rw [y B (l1j.1 L).1];exact L,R,U.mo s u,Z⟩
  ·intro b z B o o' e' q hb k G j
   rw [a0L] at j ⊢
   by_cases h:b=H.size
   ·have J:z ≠ H.size:=fun e=>G (h.trans e.symm)
    simp only [k1B h] at hb j
    simp only [k1y J] at k ⊢
    cases hb
    cases hk:H.bk z with
    | dead=>rfl
    | row ro e2 cs2=>have:=v z _ _ _ _ _ k hk;omega
   ·simp only [k1y h] at hb j
    by_cases J:z = H.size
    ·simp only [k1B J] at k
     cases k
     have:=v b _ _ _ _ _ hb j;omega
    ·simp only [k1y J] at k ⊢
     exact hR.sep b z B o o' e' q hb k G j
 ·intro b hb;rw [a0L,k1y (by omega)]
 ·intro b e' q hb j;rw [a0L,k1y (by omega)] at j;exact ⟨q,j⟩
 ·intro b x hb F
  by_cases h:b=H.size
  ·omega
  ·simp only [k1y h] at hb;rw [hb] at F;cases F
 ·intro b B o hb F
  by_cases h:b=H.size
  ·simp only [k1B h] at hb;cases hb;exact .inl (k1x _)
  ·simp only [k1y h] at hb;rw [hb] at F;cases F
theorem h0M (w:World) (g:Nat) (old cs:Array Value) (t:TypeId) (c:Nat × Nat) (j:w.heap[g]? = some (.cells old t c)) (hsz:cs.size=old.size) (B:Nat) :
  (w.setRow g cs).shape? B=w.shape? B:=by
 by_cases h:B=g
 ·subst h
  simp only [World.shape?,setRow_heap w B old cs t c j,j,hsz]
 ·simp only [World.shape?]
  rw [setRow_other w g B cs (fun e=>h (by omega))]
theorem j0q:∀ (vs cs:List Value) (o off:Nat),(b0x cs (o + off) vs).drop o=b0x (cs.drop o) off vs
 | [],cs,o,off=>by simp [b0x]
 | v :: r,cs,o,off=>by
  rw [b0x,b0x,l1R,j0q r (cs.set (o + off) v) o (off + 1)]
  congr 1
  rw [List.drop_set,k1y (by omega)]
  congr 1
  omega
theorem n0X:∀ (vs cs:List Value) (n off:Nat),off + vs.length<=n->(b0x cs off vs).take n=b0x (cs.take n) off vs
 | [],cs,n,off,_=>by simp [b0x]
 | v :: r,cs,n,off,h=>by
  simp only [l1p] at h
  rw [b0x,b0x,n0X r (cs.set off v) n (off + 1) (by omega)]
  congr 1
  rw [List.take_set]
theorem Rel.cells (hR:Rel X φ H w) {b B o off n:Nat} {cs:List Value} (hb:φ b=some (B,o)) (hc:H.cells? b off n=some cs) :
  cs.length=n/\∃ h,h.length=n/\CR X φ w.shape? cs h/\∀ j v,h[j]? = some v->w.cell? ⟨B,o + off + j,none⟩ = some v:=by
 unfold a0f.cells? at hc
 cases hk:H.bk b with
 | dead=>simp [hk] at hc
 | row ro e l =>
  simp only [hk] at hc
  split at hc
  ·rename_i u
   cases hc
   obtain ⟨c,x,y,q,z,s,_⟩:=hR.row b B o ro e l hb hk
   refine ⟨by simp;omega,((c.toList.drop o).take l.length |>.drop off).take n,by simp;omega,(s.drop off).take n,?_⟩
   intro j v k
   simp only [World.cell?,q]
   simp only [l1K,l1Q] at k
   split at k
   ·split at k
    ·rw [m1e] at k;rw [<- k,k1y (by simp),l1R]
    ·cases k
   ·cases k
  ·cases hc
theorem Rel.blkT (hR:Rel X φ H w) {b B o:Nat} {e:TypeId} {cs:List Value} (hb:φ b=some (B,o)) (u:H.bk b=.row false e cs) :
  ∃ c,w.heap[B]? = some (.cells c e (0,0))/\X.base<=B/\o + cs.length<=c.size/\CR X φ w.shape? cs ((c.toList.drop o).take cs.length):=by
 obtain ⟨c,v,x,h,j,k,q⟩:=hR.row b B o false e cs hb u
 obtain ⟨s,rfl,rfl⟩:=q.1 rfl
 exact ⟨c,h,s,j,k⟩
theorem d0v.store (hR:Rel X φ H w) {b B o off:Nat} {vs q:List Value} (hb:φ b=some (B,o)) (I:H.write? fl b off vs=some H') (hv:CR X φ w.shape? vs q) :
  ∃ w',(storeCells ⟨B,o + off,none⟩ q).run X.P w=.ok () w'/\d0v X fl φ H w φ H' w':=by
 unfold a0f.write? at I
 cases hk:H.bk b with
 | dead=>simp [hk] at I
 | row ro e l =>
  cases ro with
  | true=>simp [hk] at I
  | false =>
   simp only [hk] at I
   split at I
   ·rename_i F
    obtain ⟨a0,a5,a3⟩:=F
    cases I
    have v:=a0k hk
    obtain ⟨c,U,h5,h2,h3⟩:=hR.blkT hb hk
    have a4:=hv.1
    have G:=run_storeCells_at X.P B (o + off) e q 0 c w U (by omega) (hv.plain a3)
    simp only [l1A] at G
    rw [<- h0T q c.toList (o + off) (by simp;omega)] at G
    have hsz:(b0x c.toList (o + off) q).toArray.size=c.size:=by simp [c0K]
    have N:=h0M w B c (b0x c.toList (o + off) q).toArray e (0,0) U hsz
    have O:(w.setRow B (b0x c.toList (o + off) q).toArray).shape? = w.shape?:=funext N
    refine ⟨_,G,?_⟩
    refine
     { ext := fun _ _ h => h
       rel:=?_
       shp:=fun B x h=>by rw [N];exact h
       wsz:=by simp [World.setRow]
       os:=rfl
       tape:=rfl
       out:=rfl
       hsz:=by simp
       keep:=?_
       kind:=?_
       fresh:=fun b x h L=>by rw [h] at L;cases L
       newB:=fun b B o h L=>by rw [h] at L;cases L
       frame:=?_ }
    ·refine { bs:=by have:=hR.bs;simpa [World.setRow] using this,lt:=fun b x h=>by simpa using hR.lt b x h,row:=?_,sep:=?_ }
     ·intro u y R ro J s k j
      rw [O]
      rw [b0a _ _ _ _ v] at j
      by_cases h:u=b
      ·subst h
       rw [k1B rfl] at j
       cases j
       rw [hb] at k;cases k
       refine ⟨_,e,(0,0),setRow_heap w B c _ e (0,0) U,by simp only [c0K,List.size_toArray,n1t];omega,?_,fun _=>⟨h5,rfl,rfl⟩,fun h=>by cases h⟩
       simp only [c0K,j0q]
       rw [n0X _ _ _ _ (by omega)]
       exact h3.write hv off
      ·rw [k1y h] at j
       by_cases hB:y=B
       ·subst hB
        have:=hR.sep b u y o R e l hb k (fun e=>h e.symm) hk
        rw [this] at j;cases j
       ·obtain ⟨c1,el,fz,h6,h7⟩:=hR.row u y R ro J s k j
        exact ⟨c1,el,fz,by rw [setRow_other w B y _ hB];exact h6,h7⟩
     ·intro u b2 y R o2 J s k Z a1 j
      rw [b0a _ _ _ _ v] at j ⊢
      have M:∃ z,H.bk u=.row false J z:=by
       by_cases h:u=b
       ·subst h;rw [k1B rfl] at j;cases j;exact ⟨l,hk⟩
       ·rw [k1y h] at j;exact ⟨s,j⟩
      obtain ⟨z,h0⟩:=M
      have:=hR.sep u b2 y R o2 J z k Z a1 h0
      by_cases h:b2=b
      ·subst h;rw [this] at hk;cases hk
      ·rw [k1y h];exact this
    ·intro u k
     rw [b0a _ _ _ _ v,k1y (by omega)]
    ·intro u J s _ j
     rw [b0a _ _ _ _ v] at j
     by_cases h:u=b
     ·subst h;rw [k1B rfl] at j;cases j;exact ⟨l,hk⟩
     ·rw [k1y h] at j;exact ⟨s,j⟩
    ·intro y _ a2
     refine setRow_other w B y _ ?_
     intro hB
     subst hB
     exact a2 b o e l hb a0 hk
   ·cases I
end
section
open Go
variable {X:Cx} {φ φ':Inj} {S:Shp} {H H':a0f} {w w':World} {fl:Nat} {t:b0c} {a:Act} {o:Oper}
theorem q0B {v:Value} (h:flat v=true):VR X φ S v v:=by
 unfold flat at h
 split at h
 ·exact .bool _
 ·exact .int _ _
 ·exact .str _
 ·exact .pnil
 ·exact .snil
 ·exact .nilFunc
 ·exact .nilIface
 ·simp at h
  obtain ⟨rfl,rfl⟩:=h
  exact .func _ _ _ _ _ rfl (fun i hi=>by simp at hi) rfl (fun i hi=>by simp at hi)
 ·cases h
theorem f0S {l:List Value} (h:l.all flat=true):CR X φ S l l:=by
 induction l with
 | nil=>exact CR.nil
 | cons v r ih=>simp only [l1E,k1L] at h;exact CR.cons (q0B h.1) (ih h.2)
theorem m0B {v:Value} (h:a0U (.const v)=true):VR X φ S v v:=by
 unfold a0U at h
 simp only [Bool.or_eq_true] at h
 rcases h with h | h
 ·exact q0B h
 ·cases v <;> simp at h
  rename_i cs
  exact VR.agg_iff.2 (f0S (by simpa using h))
theorem b0J (hT:CR X φ S t a.tmps.toList) {x:Operand} {c:Opd} (hc:c0B x=some c) (e:a0U c = true):VR X φ S (ev t c) (a.eval x):=by
 cases x with
 | tmp i=>simp only [c0B,k1z] at hc;subst hc;simpa [ev,get,Act.eval,a0V] using hT.get i
 | const v=>simp only [c0B,k1z] at hc;subst hc;exact m0B e
 | func f=>simp only [c0B,k1z] at hc;subst hc;exact .func _ _ _ _ _ rfl (fun i hi=>by simp at hi) rfl (fun i hi=>by simp at hi)
 | global g=>simp [c0B] at hc
theorem j0g (hT:CR X φ S t a.tmps.toList) {v v':Value} (hv:VR X φ S v v') (dst:Option Nat):CR X φ S (put t dst v) (a.put dst v').tmps.toList:=by
 cases dst with
 | none=>exact hT
 | some d=>simpa [put,Act.put] using hT.set d hv
theorem c0Q (a:Act) (dst:Option Nat) (v:Value):(a.put dst v).defers=a.defers:=by cases dst <;> rfl
def b0l (X:Cx) (fl:Nat) (φ:Inj) (H:a0f) (w:World) (o:Oper) (a:Act) (v:Value) (H':a0f):Prop :=
 ∃ φ' w' v',((execOp a.eval o).run X.P w=.ok (.value v') w' ∨ (v' = undef/\(execOp a.eval o).run X.P w=.ok .skip w'))/\VR X φ' w'.shape? v v'/\d0v X fl φ H w φ' H' w'
theorem b0l.same (hR:Rel X φ H w) {v v':Value} (c:(execOp a.eval o).run X.P w=.ok (.value v') w) (hv:VR X φ w.shape? v v'):b0l X fl φ H w o a v H :=
 ⟨φ,w,v',.inl c,hv,d0v.refl hR⟩
theorem b0l.sameV (hR:Rel X φ H w) {v:Value} (hv:VR X φ w.shape? v v) (c:(execOp a.eval o).run X.P w=.ok (.value v) w):b0l X fl φ H w o a v H :=
 ⟨φ,w,v,.inl c,hv,d0v.refl hR⟩
theorem d0K {P:Program} {c:TypeId} {n:Nat} (h:d0k P c=some n) (w:World):(sizeOf c).run P w=.ok n w:=by
 unfold d0k at h
 cases hi:P.info? c with
 | none=>simp [hi] at h
 | some i=>simp [hi] at h;simp [sizeOf,typeInfo,hi,h]
theorem e0J {P:Program} {c:TypeId} {n:Nat} (h:d0k P c=some n):P.cellsOf c=n:=by
 unfold d0k at h;simp [Program.cellsOf,h]
theorem h0l {P:Program} {c:TypeId} {b:Bool} (h:l0i P c=some b) (w:World):(isAgg c).run P w=.ok b w:=by
 unfold l0i at h
 cases hu:P.underlying c with
 | none=>simp [hu] at h
 | some d=>simp only [hu] at h;unfold isAgg;rw [Sem.run_bind,run_underlying hu w];cases d <;> simp_all
theorem f0v {P:Program} {c e:TypeId} (h:h0o P c=some e):P.underlying c=some (.slice e):=by
 unfold h0o at h;split at h <;> simp_all
theorem i0a {P:Program} {e:TypeId} {c:List Field} (h:g0l P e=some c):∃ l,P.underlying e=some (.struct l)/\l.toList=c:=by
 unfold g0l at h;split at h <;> simp_all
theorem i0j {P:Program} {c:TypeId} {z:List Value} (h:l0c P c=some z) :
  z.all flat=true/\∃ v i,P.info? c=some i/\i.zero=some v/\a0W v=z/\v.cells.toList=z/\∀ w,(zeroValue c).run P w=.ok v w:=by
 unfold l0c at h
 cases hi:P.info? c with
 | none=>simp [hi] at h
 | some i =>
  cases hz:i.zero with
  | none=>simp [hi,hz] at h
  | some v =>
   simp only [hi,hz,Option.bind_some] at h
   split at h
   ·rename_i e;cases h
    refine ⟨e,v,i,rfl,hz,rfl,?_,fun w=>by simp [zeroValue,typeInfo,hi,hz]⟩
    cases v <;> rfl
   ·cases h
section
variable (hR:Rel X φ H w) (hT:CR X φ w.shape? t a.tmps.toList)
include hR hT
theorem W0a {x:Operand} {c:Opd} (ho:o.op=.move x ∨ o.op=.assign x) (hc:c0B x=some c) (e:a0U c = true):b0l X fl φ H w o a (ev t c) H :=
 b0l.same hR (v':=a.eval x) (by rcases ho with ho | ho <;> simp [execOp,ho]) (b0J hT hc e)
theorem N0H {c x y:Operand} {c' k q:Opd} (ho:o.op=.pick c x y) (hc:c0B c=some c') (F:c0B x=some k) (G:c0B y=some q)
  (s:a0U c' = true) (u:a0U k = true) (z:a0U q = true) {v:Value} (h:opA fl t H (.pick c' k q)=.val v H'):b0l X fl φ H w o a v H':=by
 have e:=b0J hT hc s
 simp only [opA] at h
 split at h
 ·rename_i hb;cases h
  rw [hb] at e;generalize j:a.eval c=g at e;cases e
  exact b0l.same hR (v':=a.eval x) (by simp [execOp,ho,j,asBool]) (b0J hT F u)
 ·rename_i hb;cases h
  rw [hb] at e;generalize j:a.eval c=g at e;cases e
  exact b0l.same hR (v':=a.eval y) (by simp [execOp,ho,j,asBool]) (b0J hT G z)
 ·cases h
theorem Y0z {x:Operand} {e:Opd} (ho:o.op=.nilCheck x) (hc:c0B x=some e) (j:a0U e = true) {v:Value} (h:opA fl t H (.chk e)=.val v H'):b0l X fl φ H w o a v H':=by
 have hv:=b0J hT hc j
 simp only [opA] at h
 split at h
 ·rename_i p hb;cases h
  rw [hb] at hv;generalize c:a.eval x=g at hv;cases hv with
  | ptr _ a' B o' h1 h2 h3=>exact b0l.same hR (v':=.pointer (some a')) (by simp [execOp,ho,c]) (.ptr _ _ _ _ h1 h2 h3)
 ·rename_i f p q hb;cases h
  rw [hb] at hv;generalize c:a.eval x=g at hv;cases hv with
  | func _ _ _ a' b' h1 h2 h3 h4=>exact b0l.same hR (v':=.func (.func f) a' b') (by simp [execOp,ho,c]) (.func _ _ _ _ _ h1 h2 h3 h4)
 ·rename_i f p hb;cases h
  rw [hb] at hv;generalize c:a.eval x=g at hv;cases hv with
  | iface _ _ v' h1=>exact b0l.same hR (v':=.iface f v') (by simp [execOp,ho,c]) (.iface _ _ _ h1)
 ·cases h
theorem N0E {s d:TypeId} {x:Operand} {c:Opd} {k j:IntKind} (ho:o.op=.convert s d x) (hs:Z0s X.P s=some j) (e:Z0s X.P d=some k) (hc:c0B x=some c) (q:a0U c = true)
  {v:Value} (h:opA fl t H (.conv k c)=.val v H'):b0l X fl φ H w o a v H':=by
 have hv:=b0J hT hc q
 have z:X.P.underlying s=some (.int j):=by unfold Z0s at hs;split at hs <;> simp_all
 have y:X.P.underlying d=some (.int k):=by unfold Z0s at e;split at e <;> simp_all
 simp only [opA] at h
 split at h
 ·rename_i k' n hb;cases h
  rw [hb] at hv;generalize u:a.eval x=g at hv;cases hv
  exact b0l.same hR (v':=.int k (k.wrap n)) (by simp [execOp,ho,u,convert,run_underlying z,run_underlying y,Conv.intToInt]) (.int _ _)
 ·cases h
theorem K0q {c:TypeId} {d:TypeDesc} {x:Operand} {e:Opd} (ho:o.op=.makeInterface c x) (j:X.P.underlying c=some d) (k:∀ m,d ≠ .interface m) (hc:c0B x=some e) (h:a0U e = true) :
  b0l X fl φ H w o a (.iface c (ev t e)) H:=by
 refine b0l.same hR (v':=.iface c (a.eval x)) ?_ (.iface _ _ _ (b0J hT hc h))
 simp only [execOp,ho,Instr.makeInterface,Sem.run_bind,run_underlying j,Result.andThen_ok]
 cases d <;> simp_all
omit hR in
theorem j0a:∀ {xs:List Operand} {c:List Opd},i0l xs=some c->c.all a0U=true->CR X φ w.shape? (c.map (ev t)) (xs.map a.eval)
 | [],c,h,_=>by simp [i0l] at h;subst h;exact CR.nil
 | x :: xs,c,h,hf=>by
  simp only [i0l,m1T] at h
  cases hx:c0B x with
  | none=>simp [hx] at h
  | some x' =>
   cases hr:i0l xs with
   | none=>simp only [i0l] at hr;simp [hx,hr] at h
   | some r =>
    have e:=hr
    simp only [i0l] at hr;simp [hx,hr] at h;subst h
    simp only [l1E,k1L] at hf
    exact CR.cons (b0J hT hx hf.1) (j0a e hf.2)
theorem N0G {f:Fn} {xs h:Array Operand} {c e:List Opd} (ho:o.op=.makeFunc f xs h) (s:i0l xs.toList=some c) (u:i0l h.toList=some e)
  (k:c.all a0U=true) (q:e.all a0U=true):b0l X fl φ H w o a (.func f (c.map (ev t)).toArray (e.map (ev t)).toArray) H:=by
 have j:=j0a hT s k
 have e2:=j0a hT u q
 refine b0l.same hR (v':=.func f (xs.map a.eval) (h.map a.eval)) (by simp [execOp,ho,Instr.makeFunc]) ?_
 exact .func _ _ _ _ _ (by simpa using j.1) (fun i hi=>by simpa [a0V] using j.2 i (by simpa using hi)) (by simpa using e2.1) (fun i hi=>by simpa [a0V] using e2.2 i (by simpa using hi))
theorem Y0A {x:Operand} {k:Opd} {i:Nat} (ho:o.op=.extract x i) (hc:c0B x=some k) (q:a0U k = true) {v:Value} (h:opA fl t H (.ext k i)=.val v H'):b0l X fl φ H w o a v H':=by
 have hv:=b0J hT hc q
 simp only [opA] at h
 split at h
 ·rename_i vs hb
  rw [hb] at hv;generalize s:a.eval x=g at hv;cases hv with
  | tuple _ a' h1 h2 =>
   cases hi:vs[i]? with
   | none=>simp [hi,b0H] at h
   | some u =>
    simp [hi,b0H] at h;obtain ⟨rfl,rfl⟩:=h
    have j:i < vs.size:=(l1j.1 hi).1
    have e:=h2 i j
    simp only [k1I,hi,l1d] at e
    have c:a'[i]? = some a'[i]:=l1h (by omega)
    rw [c,l1d] at e
    exact b0l.same hR (v':=a'[i]) (by simp [execOp,ho,s,Instr.extract,c]) e
 ·cases h
theorem Y0D {y e:TypeId} {x:Operand} {z:Opd} {as:Array Operand} {at_:Array TypeId} (ho:o.op=.call { callee:=.builtin .len,args:=as,argTypes:=at_ }) (s:as.toList=[x])
  (u:at_.toList=[y]) (J:h0o X.P y=some e) (hc:c0B x=some z) (G:a0U z = true) {v:Value} (h:opA fl t H (.len z)=.val v H'):b0l X fl φ H w o a v H':=by
 have hv:=b0J hT hc G
 have k:as = #[x]:=by rw [<- l1B (xs:=as),s]
 have q:at_ = #[y]:=by rw [<- l1B (xs:=at_),u]
 subst k q
 simp only [opA] at h
 split at h
 ·rename_i p n c hb;cases h
  rw [hb] at hv;generalize I:a.eval x=g at hv
  have j:∀ F c',g=.slice F n c'->b0l X fl φ H w o a (.int .i64 n) H:=fun F c' e=>by
   subst e
   exact b0l.same hR (v':=.int .i64 n) (by simp [execOp,ho,I,resolve,invoke,builtin,Builtin.len_,run_underlying (f0v J),goInt]) (.int _ _)
  cases hv with
  | snil=>exact j _ _ rfl
  | sle _ _=>exact j _ _ rfl
  | sl _ a' _ _ c' B o' h1 h2 h3 h4 h5 h6 h7 h8=>exact j _ _ rfl
 ·cases h
theorem Y0y {u e:TypeId} {x:Operand} {k:Opd} {as:Array Operand} {at_:Array TypeId} (ho:o.op=.call { callee:=.builtin .cap,args:=as,argTypes:=at_ }) (q:as.toList=[x])
  (s:at_.toList=[u]) (G:h0o X.P u=some e) (hc:c0B x=some k) (z:a0U k = true) {v:Value} (h:opA fl t H (.cap k)=.val v H'):b0l X fl φ H w o a v H':=by
 have hv:=b0J hT hc z
 have c:as = #[x]:=by rw [<- l1B (xs:=as),q]
 have j:at_ = #[u]:=by rw [<- l1B (xs:=at_),s]
 subst c j
 simp only [opA,b0H,a1s] at h
 by_cases hb:ev t k = .slice none 0 0
 ·rw [hb] at hv h;cases h;generalize F:a.eval x=g at hv
  cases hv
  exact b0l.same hR (v':=.int .i64 0) (by simp [execOp,ho,F,resolve,invoke,builtin,Builtin.cap_,run_underlying (f0v G),goInt]) (.int _ _)
 ·split at h
  ·rename_i y;split at y
   ·rename_i hc;exact k1Q hc hb
   ·cases y
  ·cases h
end
theorem o0U {P:Program} {c:TypeId} (e:P.underlying c=some .bool) (p q:Bool) (w:World):(Op.equal c (.bool p) (.bool q)).run P w=.ok (p == q) w:=by
 unfold Op.equal Op.maxDepth;rw [Op.equalIn];simp only [Sem.run_bind,run_underlying e,Result.andThen_ok];rfl
theorem g0N {P:Program} {h e:TypeId} (k:P.underlying h=some (.slice e)) (l c q j:Nat) (w:World):(Op.equal h (.slice none l c) (.slice none q j)).run P w=.ok true w:=by
 unfold Op.equal Op.maxDepth;rw [Op.equalIn];simp only [Sem.run_bind,run_underlying k,Result.andThen_ok];rfl
theorem d0I {P:Program} {h e:TypeId} (k:P.underlying h=some (.slice e)) (p:Addr) (l c q j:Nat) (w:World):(Op.equal h (.slice (some p) l c) (.slice none q j)).run P w=.ok false w:=by
 unfold Op.equal Op.maxDepth;rw [Op.equalIn];simp only [Sem.run_bind,run_underlying k,Result.andThen_ok];rfl
theorem h0p {P:Program} {c:TypeId} {x y:Array TypeId} {z:Bool} (e:P.underlying c=some (.func x y z)) (w:World):(Op.equal c .nilFunc .nilFunc).run P w=.ok true w:=by
 unfold Op.equal Op.maxDepth;rw [Op.equalIn];simp only [Sem.run_bind,run_underlying e,Result.andThen_ok];rfl
theorem h0q {P:Program} {c:TypeId} {x y:Array TypeId} {z:Bool} (e:P.underlying c=some (.func x y z)) (f:Fn) (p q:Array Value) (w:World):(Op.equal c (.func f p q) .nilFunc).run P w=.ok false w:=by
 unfold Op.equal Op.maxDepth;rw [Op.equalIn];simp only [Sem.run_bind,run_underlying e,Result.andThen_ok];rfl
theorem y0Q {d:TypeDesc} (h:N0J d=1):d=.bool:=by cases d <;> simp [N0J] at h ⊢
theorem t0W {d:TypeDesc} (h:N0J d=2):∃ e,d=.slice e:=by cases d <;> simp [N0J] at h ⊢
theorem l0W {d:TypeDesc} (h:N0J d=3):∃ p q r,d=.func p q r:=by cases d <;> simp [N0J] at h ⊢
section
variable (hR:Rel X φ H w) (hT:CR X φ w.shape? t a.tmps.toList)
include hR hT
theorem Y0w {b:BinOp} {M a0:TypeId} {d:TypeDesc} {x y:Operand} {N O:Opd} (ho:o.op=.binOp b M x y a0) (J:X.P.underlying M=some d) (hx:c0B x=some N) (hy:c0B y=some O)
  (fx:a0U N = true) (fy:a0U O = true) {v:Value} (h:opA fl t H (.bin (N0J d) b N O)=.val v H'):b0l X fl φ H w o a v H':=by
 have z:=b0J hT hx fx
 have F:=b0J hT hy fy
 simp only [opA] at h
 cases hb:d0p (N0J d) b (ev t N) (ev t O) with
 | none=>simp [hb,b0H] at h
 | some u =>
  simp only [hb,b0H,OpRes.val.injEq] at h
  obtain ⟨rfl,rfl⟩:=h
  generalize R:a.eval x=g1 at z
  generalize U:a.eval y=g2 at F
  have c:∀ {v'},(binOp b M g1 g2).run X.P w=.ok v' w->(eqGuard b M x y g1 g2).run X.P w=.ok () w->(execOp a.eval o).run X.P w=.ok (.value v') w:=by
   intro v' s e2
   simp [execOp,ho,R,U,s,e2]
  unfold d0p at hb
  split at hb
  ·split at hb
   ·rename_i k p k2 q s e2 Z;cases hb
    rw [s] at z;rw [e2] at F;cases z;cases F
    exact b0l.same hR (c (by simp [binOp,Op.shift,show ¬ q < 0 by omega]) (by simp [eqGuard])) (.int _ _)
   ·cases hb
  ·split at hb
   ·rename_i k p k2 q s e2 Z;cases hb
    rw [s] at z;rw [e2] at F;cases z;cases F
    exact b0l.same hR (c (by simp [binOp,Op.shift,show ¬ q < 0 by omega]) (by simp [eqGuard])) (.int _ _)
   ·cases hb
  ·rename_i k p k2 q _ _ s e2
   split at hb
   ·rename_i hk;subst hk
    rw [s] at z;rw [e2] at F;cases z;cases F
    have I:∀ L,(eqGuard L M x y (.int k p) (.int k q)).run X.P w=.ok () w:=by intro L;cases L <;> simp [eqGuard]
    split at hb
    case h_4 | h_5 =>
     split at hb
     ·cases hb
     ·rename_i Z;cases hb
      exact b0l.same hR (c (by simp [binOp,Op.intDiv,Z]) (I _)) (.int _ _)
    case h_9 | h_16 | h_17=>cases hb
    all_goals
     cases hb
     refine b0l.sameV hR (by constructor) (c ?_ (I _))
     simp only [binOp,ne_eq,not_true_eq_false,l1y];rfl
   ·cases hb
  ·split at hb
   ·rename_i p q s e2 G;cases hb
    rw [s] at z;rw [e2] at F;cases z;cases F
    have j:=y0Q G;subst j
    exact b0l.same hR (c (by simp [binOp,o0U J p q w]) (by simp [eqGuard])) (.bool _)
   ·cases hb
  ·split at hb
   ·rename_i p q s e2 G;cases hb
    rw [s] at z;rw [e2] at F;cases z;cases F
    have j:=y0Q G;subst j
    exact b0l.same hR (c (by simp [binOp,o0U J p q w,bne]) (by simp [eqGuard])) (.bool _)
   ·cases hb
  ·split at hb
   ·rename_i p _ _ _ _ s e2 G;cases hb
    rw [s] at z;rw [e2] at F;cases F
    obtain ⟨e,j⟩:=t0W G;subst j
    cases z
    ·exact b0l.same hR (c (v':=.bool true) (by simp [binOp,g0N J]) (by simp [eqGuard])) (.bool _)
    ·exact b0l.same hR (c (v':=.bool false) (by simp [binOp,d0I J]) (by simp [eqGuard])) (.bool _)
    ·exact b0l.same hR (c (v':=.bool false) (by simp [binOp,d0I J]) (by simp [eqGuard])) (.bool _)
   ·cases hb
  ·split at hb
   ·rename_i p _ _ _ _ s e2 G;cases hb
    rw [s] at z;rw [e2] at F;cases F
    obtain ⟨e,j⟩:=t0W G;subst j
    cases z
    ·exact b0l.same hR (c (v':=.bool false) (by simp [binOp,g0N J]) (by simp [eqGuard])) (.bool _)
    ·exact b0l.same hR (c (v':=.bool true) (by simp [binOp,d0I J]) (by simp [eqGuard])) (.bool _)
    ·exact b0l.same hR (c (v':=.bool true) (by simp [binOp,d0I J]) (by simp [eqGuard])) (.bool _)
   ·cases hb
  ·split at hb
   ·rename_i s e2 G;cases hb
    rw [s] at z;rw [e2] at F;cases z;cases F
    obtain ⟨p,q,r,j⟩:=l0W G;subst j
    exact b0l.same hR (c (v':=.bool true) (by simp [binOp,h0p J]) (by simp [eqGuard])) (.bool _)
   ·cases hb
  ·split at hb
   ·rename_i s e2 G;cases hb
    rw [s] at z;rw [e2] at F;cases z;cases F
    obtain ⟨p,q,r,j⟩:=l0W G;subst j
    exact b0l.same hR (c (v':=.bool false) (by simp [binOp,h0p J]) (by simp [eqGuard])) (.bool _)
   ·cases hb
  ·split at hb
   ·rename_i s e2 G;cases hb
    rw [s] at z;rw [e2] at F;cases F
    obtain ⟨p,q,r,j⟩:=l0W G;subst j
    cases z
    exact b0l.same hR (c (v':=.bool false) (by simp [binOp,h0q J]) (by simp [eqGuard])) (.bool _)
   ·cases hb
  ·split at hb
   ·rename_i s e2 G;cases hb
    rw [s] at z;rw [e2] at F;cases F
    obtain ⟨p,q,r,j⟩:=l0W G;subst j
    cases z
    exact b0l.same hR (c (v':=.bool true) (by simp [binOp,h0q J]) (by simp [eqGuard])) (.bool _)
   ·cases hb
  ·cases hb
theorem c1U {u:UnOp} {z:TypeId} {x:Operand} {q:Opd} (ho:o.op=.unOp u z x) (y:c0B x=some q) (s:a0U q = true) {v:Value} (h:opA fl t H (.un u q)=.val v H'):b0l X fl φ H w o a v H':=by
 have c:=b0J hT y s
 simp only [opA] at h
 cases hb:unA u (ev t q) with
 | none=>simp [hb,b0H] at h
 | some r =>
  simp only [hb,b0H,OpRes.val.injEq] at h
  obtain ⟨rfl,rfl⟩:=h
  generalize e:a.eval x=g1 at c
  unfold unA at hb
  split at hb
  ·rename_i k n j;cases hb;rw [j] at c;cases c
   exact b0l.same hR (v':=_) (by simp [execOp,ho,e,Op.unary,Op.intArith]) (.int _ _)
  ·rename_i k n j;cases hb;rw [j] at c;cases c
   exact b0l.same hR (v':=_) (by simp [execOp,ho,e,Op.unary,Op.intBits]) (.int _ _)
  ·rename_i k j;cases hb;rw [j] at c;cases c
   exact b0l.same hR (v':=_) (by simp [execOp,ho,e,Op.unary]) (.bool _)
  ·cases hb
theorem K0r {c:Bool} {bi:Builtin} {I:Array TypeId} {as:Array Operand} {x:Operand} {xs:List Operand} {G:Opd} {e:List Opd}
  (ho:o.op=.call { callee:=.builtin bi,args:=as,argTypes:=I }) (M:bi=if c then .max else .min) (L:as.toList=x :: xs) (hx:c0B x=some G) (R:i0l xs=some e)
  (fx:a0U G = true) (J:e.all a0U=true) {v:Value} (h:opA fl t H (.mnx c G e)=.val v H'):b0l X fl φ H w o a v H':=by
 have h1:=b0J hT hx fx
 have h2:=j0a hT R J
 have j:as=(x :: xs).toArray:=by rw [<- l1B (xs:=as),L]
 subst j
 simp only [opA] at h
 cases hb:u0P c (ev t G) (e.map (ev t)) with
 | none=>simp [hb,b0H] at h
 | some r =>
  simp only [hb,b0H,OpRes.val.injEq] at h
  obtain ⟨rfl,rfl⟩:=h
  have U:∀ (l z:List Value) (u F r:Value),CR X φ w.shape? l z->VR X φ w.shape? u F->u0P c u l=some r ->
    ∃ k n,r=.int k n/\(z.foldlM (if c then Builtin.max2 else Builtin.min2) F).run X.P w=.ok (.int k n) w:=by
   intro l
   induction l with
   | nil =>
    intro z u F r N O s
    rw [N.nil_left]
    cases u <;> simp [u0P] at s
    subst s;cases O
    exact ⟨_,_,rfl,rfl⟩
   | cons p q ih =>
    intro z u F r N O s
    obtain ⟨p',q',rfl,hp,hq⟩:=N.cons_left
    cases u <;> cases p <;> simp [u0P] at s
    cases O;cases hp
    rename_i k n k2 Z
    obtain ⟨k3,n3,rfl,h3⟩:=ih q' _ _ r hq (.int k (mn2 c n Z)) s
    refine ⟨k3,n3,rfl,?_⟩
    rw [List.foldlM_cons,Sem.run_bind]
    have:((if c then Builtin.max2 else Builtin.min2) (.int k n) (.int k2 Z)).run X.P w=.ok (.int k (mn2 c n Z)) w:=by
     cases c <;> simp [Builtin.max2,Builtin.min2,mn2]
    rw [this];exact h3
  obtain ⟨k,n,rfl,y⟩:=U _ _ _ _ _ h2 h1 hb
  refine b0l.same hR (v':=.int k n) ?_ (.int _ _)
  subst M
  cases c
  ·simp only [k1W,l1y] at y ho
   simp [execOp,ho,resolve,invoke,builtin,Builtin.min_,y]
  ·simp only [l1o] at y ho
   simp [execOp,ho,resolve,invoke,builtin,Builtin.max_,y]
end
theorem e0d {p:Addr} (h:p.spot=none) (n:Nat):p.add n = ⟨p.block,p.off + n,none⟩:=by
 cases p;simp only at h;subst h;unfold Addr.add;split <;> simp_all
theorem k0e {P:Program} {v v':Value} {d n y:Nat} (hv:VR X φ S v v') (hb:bnd d (some v)=some n) (e:n<=y) (code:BoundsCode) (w:World):(Instr.sliceBound v' y code).run P w=.ok n w:=by
 cases v <;> simp [bnd] at hb
 obtain ⟨c,rfl⟩:=hb
 cases hv
 rename_i k i
 simp [Instr.sliceBound,asIntOf]
 omega
theorem m0o {B o off:Nat} {w:World} {c:List Value} (h:∀ j v,c[j]? = some v->w.cell? ⟨B,o + off + j,none⟩ = some v) :
  ∀ j v,c[j]? = some v->w.cell? ((⟨B,o + off,none⟩:Addr).add j)=some v:=fun j v e=>by rw [e0d rfl];exact h j v e
section
variable (hR:Rel X φ H w) (hT:CR X φ w.shape? t a.tmps.toList)
include hR hT
theorem c1T {ty e:TypeId} {size:Nat} {x:Operand} {lo hi mx:Option Operand} {x':Opd} {O I G:Option Opd} (ho:o.op=.slice ty x lo hi mx) (he:h0o X.P ty=some e) (hs:d0k X.P e=some size)
  (hx:c0B x=some x') (a5:q0l lo=some O) (b8:q0l hi=some I) (d0:q0l mx=some G) (fx:a0U x' = true) (a2:O.toList.all a0U=true) (a6:I.toList.all a0U=true)
  (c1:G.toList.all a0U=true) {v:Value} (h:opA fl t H (.sl e size x' O I G)=.val v H'):b0l X fl φ H w o a v H':=by
 have hv:=b0J hT hx fx
 have d3:=f0v he
 simp only [opA] at h
 split at h
 ·cases h
 rename_i a4
 cases hb:e0g size (ev t x') (O.map (ev t)) (I.map (ev t)) (G.map (ev t)) with
 | none=>simp [hb,b0H] at h
 | some r =>
  simp only [hb,b0H,OpRes.val.injEq] at h
  obtain ⟨rfl,rfl⟩:=h
  have opt:∀ {z:Option Operand} {z':Option Opd},q0l z=some z'->z'.toList.all a0U=true ->
    (z=none/\z' = none) ∨ ∃ p k,z=some p/\z' = some k/\VR X φ w.shape? (ev t k) (a.eval p):=by
   intro z z' hz hf
   cases z with
   | none=>simp [q0l] at hz;exact .inl ⟨rfl,hz.symm⟩
   | some p =>
    simp only [q0l] at hz
    cases hp:c0B p with
    | none=>simp [hp] at hz
    | some k=>simp [hp] at hz;subst hz;exact .inr ⟨p,k,rfl,rfl,b0J hT hp (by simpa using hf)⟩
  -- the J, as the model reckons them
  have J:∀ (len cap l y:Nat),bnd 0 (O.map (ev t))=some l->bnd len (I.map (ev t))=some y->l<=y->y<=len->len<=cap->∀ m,
    ((G.map (ev t)=none/\m=cap) ∨ (∃ u,G.map (ev t)=some u/\(I.map (ev t)).isSome=true/\bnd 0 (some u)=some m/\y<=m/\m<=len)) ->
    (Instr.sliceBounds true len cap (lo.map a.eval) (hi.map a.eval) (mx.map a.eval)).run X.P w=.ok (l,y,m) w:=by
   intro len cap l y M hh L d5 d4 m hm
   rcases opt d0 c1 with ⟨rfl,rfl⟩ | ⟨q,q',rfl,rfl,hq⟩
   ·rcases hm with ⟨_,rfl⟩ | ⟨u,hu,_⟩
    ·rcases opt b8 a6 with ⟨rfl,rfl⟩ | ⟨p,k,rfl,rfl,hp⟩
     ·simp [bnd] at hh;subst hh
      rcases opt a5 a2 with ⟨rfl,rfl⟩ | ⟨p2,c0,rfl,rfl,N⟩
      ·simp [bnd] at M;subst M;simp [Instr.sliceBounds]
      ·simp [Instr.sliceBounds,k0e N M L]
     ·rcases opt a5 a2 with ⟨rfl,rfl⟩ | ⟨p2,c0,rfl,rfl,N⟩
      ·simp [bnd] at M;subst M;simp [Instr.sliceBounds,k0e hp hh (show y<=m by omega)]
      ·simp [Instr.sliceBounds,k0e N M L,k0e hp hh (show y<=m by omega)]
    ·simp at hu
   ·rcases hm with ⟨hu,_⟩ | ⟨u,hu,a0,a8,b9,c7⟩
    ·simp at hu
    ·simp only [l1S,k1z] at hu;subst hu
     rcases opt b8 a6 with ⟨rfl,rfl⟩ | ⟨p,k,rfl,rfl,hp⟩
     ·simp at a0
     ·rcases opt a5 a2 with ⟨rfl,rfl⟩ | ⟨p2,c0,rfl,rfl,N⟩
      ·simp [bnd] at M;subst M;simp [Instr.sliceBounds,k0e hq a8 (show m<=cap by omega),k0e hp hh b9]
      ·simp [Instr.sliceBounds,k0e hq a8 (show m<=cap by omega),k0e hp hh b9,k0e N M L]
  generalize hg:a.eval x=g at hv
  unfold e0g at hb
  split at hb
  ·rename_i p len cap e1
   rw [e1] at hv a4
   split at hb
   ·rename_i l y M hh
    split at hb
    ·rename_i L
     have a7:∀ (k:Option Addr) (j m:Nat),g=.slice k len j->len<=j ->
       ((G.map (ev t)=none/\m=j) ∨ (∃ u,G.map (ev t)=some u/\(I.map (ev t)).isSome=true/\bnd 0 (some u)=some m/\y<=m/\m<=len)) ->
       (execOp a.eval o).run X.P w=.ok (.value (.slice (if m=l then k else k.map (·.add (l * size))) (y - l) (m - l))) w:=by
      intro k j m F U hm
      have c4:=J len j l y M hh L.1 L.2 U m hm
      simp only [execOp,ho,hg,F,Instr.sliceAt,Instr.slice,Sem.run_bind,run_underlying d3,Result.andThen_ok,c4,d0K hs,Sem.run_pure]
     -- the values fit
     have val:∀ (j m:Nat) (c2:Nat),VR X φ w.shape? (.slice p len cap) g->(∃ k,g=.slice k len j)->y<=m->m<=j->(c2 ≠ unk->m - l=c2)->(p=none ∨ cap=0->c2=0) ->
       ∀ k,g=.slice k len j->VR X φ w.shape? (.slice (p.map fun q=>⟨q.block,q.off + l * size,none⟩) (y - l) c2) (.slice (if m=l then k else k.map (·.add (l * size))) (y - l) (m - l)):=by
      intro j m c2 d2 _ h1 h2 h3 hz k d1
      subst d1
      cases d2 with
      | snil =>
       have:l=0:=by omega
       have:y=0:=by omega
       have:m=0:=by omega
       have:=hz (.inl rfl)
       subst_vars
       exact .snil
      | sle q q' =>
       have:l=0:=by omega
       have:y=0:=by omega
       have:m=0:=by omega
       have:=hz (.inr rfl)
       subst_vars
       simp only [n1z,l1o,l1S]
       exact .sle _ _
      | sl q q' _ _ _ B o' g1 g2 g3 g4 g5 g6 g7 g8 =>
       have e2:(if m=l then some q' else (some q').map (·.add (l * size)))=some (if m=l then q' else q'.add (l * size)):=by split <;> rfl
       rw [e2]
       refine .sl _ _ _ _ _ B o' rfl g2 ?_ ?_ ?_ h3 (by omega) ?_
       ·split
        ·exact g3
        ·rw [e0d g3]
       ·split
        ·exact g4
        ·rw [e0d g3];exact g4
       ·intro d6
        rw [k1y (by omega),e0d g3]
        simp only
        rw [g5 (by omega)];omega
       ·intro s
        have R:X.base<=q'.block:=by
         split at s
         ·exact s
         ·rw [e0d g3] at s;exact s
        obtain ⟨e2,n,g9,c3⟩:=g8 R
        split
        ·rename_i c7;refine ⟨e2,n,g9,?_⟩
         have:m - l=0:=by omega
         rw [this]
         have:0 * X.P.cellsOf e2<=j * X.P.cellsOf e2:=k1E _ (l1D _)
         omega
        ·rw [e0d g3]
         -- the row's element type is the slice's
         have c6:X.P.cellsOf e2=size:=by
          cases hk:H.bk q.block with
          | dead =>
           have a3:cap=0:=by
            rcases m1E cap with h | h
            ·exact h
            ·have:cap ≠ 0:=by omega
             simp [elemOk,hk,this] at a4
           have:=g6 (by subst a3;simp [unk])
           omega
          | row ro e3 cs =>
           obtain ⟨c,el,fz,k1,k2,k3,k4,k5⟩:=hR.row _ _ _ _ _ _ g2 hk
           cases ro with
           | true=>have:=k5 rfl;omega
           | false =>
            obtain ⟨k6,rfl,rfl⟩:=k4 rfl
            have b4:(el == e)=true:=by
             have a3:cap ≠ 0:=fun h=>by have:=g6 (by subst h;simp [unk]);omega
             simpa [elemOk,hk,a3] using a4
            have b5:el=e:=by simpa using b4
            rw [g4] at g9
            simp only [World.shape?,k1,k1z,m1t] at g9
            rw [<- g9.1,b5]
            exact e0J hs
         refine ⟨e2,n,g9,?_⟩
         simp only
         rw [c6] at c3 ⊢
         have:l * size + (m - l) * size=m * size:=by rw [<- k1R];congr 1;omega
         have:m * size<=j * size:=k1E _ h2
         omega
     have a1:∃ k j,g=.slice k len j/\len<=j/\(cap ≠ unk->j = cap):=by
      cases hv with
      | snil=>exact ⟨_,_,rfl,k1x _,fun _=>rfl⟩
      | sle q q'=>exact ⟨_,_,rfl,k1x _,fun _=>rfl⟩
      | sl q q' _ _ j B o' g1 g2 g3 g4 g5 g6 g7 g8=>exact ⟨_,_,rfl,g7,g6⟩
     obtain ⟨k,j,F,U,a9⟩:=a1
     split at hb
     ·rename_i c8;cases hb
      refine b0l.same hR (a7 k j j F U (.inl ⟨c8,rfl⟩)) (val j j _ hv ⟨_,F⟩ (by omega) (k1x _) ?_ ?_ k F)
      ·intro a0
       split at a0
       ·exact k1Q rfl a0
       ·rename_i b1;rw [k1y b1,a9 b1]
      ·rintro (hp | hp)
       ·subst hp
        cases hv
        simp [unk]
       ·subst hp
        simp [unk]
     ·rename_i u c9
      split at hb
      ·rename_i m c5
       split at hb
       ·rename_i Z;cases hb
        exact b0l.same hR (a7 k j m F U (.inr ⟨u,c9,Z.1,c5,Z.2.1,Z.2.2⟩)) (val j m _ hv ⟨_,F⟩ Z.2.1 (by omega) (fun _=>rfl) (fun hp=>hp.elim (fun hp=>by subst hp;cases hv;omega) (fun hp=>by have:=a9 (by subst hp;simp [unk]);omega)) k F)
       ·cases hb
      ·cases hb
    ·cases hb
   ·cases hb
  ·cases hb
theorem c1Q {u:TypeId} {s:List Field} {f:Field} {n i:Nat} {x:Operand} {k:Opd} (ho:o.op=.fieldAddr u x i) (e:g0l X.P u=some s) (F:s[i]? = some f) (I:d0k X.P f.type=some n) (j:n ≠ 0)
  (L:c0B x=some k) (z:a0U k = true) {v:Value} (h:opA fl t H (.fa f.offset k)=.val v H'):b0l X fl φ H w o a v H':=by
 have hv:=b0J hT L z
 obtain ⟨l,J,rfl⟩:=i0a e
 simp only [opA] at h
 split at h
 ·rename_i p y
  split at h
  ·cases h
  ·cases h
   rw [y] at hv;generalize G:a.eval x=g at hv
   cases hv with
   | ptr _ q B o' h1 h2 h3 =>
    subst h3
    have c:l[i]? = some f:=by simpa using F
    refine b0l.same hR (v':=.pointer (some ⟨B,o' + p.off + f.offset,none⟩)) ?_ (.ptr _ _ B o' rfl h2 (by simp [l1R]))
    simp [execOp,ho,G,Instr.fieldAt,run_underlying J,c,Instr.sureAddr,fieldPlace,d0K I,j,e0d]
 ·cases h
theorem Y0B {j:TypeId} {O:List Field} {f:Field} {i:Nat} {x:Operand} {N:Opd} (ho:o.op=.fieldAddr j x i) (I:g0l X.P j=some O) (hf:O[i]? = some f) (hn:d0k X.P f.type=some 0)
  (u:f.offset=0) (y:f.byteOffset=0) (e:((List.range (X.P.cellsOf j)).all fun k=>(byteOfCell X.P X.P.depth j k).isSome)=true) (F:X.P.cellsOf j ≠ 0)
  (hx:c0B x=some N) (U:a0U N = true) {v:Value} (h:opA fl t H (.fa0 j N)=.val v H'):b0l X fl φ H w o a v H':=by
 have hv:=b0J hT hx U
 obtain ⟨l,hu,rfl⟩:=i0a I
 simp only [opA] at h
 split at h
 ·rename_i p R
  split at h
  ·rename_i e' cs hk
   split at h
   ·rename_i hc
    obtain ⟨Z,rfl,z⟩:=hc
    cases h
    rw [R] at hv;generalize hg:a.eval x=g at hv
    cases hv with
    | ptr _ q B o' h1 h2 h3 =>
     subst h3
     have G:l[i]? = some f:=by simpa using hf
     obtain ⟨c,k1,k2,k3,k4⟩:=hR.blkT h2 hk
     have M:w.shape? B=some (e',c.size):=by simp [World.shape?,k1]
     have s:∀ off,∃ n,(byteOf ⟨B,off,none⟩).run X.P w=.ok n w:=by
      intro off
      have J:off % X.P.cellsOf e' < X.P.cellsOf e':=l1T _ (by omega)
      have hb:=l1a.1 e (off % X.P.cellsOf e') (l1G.2 J)
      obtain ⟨b,hb⟩:=Option.isSome_iff_exists.1 hb
      exact ⟨off / X.P.cellsOf e' * X.P.bytesOf e' + b,by simp [byteOf,noView,viewAt,M,F,hb]⟩
     obtain ⟨nb,L⟩:=s (o' + p.off)
     refine b0l.same hR (v':=.pointer (some ⟨B,o' + p.off,none⟩)) ?_ (.ptr _ _ B o' rfl h2 (by simp [z]))
     simp [execOp,ho,hg,Instr.fieldAt,run_underlying hu,G,Instr.sureAddr,fieldPlace,d0K hn,partAt,u,y,L]
   ·cases h
  ·cases h
 ·cases h
theorem c1R {I e:TypeId} {size:Nat} {x y:Operand} {F G:Opd} (ho:o.op=.indexAddr I x y) (N:h0o X.P I=some e) (hs:d0k X.P e=some size) (U:c0B x=some F) (Z:c0B y=some G)
  (L:a0U F = true) (M:a0U G = true) {v:Value} (h:opA fl t H (.ia size F G)=.val v H'):b0l X fl φ H w o a v H':=by
 have hv:=b0J hT U L
 have hi:=b0J hT Z M
 have z:=f0v N
 simp only [opA] at h
 split at h
 ·rename_i p n c k j J e2
  split at h
  ·rename_i R;cases h
   rw [J] at hv;rw [e2] at hi
   generalize O:a.eval x=g at hv
   generalize u:a.eval y=g2 at hi
   cases hi
   cases hv with
   | sle _ q=>omega
   | sl _ q _ _ c' B o' g1 g2 g3 g4 g5 g6 g7 g8 =>
    have s:=g5 (by omega)
    refine b0l.same hR (v':=.pointer (some ⟨B,o' + (p.off + j.toNat * size),none⟩)) ?_ (.ptr _ _ B o' rfl g2 rfl)
    simp [execOp,ho,O,u,Instr.indexAt,asIntOf,run_underlying z,R,d0K hs,e0d g3,g4,s,l1R]
  ·cases h
 ·cases h
theorem Y0C {I:TypeId} {y:List Field} {f:Field} {n i:Nat} {b:Bool} {x:Operand} {k:Opd} (ho:o.op=.field I x i) (s:g0l X.P I=some y) (M:y[i]? = some f) (O:d0k X.P f.type=some n)
  (hb:l0i X.P f.type=some b) (R:c0B x=some k) (L:a0U k = true) {v:Value} (h:opA fl t H (.fld b f.offset n k)=.val v H'):b0l X fl φ H w o a v H':=by
 have hv:=b0J hT R L
 obtain ⟨l,G,rfl⟩:=i0a s
 have e:l[i]? = some f:=by simpa using M
 simp only [opA] at h
 cases hr:O0e b f.offset n (ev t k) with
 | none=>simp [hr,b0H] at h
 | some r =>
  simp only [hr,b0H,OpRes.val.injEq] at h
  obtain ⟨rfl,rfl⟩:=h
  generalize F:a.eval x=g at hv
  unfold O0e at hr
  split at hr
  ·rename_i cs J
   rw [J] at hv
   cases hv with
   | agg _ cs' h1 h2 =>
    have q:=VR.agg_iff.1 (.agg cs cs' h1 h2)
    split at hr
    ·rename_i c
     split at hr
     ·rename_i N;cases hr
      refine b0l.same hR (v':=.agg (cs'.extract f.offset (f.offset + n))) (by simp [execOp,ho,F,Instr.field,run_underlying G,e,asAgg,part,h0l hb,c,d0K O]) ?_
      exact VR.agg_iff.2 (by simpa [Array.toList_extract] using (q.drop f.offset).take n)
     ·cases hr
    ·rename_i c
     have u:f.offset < cs.size:=(l1j.1 hr).1
     have j:cs'[f.offset]? = some cs'[f.offset]:=l1h (by omega)
     have z:=h2 f.offset u
     simp only [k1I,hr,l1d,j] at z
     exact b0l.same hR (v':=cs'[f.offset]) (by simp [execOp,ho,F,Instr.field,run_underlying G,e,asAgg,part,h0l hb,c,j]) z
  ·cases hr
theorem N0F {L:TypeId} {n:Nat} {b:Bool} {x:Operand} {F:Opd} (ho:o.op=.load L x) (M:d0k X.P L=some n) (hb:l0i X.P L=some b) (Z:c0B x=some F) (R:a0U F = true)
  {v:Value} (h:opA fl t H (.load b n F)=.val v H'):b0l X fl φ H w o a v H':=by
 have hv:=b0J hT Z R
 simp only [opA] at h
 cases hr:b0v H b n (ev t F) with
 | none=>simp [hr,b0H] at h
 | some r =>
  simp only [hr,b0H,OpRes.val.injEq] at h
  obtain ⟨rfl,rfl⟩:=h
  generalize J:a.eval x=g at hv
  unfold b0v at hr
  split at hr
  ·rename_i p O
   rw [O] at hv
   cases hv with
   | ptr _ q B o' h1 h2 h3 =>
    subst h3
    split at hr
    ·rename_i G;cases hr
     obtain ⟨rfl,rfl⟩:=G
     exact b0l.same hR (v':=.agg #[]) (by simp [execOp,ho,J,Instr.loadAt,Instr.sureAddr,loadVar,h0l hb,d0K M,loadCells,loadCellsFrom]) (VR.agg_iff.2 CR.nil)
    ·split at hr
     ·cases hr
     ·split at hr
      ·rename_i cs I
       obtain ⟨e,k,j,y,c⟩:=hR.cells h2 I
       cases b with
       | true =>
        simp only [l1o] at hr e j;cases hr
        have z:=run_loadCells_list (P:=X.P) w ⟨B,o' + p.off,none⟩ k (m0o c)
        rw [j] at z
        exact b0l.same hR (v':=.agg k.toArray) (by simp [execOp,ho,J,Instr.loadAt,Instr.sureAddr,loadVar,h0l hb,d0K M,z]) (VR.agg_iff.2 (by simpa using y))
       | false =>
        simp only [k1W,l1y] at hr e j
        cases cs with
        | nil=>simp at e
        | cons u r' =>
         simp only [List.head?_cons,k1z] at hr;subst hr
         obtain ⟨N,r2,rfl,U,_⟩:=y.cons_left
         have s:=c 0 N rfl
         simp only [l1A] at s
         exact b0l.same hR (v':=N) (by simp [execOp,ho,J,Instr.loadAt,Instr.sureAddr,loadVar,h0l hb,s]) U
      ·cases hr
  ·cases hr
end
theorem x0p {P:Program} {α c:Type} (g:α->Sem c) (f:α->c) (w:World):∀ (l:List α),(∀ x ∈ l,(g x).run P w=.ok (f x) w)->(l.mapM g).run P w=.ok (l.map f) w
 | [],_=>by simp
 | x :: r,h=>by
  have e:=h x (by simp)
  have j:=x0p g f w r (fun y k=>h y (by simp [k]))
  simp [m1T,e,j]
theorem w0F:∀ (vs:List Value) (cs:Array Value) (off:Nat) (k:Nat),((vs.toArray.zipIdx k).foldl (fun cs (c,j)=>cs.setIfInBounds (off + j) c) cs).toList=b0x cs.toList (off + k) vs:=by
 intro vs
 induction vs with
 | nil =>
  intro cs off k
  have e:(([]:List Value).toArray.zipIdx k) = #[]:=by apply Array.ext';simp
  rw [e];simp [b0x]
 | cons v r ih =>
  intro cs off k
  have e:((v :: r).toArray.zipIdx k) = #[(v,k)] ++ (r.toArray.zipIdx (k + 1)):=by
   apply Array.ext'
   simp [List.zipIdx_cons]
  rw [e,Array.foldl_append]
  simp only [b0x]
  have:=ih (cs.setIfInBounds (off + k) v) off (k + 1)
  rw [l1R]
  simpa using this
theorem q0A (c:Nat->Option (Nat × Nat)):∀ (q:List (Nat × Nat × Value)) (x:List (Nat × Value)) (cs k:List Value) (r:List Value),
  q.length=x.length->(∀ i,i < q.length->c (x.getD i default).1=some ((q.getD i default).1,(q.getD i default).2.1)/\VR X φ S (q.getD i default).2.2 (x.getD i default).2) ->
  CR X φ S cs k->g0X cs q=some r->∃ z,Instr.fill c k.toArray x=some z.toArray/\CR X φ S r z
 | [],[],cs,k,r,_,_,hc,h=>by simp [g0X] at h;subst h;exact ⟨k,by simp [Instr.fill],hc⟩
 | [],_ :: _,_,_,_,hl,_,_,_=>by simp at hl
 | _ :: _,[],_,_,_,hl,_,_,_=>by simp at hl
 | (off,n,v) :: q,(i,u) :: x,cs,k,r,hl,hp,hc,h=>by
  have J:=hp 0 (by simp)
  simp only [List.getD_cons_zero] at J
  obtain ⟨H,I⟩:=J
  simp only [g0X] at h
  split at h
  ·rename_i s
   have e:=I.cells
   have y:=e.1
   have hsz:u.cells.size=n:=by rw [<- s.1,y];simp
   have F:=hc.write e off
   have G:=hc.1
   obtain ⟨z,L,M⟩:=q0A c q x _ _ r (by simpa using hl) (fun j N=>by have:=hp (j + 1) (by simpa using N);simpa using this) F h
   refine ⟨z,?_,M⟩
   unfold Instr.fill
   simp only [H,hsz,ne_eq,not_true_eq_false,Bool.or_eq_true,l1k,false_or]
   rw [k1y (by simp;omega)]
   rw [<- L]
   congr 1
   apply Array.ext'
   have:=w0F u.cells.toList k.toArray off 0
   simp only [l1B,l1A] at this
   rw [this]
  ·cases h
theorem e0w (z:List Value):∀ n,(e0M z n).length=n * z.length
 | 0=>by simp [e0M]
 | n + 1=>by simp [e0M,e0w z n,k1R,Nat.add_comm]
theorem y0H (z:List Value) (c:0 < z.length):∀ (n i:Nat),i < n * z.length->(e0M z n)[i]? = z[i % z.length]?
 | 0,i,h=>by simp at h
 | n + 1,i,h=>by
  simp only [e0M]
  by_cases hi:i < z.length
  ·rw [l1i hi,k1Y hi]
  ·rw [l1n (by omega),y0H z c n (i - z.length) (by rw [Nat.succ_mul] at h;omega)]
   congr 1
   exact (Nat.mod_eq_sub_mod (by omega)).symm
theorem k0d {z:List Value} (h:z.all flat=true):∀ n,(e0M z n).all flat=true
 | 0=>rfl
 | n + 1=>by simp only [e0M,m1Z,k1L];exact ⟨h,k0d h n⟩
theorem k0A (z:Array Value) (n:Nat) (e:0 < z.size):((Array.range (n * z.size)).map (z[· % z.size]!)).toList=e0M z.toList n:=by
 apply m1J
 intro i
 by_cases hi:i < n * z.size
 ·rw [y0H z.toList (by simpa using e) n i (by simpa using hi)]
  have c:=l1T i e
  simp only [Array.toList_map,Array.toList_range,l1N,m1l hi,l1S,n1t,m1e]
  rw [l1h c]
  simp [getElem!_def,l1h c]
 ·rw [k1G (by simp;omega),k1G (by rw [e0w];simp;omega)]
section
variable (hR:Rel X φ H w) (hT:CR X φ w.shape? t a.tmps.toList)
include hR hT
theorem b0l.made (h:fl<=H.size) (e:TypeId) (cs:List Value) (c:Array Value) (j:cs.length<=c.size) (hc:CR X φ w.shape? cs (c.toList.take cs.length)) (v v':Value)
  (k:(execOp a.eval o).run X.P w=.ok (.value v') (w.alloc (.cells c e)))
  (hv:VR X (fun b=>if b=H.size then some (w.heap.size,0) else φ b) (w.alloc (.cells c e)).shape? v v'):b0l X fl φ H w o a v (H.push (.row false e cs)) :=
 have _:=hT
 ⟨_,_,v',.inl k,hv,d0v.alloc hR e cs c j hc h⟩
omit hT in
theorem C0l (c:Array Value) (e:TypeId):VR X (fun b=>if b=H.size then some (w.heap.size,0) else φ b) (w.alloc (.cells c e)).shape? (.pointer (some ⟨H.size,0,none⟩)) (.pointer (some ⟨w.heap.size,0,none⟩)) :=
 have _:=hR
 .ptr _ _ w.heap.size 0 rfl (by simp) (by simp)
omit hT in
theorem j0L (c:Array Value) (e:TypeId) (n cap h size:Nat) (hs:X.P.cellsOf e=size) (j:cap ≠ unk->h = cap) (k:n<=h) (hsz:h * size<=c.size) :
  VR X (fun b=>if b=H.size then some (w.heap.size,0) else φ b) (w.alloc (.cells c e)).shape? (.slice (some ⟨H.size,0,none⟩) n cap) (.slice (some ⟨w.heap.size,0,none⟩) n h):=by
 have _:=hR
 refine .sl _ _ _ _ _ w.heap.size 0 rfl (by simp) rfl rfl (fun _=>rfl) j k (fun _=>⟨e,c.size,?_,by rw [hs];simpa using hsz⟩)
 simp only [World.shape?,heap_alloc_new]
theorem K0o (j:fl<=H.size) {e:TypeId} {z:List Value} (ho:o.op=.alloc e) (q:l0c X.P e=some z):b0l X fl φ H w o a (.pointer (some ⟨H.size,0,none⟩)) (H.push (.row false e z)):=by
 obtain ⟨k,v,i,_,_,_,h,c⟩:=i0j q
 have s:z.length=v.cells.size:=by rw [<- h];simp
 refine b0l.made hR hT j e z v.cells (by omega) (by rw [h,k1M];exact f0S k) _ (.pointer (some ⟨w.heap.size,0,none⟩)) ?_ (C0l hR _ _)
 simp [execOp,ho,Instr.alloc,c,newVar,newRow]
theorem Y0x (c:fl<=H.size) {e:TypeId} {x:Operand} {h:Opd} (ho:o.op=.box e x) (q:c0B x=some h) (k:a0U h = true) :
  b0l X fl φ H w o a (.pointer (some ⟨H.size,0,none⟩)) (H.push (.row false e (a0W (ev t h)))):=by
 have hv:=(b0J hT q k).cells
 have j:=hv.1
 refine b0l.made hR hT c e _ (a.eval x).cells (by rw [j];simp) (by rw [j,k1M];exact hv) _ (.pointer (some ⟨w.heap.size,0,none⟩)) ?_ (C0l hR _ _)
 simp [execOp,ho,Instr.box,newVar,newRow]
omit hR in
theorem t0k {j:List Field}:∀ {e:List (Nat × Operand)} {c:List (Nat × Nat × Opd)},m0l X.P j e=some c->(c.map (·.2.2)).all a0U=true ->
  (b0D t c).length=e.length/\∀ i,i < e.length->(∃ f n,j[(e.getD i default).1]? = some f/\d0k X.P f.type=some n/\((b0D t c).getD i default).1=f.offset/\((b0D t c).getD i default).2.1=n) /\
   VR X φ w.shape? ((b0D t c).getD i default).2.2 (a.eval (e.getD i default).2)
 | [],c,h,_=>by simp [m0l] at h;subst h;simp [b0D]
 | p :: e,c,h,hf=>by
  simp only [m0l] at h
  cases h1:j[p.1]? with
  | none=>simp [h1] at h
  | some f =>
   cases h2:d0k X.P f.type with
   | none=>simp [h1,h2] at h
   | some n =>
    cases h3:c0B p.2 with
    | none=>simp [h1,h2,h3] at h
    | some x =>
     cases h40:m0l X.P j e with
     | none=>simp [h1,h2,h3,h40] at h
     | some qs' =>
      simp [h1,h2,h3,h40] at h;subst h
      simp only [List.map_cons,l1E,k1L] at hf
      obtain ⟨k,q⟩:=t0k h40 hf.2
      refine ⟨by simpa [b0D] using k,fun i hi=>?_⟩
      cases i with
      | zero=>exact ⟨⟨f,n,by simpa using h1,h2,rfl,rfl⟩,by simpa [b0D] using b0J hT h3 hf.1⟩
      | succ i=>have:=q i (by simpa using hi);simpa [b0D] using this
theorem K0p {J:TypeId} {x:List Field} {z:List Value} {e:Array (Nat × Operand)} {s:List (Nat × Nat × Opd)} (ho:o.op=.build J e) (F:g0l X.P J=some x)
  (k:(x.all fun f=>(d0k X.P f.type).isSome)=true) (hz:l0c X.P J=some z) (hq:m0l X.P x e.toList=some s) (Z:(s.map (·.2.2)).all a0U=true)
  {v:Value} (h:opA fl t H (.build z s)=.val v H'):b0l X fl φ H w o a v H':=by
 obtain ⟨l,hu,rfl⟩:=i0a F
 obtain ⟨y,zv,i,_,_,_,I,q⟩:=i0j hz
 simp only [opA] at h
 cases hfill:g0X z (b0D t s) with
 | none=>simp [hfill,b0H] at h
 | some r =>
  simp only [hfill,l1S,b0H,OpRes.val.injEq] at h
  obtain ⟨rfl,rfl⟩:=h
  obtain ⟨L,g2⟩:=t0k (w:=w) hT hq Z
  let sz:Field->Nat:=fun f=>(d0k X.P f.type).getD 0
  have c:(l.mapM fun f=>do pure (f.offset,<- sizeOf f.type):Sem (Array (Nat × Nat))).run X.P w=.ok (l.map fun f=>(f.offset,sz f)) w:=by
   rw [n1m]
   have:=x0p (P:=X.P) (fun f:Field=>(do pure (f.offset,<- sizeOf f.type):Sem (Nat × Nat))) (fun f=>(f.offset,sz f)) w l.toList (fun f y=>by
    have j:=l1a.1 k f y
    obtain ⟨n,M⟩:=Option.isSome_iff_exists.1 j
    simp [d0K M,sz,M])
   simp only [Sem.run_map,this,Result.andThen_ok]
   congr 1
   apply Array.ext'
   simp
  obtain ⟨r',j,h2⟩:=q0A (X:=X) (φ:=φ) (S:=w.shape?) (fun i=>(l.map fun f=>(f.offset,sz f))[i]?) (b0D t s) (e.toList.map fun p=>(p.1,a.eval p.2)) z zv.cells.toList r
   (by simpa using L) (fun i hi=>by
    rw [L] at hi
    obtain ⟨⟨f,n,N,e2,O,R⟩,U⟩:=g2 i hi
    have G:(e.toList.map fun p=>(p.1,a.eval p.2)).getD i default=((e.toList.getD i default).1,a.eval (e.toList.getD i default).2):=by
     simp only [k1v,l1N,k1A hi,l1S,l1d]
    rw [G]
    refine ⟨?_,U⟩
    have u:l[(e.toList.getD i default).1]? = some f:=by simpa using N
    simp only [Array.getElem?_map,u,l1S,O,R,sz,e2,l1d])
   (by rw [I];exact f0S y) hfill
  refine b0l.same hR (v':=.agg r'.toArray) ?_ (VR.agg_iff.2 (by simpa using h2))
  simp only [l1B] at j
  simp only [Array.getElem?_map] at j
  simp only [execOp,ho,Instr.build,Sem.run_bind,q,Result.andThen_ok,run_underlying hu,c]
  simp [j]
omit hR in
theorem p0f {size:Nat}:∀ {e:List (Nat × Operand)} {c:List (Nat × Nat × Opd)},i0X size e=some c->(c.map (·.2.2)).all a0U=true ->
  (b0D t c).length=e.length/\∀ i,i < e.length->((b0D t c).getD i default).1=(e.getD i default).1 * size/\((b0D t c).getD i default).2.1=size /\
   VR X φ w.shape? ((b0D t c).getD i default).2.2 (a.eval (e.getD i default).2)
 | [],c,h,_=>by simp [i0X] at h;subst h;simp [b0D]
 | p :: e,c,h,hf=>by
  simp only [i0X] at h
  cases h3:c0B p.2 with
  | none=>simp [h3] at h
  | some x =>
   cases h40:i0X size e with
   | none=>simp [h3,h40] at h
   | some qs' =>
    simp [h3,h40] at h;subst h
    simp only [List.map_cons,l1E,k1L] at hf
    obtain ⟨j,k⟩:=p0f h40 hf.2
    refine ⟨by simpa [b0D] using j,fun i hi=>?_⟩
    cases i with
    | zero=>exact ⟨rfl,rfl,by simpa [b0D] using b0J hT h3 hf.1⟩
    | succ i=>have:=k i (by simpa using hi);simpa [b0D] using this
theorem Y0E (J:fl<=H.size) {ty e:TypeId} {z:List Value} {n size:Nat} {j:Array (Nat × Operand)} {F:List (Nat × Nat × Opd)} (ho:o.op=.buildSlice ty n j) (he:h0o X.P ty=some e)
  (hs:d0k X.P e=some size) (hz:l0c X.P e=some z) (hsz:size=z.length) (Z:0 < size) (R:n * size<=16777216) (hq:i0X size j.toList=some F) (fq:(F.map (·.2.2)).all a0U=true)
  {v:Value} (h:opA fl t H (.lit e z n F)=.val v H'):b0l X fl φ H w o a v H':=by
 have hu:=f0v he
 obtain ⟨hf,G,i,_,_,_,x,u⟩:=i0j hz
 have y:G.cells.size=size:=by rw [hsz,<- x];simp
 simp only [opA] at h
 cases hfill:g0X (e0M z n) (b0D t F) with
 | none=>simp [hfill] at h
 | some r =>
  simp only [hfill,OpRes.val.injEq] at h
  obtain ⟨rfl,rfl⟩:=h
  obtain ⟨M,g2⟩:=p0f (w:=w) hT hq fq
  obtain ⟨r',I,O⟩:=q0A (X:=X) (φ:=φ) (S:=w.shape?) (fun i=>some (i * size,size)) (b0D t F) (j.toList.map fun p=>(p.1,a.eval p.2)) (e0M z n) (e0M z n) r
   (by simpa using M) (fun i hi=>by
    rw [M] at hi
    obtain ⟨e1,e2,e5⟩:=g2 i hi
    have L:(j.toList.map fun p=>(p.1,a.eval p.2)).getD i default=((j.toList.getD i default).1,a.eval (j.toList.getD i default).2):=by
     simp only [k1v,l1N,k1A hi,l1S,l1d]
    rw [L,e1,e2]
    exact ⟨rfl,e5⟩)
   (f0S (k0d hf n)) hfill
  have c:∀ (j:List (Nat × Nat × Value)) (cs r:List Value),g0X cs j=some r->r.length=cs.length:=by
   intro j
   induction j with
   | nil=>intro cs r h;simp [g0X] at h;rw [h]
   | cons p j ih =>
    intro cs r h
    obtain ⟨q1,q2,q3⟩:=p
    simp only [g0X] at h
    split at h
    ·rw [ih _ _ h,c0K]
    ·cases h
  have U:r.length=n * size:=by rw [c _ _ _ hfill,e0w,hsz]
  have q:=O.1
  have s:((Array.range (n * size)).map (G.cells[· % G.cells.size]!))=(e0M z n).toArray:=by
   apply Array.ext'
   have:=k0A G.cells n (by omega)
   rw [y,x] at this
   rw [y];simpa using this
  refine b0l.made hR hT J e r r'.toArray (by simp;omega) (by simpa [q] using O) _ (.slice (some ⟨w.heap.size,0,none⟩) n n) ?_
   (j0L hR _ e n n n size (e0J hs) (fun _=>rfl) (k1x _) (by simp;omega))
  have k:¬ (n * size > 2 ^ 24):=by omega
  simp only [execOp,ho,Instr.buildSlice,Sem.run_bind,run_underlying hu,Result.andThen_ok,d0K hs]
  simp only [k,l1y,Sem.run_pure]
  by_cases N:n * size=0
  ·have hn:n=0:=by
    rcases Nat.mul_eq_zero.1 N with h | h
    ·exact h
    ·omega
   subst hn
   have e0:(Array.range 0) = #[]:=rfl
   simp [e0M] at I
   simp [I,newRow,e0]
  ·rw [k1y N]
   simp only [Sem.run_bind,u,Result.andThen_ok,Sem.run_pure,s]
   simp [I,newRow]
end
end
end Go.Proofs.YtilekhkgobmolaaGreat.AI
