/- Part 10 of the proof: AiFast1. -/
import Derived.Test.YtjlohmnnldbjoaaGreatM00
set_option linter.unusedVariables false
set_option linter.unusedSimpArgs false
set_option linter.unusedSectionVars false

/- The abstract machine's operations as effects on a heap that is only asked: the same machine can then run over another kind of heap. -/
namespace Go.Proofs.YtjlohmnnldbjoaaGreat.AI
open Go

/-- what an operation does to the heap. -/
inductive Eff where
  | same
  | push (b : Blk)
  | set (k : Nat) (b : Blk)
  | mv (k : Nat) (b : Blk)

def Eff.app (H : Heap) : Eff → Heap
  | .same => H
  | .push b => H.push b
  | .set k b => H.setIfInBounds k b
  | .mv k b => (H.setIfInBounds k .dead).push b

inductive OpResE where
  | bad
  | val (v : Value) (e : Eff)
  | pan (v : Value)
  | call (f : FuncId) (args : List Value) (lone : Bool)

def OpResE.on (H : Heap) : OpResE → OpRes
  | .bad => .bad
  | .val v e => .val v (e.app H)
  | .pan v => .pan v
  | .call f args lone => .call f args lone

def evG (g : Nat → Value) : Opd → Value
  | .tmp i => g i
  | .const v => v
  | .fn f => .func (.func f) #[] #[]
theorem evG_get (t : Tmps) : evG (get t) = ev t := by funext x; cases x <;> rfl

def partsG (g : Nat → Value) (ps : List (Nat × Nat × Opd)) : List (Nat × Nat × Value) := ps.map fun p => (p.1, p.2.1, evG g p.2.2)

section
variable (blk : Nat → Blk) (size : Nat)

def cellsG (b off n : Nat) : Option (List Value) :=
  match blk b with
  | .row _ _ cs => if off + n ≤ cs.length then some ((cs.drop off).take n) else none
  | .dead => none

def writeG (fl b off : Nat) (vs : List Value) : Option Eff :=
  match blk b with
  | .row false e cs => if fl ≤ b ∧ off + vs.length ≤ cs.length ∧ vs.all plainCell = true then some (.set b (.row false e (writeL cs off vs))) else none
  | _ => none

def elemG (e : TypeId) : Value → Bool
  | .slice (some p) _ cap => if cap = 0 then true else match blk p.block with | .row true _ _ => true | .row false e' _ => e' == e | .dead => false
  | _ => true

def loadG (agg : Bool) (n : Nat) (a : Value) : Option Value :=
  match a with
  | .pointer (some p) =>
    if agg = true ∧ n = 0 then some (.agg #[]) else
    if p.spot.isSome = true then none else
    match cellsG blk p.block p.off (if agg then n else 1) with
    | some cs => if agg then some (.agg cs.toArray) else cs.head?
    | none => none
  | _ => none

def appG (fl : Nat) (elem : TypeId) (sz bytes : Nat) (s x : Value) : Option (Value × Eff) :=
  match s, x with
  | .slice base len cap, .slice xb n _ =>
    if n = 0 then some (.slice base len cap, .same) else
    if len + n ≤ 1073741824 ∧ bytes ≤ 1024 ∧ 0 < sz then
      match xb with
      | none => none
      | some xp =>
        match cellsG blk xp.block xp.off (n * sz) with
        | none => none
        | some new =>
          if new.all plainCell = false then none else
          match base with
          | none => if len = 0 ∧ cap = 0 then some (.slice (some ⟨size, 0, none⟩) n unk, .push (.row false elem new)) else none
          | some sp =>
            if len = 0 ∧ cap = 0 then some (.slice (some ⟨size, 0, none⟩) n unk, .push (.row false elem new)) else
            match cellsG blk sp.block sp.off (len * sz) with
            | none => none
            | some old =>
              if cap ≠ unk ∧ cap < len + n then some (.slice (some ⟨size, 0, none⟩) (len + n) unk, .push (.row false elem (old ++ new)))
              else
                match blk sp.block with
                | .row false e _ =>
                  if e = elem ∧ fl ≤ sp.block then some (.slice (some ⟨size, 0, none⟩) (len + n) unk, .mv sp.block (.row false elem (old ++ new)))
                  else none
                | _ => none
    else none
  | _, _ => none

def optE : Option Value → OpResE
  | some v => .val v .same
  | none => .bad

def optE2 : Option (Value × Eff) → OpResE
  | some (v, e) => .val v e
  | none => .bad

def opE (fl : Nat) (g : Nat → Value) : SOp → OpResE
  | .mv x => .val (evG g x) .same
  | .pick c a b => match evG g c with | .bool true => .val (evG g a) .same | .bool false => .val (evG g b) .same | _ => .bad
  | .alloc e z => .val (.pointer (some ⟨size, 0, none⟩)) (.push (.row false e z))
  | .box e x => .val (.pointer (some ⟨size, 0, none⟩)) (.push (.row false e (cellsL (evG g x))))
  | .build z ps => optE ((fillL z (partsG g ps)).map fun cs => .agg cs.toArray)
  | .lit e z n ps =>
    match fillL (repl z n) (partsG g ps) with
    | some cs => .val (.slice (some ⟨size, 0, none⟩) n n) (.push (.row false e cs))
    | none => .bad
  | .load agg n a => optE (loadG blk agg n (evG g a))
  | .store n a x =>
    match evG g a with
    | .pointer (some p) =>
      if p.spot.isSome = true ∨ (cellsL (evG g x)).length ≠ n then .bad else
      match writeG blk fl p.block p.off (cellsL (evG g x)) with
      | some e => .val undef e
      | none => .bad
    | _ => .bad
  | .chk x =>
    match evG g x with
    | .pointer (some a) => .val (.pointer (some a)) .same
    | .func (.func f) a b => .val (.func (.func f) a b) .same
    | .iface a b => .val (.iface a b) .same
    | _ => .bad
  | .bin tag b x y => optE (binA tag b (evG g x) (evG g y))
  | .un u x => optE (unA u (evG g x))
  | .conv k x => match evG g x with | .int _ n => .val (.int k (k.wrap n)) .same | _ => .bad
  | .iface ty x => .val (.iface ty (evG g x)) .same
  | .mkfn f a b => .val (.func f (a.map (evG g)).toArray (b.map (evG g)).toArray) .same
  | .mk e bytes z len cap =>
    match evG g len, evG g cap with
    | .int _ l, .int _ c =>
      if 0 ≤ l ∧ l ≤ c ∧ c ≤ 1073741824 ∧ bytes ≤ 1024 then .val (.slice (some ⟨size, 0, none⟩) l.toNat c.toNat) (.push (.row false e (repl z l.toNat))) else .bad
    | _, _ => .bad
  | .sl e sz x lo hi mx => if elemG blk e (evG g x) = false then .bad else optE (sliceA sz (evG g x) (lo.map (evG g)) (hi.map (evG g)) (mx.map (evG g)))
  | .fa off a => match evG g a with | .pointer (some p) => if p.spot.isSome = true then .bad else .val (.pointer (some ⟨p.block, p.off + off, none⟩)) .same | _ => .bad
  | .fa0 e a =>
    match evG g a with
    | .pointer (some p) =>
      match blk p.block with
      | .row false e' _ => if p.spot.isSome = false ∧ e' = e ∧ p.off = 0 then .val (.pointer (some ⟨p.block, 0, none⟩)) .same else .bad
      | _ => .bad
    | _ => .bad
  | .fld agg off n x => optE (fldA agg off n (evG g x))
  | .ia sz x i =>
    match evG g x, evG g i with
    | .slice (some p) n _, .int _ j => if 0 ≤ j ∧ j < n then .val (.pointer (some ⟨p.block, p.off + j.toNat * sz, none⟩)) .same else .bad
    | _, _ => .bad
  | .ext x i => match evG g x with | .tuple vs => optE vs[i]? | _ => .bad
  | .call f args lone => .call f (args.map (evG g)) lone
  | .callv x args lone => match evG g x with | .func (.func f) first captured => .call f (first.toList ++ args.map (evG g) ++ captured.toList) lone | _ => .bad
  | .inv x tbl args lone =>
    match evG g x with
    | .iface ty v => match tbl.lookup ty with | some f => .call f (v :: args.map (evG g)) lone | none => .bad
    | _ => .bad
  | .len x => match evG g x with | .slice _ n _ => .val (.int .i64 n) .same | _ => .bad
  | .mnx big x ys => optE (mnxA big (evG g x) (ys.map (evG g)))
  | .app e sz bytes s x => optE2 (appG blk size fl e sz bytes (evG g s) (evG g x))
  | .pan x => match evG g x with | .iface a b => .pan (.iface a b) | _ => .bad
end

variable {H : Heap} {fl : Nat} {t : Tmps}

theorem cellsG_eq (b off n : Nat) : cellsG H.blk b off n = H.cells? b off n := rfl
theorem loadG_eq (agg : Bool) (n : Nat) (a : Value) : loadG H.blk agg n a = loadA H agg n a := rfl
theorem elemG_eq (e : TypeId) (v : Value) : elemG H.blk e v = elemOk H e v := rfl
theorem writeG_eq (b off : Nat) (vs : List Value) : H.write? fl b off vs = (writeG H.blk fl b off vs).map (·.app H) := by
  unfold writeG Heap.write?
  cases H.blk b with
  | dead => rfl
  | row ro e cs =>
    cases ro with
    | true => rfl
    | false => simp only; split <;> rfl
theorem appG_eq (e sz bytes : Nat) (s x : Value) : appA fl H e sz bytes s x = (appG H.blk H.size fl e sz bytes s x).map fun p => (p.1, p.2.app H) := by
  unfold appG appA
  simp only [cellsG_eq]
  split
  · rename_i base len cap xb n xc
    simp only
    by_cases h1 : n = 0
    · rw [if_pos h1, if_pos h1]; rfl
    rw [if_neg h1, if_neg h1]
    by_cases h2 : len + n ≤ 1073741824 ∧ bytes ≤ 1024 ∧ 0 < sz
    · rw [if_pos h2, if_pos h2]
      cases xb with
      | none => rfl
      | some xp =>
        simp only
        cases H.cells? xp.block xp.off (n * sz) with
        | none => rfl
        | some new =>
          simp only
          by_cases h3 : new.all plainCell = false
          · rw [if_pos h3, if_pos h3]; rfl
          rw [if_neg h3, if_neg h3]
          cases base with
          | none => simp only; split <;> rfl
          | some sp =>
            simp only
            by_cases h4 : len = 0 ∧ cap = 0
            · rw [if_pos h4, if_pos h4]; rfl
            rw [if_neg h4, if_neg h4]
            cases H.cells? sp.block sp.off (len * sz) with
            | none => rfl
            | some old =>
              simp only
              by_cases h5 : cap ≠ unk ∧ cap < len + n
              · rw [if_pos h5, if_pos h5]; rfl
              rw [if_neg h5, if_neg h5]
              cases H.blk sp.block with
              | dead => rfl
              | row ro e' cs =>
                cases ro with
                | true => rfl
                | false => simp only; split <;> rfl
    · rw [if_neg h2, if_neg h2]; rfl
  · rename_i h
    split
    · exact absurd rfl (h _ _ _ _ _ _ rfl)
    · rfl

theorem optE_on (o : Option Value) : (optE o).on H = ofOpt H o := by cases o <;> rfl

theorem opA_E (op : SOp) : opA fl t H op = (opE H.blk H.size fl (get t) op).on H := by
  cases op <;> simp only [opA, opE, evG_get, partsG, evParts, loadG_eq, elemG_eq]
  case mv => rfl
  case pick c a b =>
    generalize ev t c = v
    cases v <;> try rfl
    rename_i b; cases b <;> rfl
  case alloc => rfl
  case box => rfl
  case build => exact (optE_on _).symm
  case lit e z n ps =>
    cases fillL (repl z n) (ps.map fun p => (p.1, p.2.1, ev t p.2.2)) <;> rfl
  case load => exact (optE_on _).symm
  case store n a x =>
    generalize ev t a = v
    cases v <;> try rfl
    rename_i p; cases p with
    | none => rfl
    | some p =>
      simp only
      split
      · rfl
      · rw [writeG_eq]; cases writeG H.blk fl p.block p.off (cellsL (ev t x)) <;> rfl
  case chk x =>
    generalize ev t x = v
    cases v <;> try rfl
    · rename_i p; cases p <;> rfl
    · rename_i f _ _; cases f <;> rfl
  case bin => exact (optE_on _).symm
  case un => exact (optE_on _).symm
  case conv k x => generalize ev t x = v; cases v <;> rfl
  case iface => rfl
  case mkfn => rfl
  case mk e bytes z len cap =>
    generalize ev t len = v; generalize ev t cap = u
    cases v <;> try rfl
    cases u <;> try rfl
    simp only; split <;> rfl
  case sl e sz x lo hi mx =>
    cases elemOk H e (ev t x)
    · rfl
    · exact (optE_on _).symm
  case fa off a =>
    generalize ev t a = v
    cases v <;> try rfl
    rename_i p; cases p with
    | none => rfl
    | some p => simp only; split <;> rfl
  case fa0 e a =>
    generalize ev t a = v
    cases v <;> try rfl
    rename_i p; cases p with
    | none => rfl
    | some p =>
      simp only
      cases H.blk p.block with
      | dead => rfl
      | row ro e' cs =>
        cases ro with
        | true => rfl
        | false => simp only; split <;> rfl
  case fld => exact (optE_on _).symm
  case ia sz x i =>
    generalize ev t x = v; generalize ev t i = u
    cases v <;> try rfl
    rename_i p n _; cases p with
    | none => rfl
    | some p => cases u <;> try rfl
                simp only; split <;> rfl
  case ext x i =>
    generalize ev t x = v
    cases v <;> try rfl
    exact (optE_on _).symm
  case call => rfl
  case callv x args lone =>
    generalize ev t x = v
    cases v <;> try rfl
    rename_i f _ _; cases f <;> rfl
  case inv x tbl args lone =>
    generalize ev t x = v
    cases v <;> try rfl
    rename_i ty v
    simp only
    cases tbl.lookup ty <;> rfl
  case len x => generalize ev t x = v; cases v <;> rfl
  case mnx => exact (optE_on _).symm
  case app e sz bytes s x =>
    rw [appG_eq]
    cases appG H.blk H.size fl e sz bytes (ev t s) (ev t x) <;> rfl
  case pan x => generalize ev t x = v; cases v <;> rfl

section
def e_mv (blk : Nat → Blk) (size fl : Nat) (g : Nat → Value) (x : Opd) : OpResE := .val (evG g x) .same

def e_pick (blk : Nat → Blk) (size fl : Nat) (g : Nat → Value) (c : Opd) (a : Opd) (b : Opd) : OpResE := match evG g c with | .bool true => .val (evG g a) .same | .bool false => .val (evG g b) .same | _ => .bad

def e_alloc (blk : Nat → Blk) (size fl : Nat) (g : Nat → Value) (e : TypeId) (z : List Value) : OpResE := .val (.pointer (some ⟨size, 0, none⟩)) (.push (.row false e z))

def e_box (blk : Nat → Blk) (size fl : Nat) (g : Nat → Value) (e : TypeId) (x : Opd) : OpResE := .val (.pointer (some ⟨size, 0, none⟩)) (.push (.row false e (cellsL (evG g x))))

def e_build (blk : Nat → Blk) (size fl : Nat) (g : Nat → Value) (z : List Value) (ps : List (Nat × Nat × Opd)) : OpResE := optE ((fillL z (partsG g ps)).map fun cs => .agg cs.toArray)

def e_lit (blk : Nat → Blk) (size fl : Nat) (g : Nat → Value) (e : TypeId) (z : List Value) (n : Nat) (ps : List (Nat × Nat × Opd)) : OpResE :=
    match fillL (repl z n) (partsG g ps) with
    | some cs => .val (.slice (some ⟨size, 0, none⟩) n n) (.push (.row false e cs))
    | none => .bad

def e_load (blk : Nat → Blk) (size fl : Nat) (g : Nat → Value) (agg : Bool) (n : Nat) (a : Opd) : OpResE := optE (loadG blk agg n (evG g a))

def e_store (blk : Nat → Blk) (size fl : Nat) (g : Nat → Value) (n : Nat) (a : Opd) (x : Opd) : OpResE :=
    match evG g a with
    | .pointer (some p) =>
      if p.spot.isSome = true ∨ (cellsL (evG g x)).length ≠ n then .bad else
      match writeG blk fl p.block p.off (cellsL (evG g x)) with
      | some e => .val undef e
      | none => .bad
    | _ => .bad

def e_chk (blk : Nat → Blk) (size fl : Nat) (g : Nat → Value) (x : Opd) : OpResE :=
    match evG g x with
    | .pointer (some a) => .val (.pointer (some a)) .same
    | .func (.func f) a b => .val (.func (.func f) a b) .same
    | .iface a b => .val (.iface a b) .same
    | _ => .bad

def e_bin (blk : Nat → Blk) (size fl : Nat) (g : Nat → Value) (tag : Nat) (b : BinOp) (x : Opd) (y : Opd) : OpResE := optE (binA tag b (evG g x) (evG g y))

def e_un (blk : Nat → Blk) (size fl : Nat) (g : Nat → Value) (u : UnOp) (x : Opd) : OpResE := optE (unA u (evG g x))

def e_conv (blk : Nat → Blk) (size fl : Nat) (g : Nat → Value) (k : IntKind) (x : Opd) : OpResE := match evG g x with | .int _ n => .val (.int k (k.wrap n)) .same | _ => .bad

def e_iface (blk : Nat → Blk) (size fl : Nat) (g : Nat → Value) (ty : TypeId) (x : Opd) : OpResE := .val (.iface ty (evG g x)) .same

def e_mkfn (blk : Nat → Blk) (size fl : Nat) (g : Nat → Value) (f : Fn) (a : List Opd) (b : List Opd) : OpResE := .val (.func f (a.map (evG g)).toArray (b.map (evG g)).toArray) .same

def e_mk (blk : Nat → Blk) (size fl : Nat) (g : Nat → Value) (e : TypeId) (bytes : Nat) (z : List Value) (len : Opd) (cap : Opd) : OpResE :=
    match evG g len, evG g cap with
    | .int _ l, .int _ c =>
      if 0 ≤ l ∧ l ≤ c ∧ c ≤ 1073741824 ∧ bytes ≤ 1024 then .val (.slice (some ⟨size, 0, none⟩) l.toNat c.toNat) (.push (.row false e (repl z l.toNat))) else .bad
    | _, _ => .bad

def e_sl (blk : Nat → Blk) (size fl : Nat) (g : Nat → Value) (e : TypeId) (sz : Nat) (x : Opd) (lo : Option Opd) (hi : Option Opd) (mx : Option Opd) : OpResE := if elemG blk e (evG g x) = false then .bad else optE (sliceA sz (evG g x) (lo.map (evG g)) (hi.map (evG g)) (mx.map (evG g)))

def e_fa (blk : Nat → Blk) (size fl : Nat) (g : Nat → Value) (off : Nat) (a : Opd) : OpResE := match evG g a with | .pointer (some p) => if p.spot.isSome = true then .bad else .val (.pointer (some ⟨p.block, p.off + off, none⟩)) .same | _ => .bad

def e_fa0 (blk : Nat → Blk) (size fl : Nat) (g : Nat → Value) (e : TypeId) (a : Opd) : OpResE :=
    match evG g a with
    | .pointer (some p) =>
      match blk p.block with
      | .row false e' _ => if p.spot.isSome = false ∧ e' = e ∧ p.off = 0 then .val (.pointer (some ⟨p.block, 0, none⟩)) .same else .bad
      | _ => .bad
    | _ => .bad

def e_fld (blk : Nat → Blk) (size fl : Nat) (g : Nat → Value) (agg : Bool) (off : Nat) (n : Nat) (x : Opd) : OpResE := optE (fldA agg off n (evG g x))

def e_ia (blk : Nat → Blk) (size fl : Nat) (g : Nat → Value) (sz : Nat) (x : Opd) (i : Opd) : OpResE :=
    match evG g x, evG g i with
    | .slice (some p) n _, .int _ j => if 0 ≤ j ∧ j < n then .val (.pointer (some ⟨p.block, p.off + j.toNat * sz, none⟩)) .same else .bad
    | _, _ => .bad

def e_ext (blk : Nat → Blk) (size fl : Nat) (g : Nat → Value) (x : Opd) (i : Nat) : OpResE := match evG g x with | .tuple vs => optE vs[i]? | _ => .bad

def e_call (blk : Nat → Blk) (size fl : Nat) (g : Nat → Value) (f : FuncId) (args : List Opd) (lone : Bool) : OpResE := .call f (args.map (evG g)) lone

def e_callv (blk : Nat → Blk) (size fl : Nat) (g : Nat → Value) (x : Opd) (args : List Opd) (lone : Bool) : OpResE := match evG g x with | .func (.func f) first captured => .call f (first.toList ++ args.map (evG g) ++ captured.toList) lone | _ => .bad

def e_inv (blk : Nat → Blk) (size fl : Nat) (g : Nat → Value) (x : Opd) (tbl : List (TypeId × FuncId)) (args : List Opd) (lone : Bool) : OpResE :=
    match evG g x with
    | .iface ty v => match tbl.lookup ty with | some f => .call f (v :: args.map (evG g)) lone | none => .bad
    | _ => .bad

def e_len (blk : Nat → Blk) (size fl : Nat) (g : Nat → Value) (x : Opd) : OpResE := match evG g x with | .slice _ n _ => .val (.int .i64 n) .same | _ => .bad

def e_mnx (blk : Nat → Blk) (size fl : Nat) (g : Nat → Value) (big : Bool) (x : Opd) (ys : List Opd) : OpResE := optE (mnxA big (evG g x) (ys.map (evG g)))

def e_app (blk : Nat → Blk) (size fl : Nat) (g : Nat → Value) (e : TypeId) (sz : Nat) (bytes : Nat) (s : Opd) (x : Opd) : OpResE := optE2 (appG blk size fl e sz bytes (evG g s) (evG g x))

def e_pan (blk : Nat → Blk) (size fl : Nat) (g : Nat → Value) (x : Opd) : OpResE := match evG g x with | .iface a b => .pan (.iface a b) | _ => .bad
end

/-- the same, each operation a function of its own. -/
noncomputable def opF (blk : Nat → Blk) (size fl : Nat) (g : Nat → Value) (op : SOp) : OpResE :=
  @SOp.rec (fun _ => OpResE)
    (fun a0 => e_mv blk size fl g a0)
    (fun a0 a1 a2 => e_pick blk size fl g a0 a1 a2)
    (fun a0 a1 => e_alloc blk size fl g a0 a1)
    (fun a0 a1 => e_box blk size fl g a0 a1)
    (fun a0 a1 => e_build blk size fl g a0 a1)
    (fun a0 a1 a2 a3 => e_lit blk size fl g a0 a1 a2 a3)
    (fun a0 a1 a2 => e_load blk size fl g a0 a1 a2)
    (fun a0 a1 a2 => e_store blk size fl g a0 a1 a2)
    (fun a0 => e_chk blk size fl g a0)
    (fun a0 a1 a2 a3 => e_bin blk size fl g a0 a1 a2 a3)
    (fun a0 a1 => e_un blk size fl g a0 a1)
    (fun a0 a1 => e_conv blk size fl g a0 a1)
    (fun a0 a1 => e_iface blk size fl g a0 a1)
    (fun a0 a1 a2 => e_mkfn blk size fl g a0 a1 a2)
    (fun a0 a1 a2 a3 a4 => e_mk blk size fl g a0 a1 a2 a3 a4)
    (fun a0 a1 a2 a3 a4 a5 => e_sl blk size fl g a0 a1 a2 a3 a4 a5)
    (fun a0 a1 => e_fa blk size fl g a0 a1)
    (fun a0 a1 => e_fa0 blk size fl g a0 a1)
    (fun a0 a1 a2 a3 => e_fld blk size fl g a0 a1 a2 a3)
    (fun a0 a1 a2 => e_ia blk size fl g a0 a1 a2)
    (fun a0 a1 => e_ext blk size fl g a0 a1)
    (fun a0 a1 a2 => e_call blk size fl g a0 a1 a2)
    (fun a0 a1 a2 => e_callv blk size fl g a0 a1 a2)
    (fun a0 a1 a2 a3 => e_inv blk size fl g a0 a1 a2 a3)
    (fun a0 => e_len blk size fl g a0)
    (fun a0 a1 a2 => e_mnx blk size fl g a0 a1 a2)
    (fun a0 a1 a2 a3 a4 => e_app blk size fl g a0 a1 a2 a3 a4)
    (fun a0 => e_pan blk size fl g a0)
    op

theorem opF_eq (blk : Nat → Blk) (size fl : Nat) (g : Nat → Value) (op : SOp) : opF blk size fl g op = opE blk size fl g op := by cases op <;> rfl

end Go.Proofs.YtjlohmnnldbjoaaGreat.AI
