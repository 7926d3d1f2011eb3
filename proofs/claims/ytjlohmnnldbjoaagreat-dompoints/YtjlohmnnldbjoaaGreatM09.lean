/- Part 10 of the proof: AiFast2, AiFast4. -/
import Derived.Test.YtjlohmnnldbjoaaGreatM08
set_option linter.unusedVariables false
set_option linter.unusedSimpArgs false
set_option linter.unusedSectionVars false

/- The abstract machine over tries, for runs by the kernel; what it answers the abstract machine answers. -/
namespace Go.Proofs.YtjlohmnnldbjoaaGreat.AI
open Go

inductive Tr (α : Type) where
  | emp
  | leaf (a : α)
  | node (l r : Tr α)

namespace Tr
variable {α : Type}

noncomputable def get (z : α) (t : Tr α) : Nat → α :=
  @Tr.rec α (fun _ => Nat → α) (fun _ => z) (fun a k => @Bool.rec (fun _ => α) z a (Nat.beq k (nat_lit 0)))
    (fun _ _ gl gr k => @Bool.rec (fun _ => α) (gr (Nat.div k (nat_lit 2))) (gl (Nat.div k (nat_lit 2))) (Nat.beq (Nat.mod k (nat_lit 2)) (nat_lit 0))) t

noncomputable def set (d : Nat) : Tr α → Nat → α → Tr α :=
  @Nat.rec (fun _ => Tr α → Nat → α → Tr α) (fun _ _ a => .leaf a)
    (fun _ ih t k a => @Tr.rec α (fun _ => Tr α)
      (@Bool.rec (fun _ => Tr α) (.node .emp (ih .emp (Nat.div k (nat_lit 2)) a)) (.node (ih .emp (Nat.div k (nat_lit 2)) a) .emp) (Nat.beq (Nat.mod k (nat_lit 2)) (nat_lit 0)))
      (fun _ => @Bool.rec (fun _ => Tr α) (.node .emp (ih .emp (Nat.div k (nat_lit 2)) a)) (.node (ih .emp (Nat.div k (nat_lit 2)) a) .emp) (Nat.beq (Nat.mod k (nat_lit 2)) (nat_lit 0)))
      (fun l r _ _ => @Bool.rec (fun _ => Tr α) (.node l (ih r (Nat.div k (nat_lit 2)) a)) (.node (ih l (Nat.div k (nat_lit 2)) a) r) (Nat.beq (Nat.mod k (nat_lit 2)) (nat_lit 0))) t) d

theorem beq_mod (k : Nat) : Nat.beq (Nat.mod k (nat_lit 2)) (nat_lit 0) = decide (k % 2 = 0) := by
  show Nat.beq (k % 2) 0 = _
  rcases Nat.mod_two_eq_zero_or_one k with h | h <;> rw [h] <;> rfl

theorem get_emp (z : α) (j : Nat) : get z .emp j = z := rfl
theorem get_leaf (z a : α) (j : Nat) : get z (.leaf a) j = if j = 0 then a else z := by cases j <;> rfl
theorem get_node (z : α) (l r : Tr α) (k : Nat) : get z (.node l r) k = if k % 2 = 0 then get z l (k / 2) else get z r (k / 2) := by
  show @Bool.rec (fun _ => α) (get z r (k / 2)) (get z l (k / 2)) (Nat.beq (Nat.mod k (nat_lit 2)) (nat_lit 0)) = _
  rw [beq_mod]
  by_cases h : k % 2 = 0
  · rw [if_pos h, decide_eq_true h]
  · rw [if_neg h, decide_eq_false h]
theorem set_zero (t : Tr α) (k : Nat) (a : α) : set 0 t k a = .leaf a := rfl
theorem set_emp (d k : Nat) (a : α) : set (d + 1) .emp k a = if k % 2 = 0 then .node (set d .emp (k / 2) a) .emp else .node .emp (set d .emp (k / 2) a) := by
  show @Bool.rec (fun _ => Tr α) (.node .emp (set d .emp (k / 2) a)) (.node (set d .emp (k / 2) a) .emp) (Nat.beq (Nat.mod k (nat_lit 2)) (nat_lit 0)) = _
  rw [beq_mod]
  by_cases h : k % 2 = 0
  · rw [if_pos h, decide_eq_true h]
  · rw [if_neg h, decide_eq_false h]
theorem set_node (d k : Nat) (l r : Tr α) (a : α) : set (d + 1) (.node l r) k a = if k % 2 = 0 then .node (set d l (k / 2) a) r else .node l (set d r (k / 2) a) := by
  show @Bool.rec (fun _ => Tr α) (.node l (set d r (k / 2) a)) (.node (set d l (k / 2) a) r) (Nat.beq (Nat.mod k (nat_lit 2)) (nat_lit 0)) = _
  rw [beq_mod]
  by_cases h : k % 2 = 0
  · rw [if_pos h, decide_eq_true h]
  · rw [if_neg h, decide_eq_false h]

def Wf : Nat → Tr α → Prop
  | _, .emp => True
  | 0, .leaf _ => True
  | d + 1, .node l r => Wf d l ∧ Wf d r
  | 0, .node _ _ => False
  | _ + 1, .leaf _ => False

theorem wf_emp (d : Nat) : Wf d (.emp : Tr α) := by cases d <;> exact trivial

theorem wf_set : ∀ (d : Nat) (t : Tr α) (k : Nat) (a : α), Wf d t → Wf d (t.set d k a)
  | 0, t, k, a, _ => by rw [set_zero]; exact trivial
  | d + 1, .node l r, k, a, h => by
    rw [set_node]
    split
    · exact ⟨wf_set d l _ a h.1, h.2⟩
    · exact ⟨h.1, wf_set d r _ a h.2⟩
  | d + 1, .emp, k, a, _ => by
    rw [set_emp]
    split
    · exact ⟨wf_set d _ _ a (wf_emp d), wf_emp d⟩
    · exact ⟨wf_emp d, wf_set d _ _ a (wf_emp d)⟩
  | d + 1, .leaf _, k, a, h => by simp [Wf] at h

theorem get_set (z : α) : ∀ (d : Nat) (t : Tr α) (k j : Nat) (a : α), Wf d t → k < 2 ^ d → get z (t.set d k a) j = if j = k then a else t.get z j
  | 0, t, k, j, a, h, hk => by
    have : k = 0 := by simp at hk; exact hk
    subst this
    rw [set_zero, get_leaf]
    split
    · rfl
    · rename_i hj
      cases t with
      | emp => rfl
      | leaf b => rw [get_leaf, if_neg hj]
      | node l r => exact absurd h (by simp [Wf])
  | d + 1, t, k, j, a, h, hk => by
    have hk2 : k / 2 < 2 ^ d := by rw [Nat.pow_succ] at hk; omega
    have key : ∀ l r : Tr α, Wf d l → Wf d r → get z (if k % 2 = 0 then .node (set d l (k / 2) a) r else .node l (set d r (k / 2) a)) j = if j = k then a else get z (.node l r) j := by
      intro l r hl hr
      rw [get_node]
      by_cases h1 : k % 2 = 0
      · rw [if_pos h1, get_node]
        by_cases h2 : j % 2 = 0
        · rw [if_pos h2, if_pos h2, get_set z d l (k / 2) (j / 2) a hl hk2]
          by_cases h3 : j = k
          · rw [if_pos h3, if_pos (by rw [h3])]
          · rw [if_neg h3, if_neg (by omega)]
        · rw [if_neg h2, if_neg h2, if_neg (by omega)]
      · rw [if_neg h1, get_node]
        by_cases h2 : j % 2 = 0
        · rw [if_pos h2, if_pos h2, if_neg (by omega)]
        · rw [if_neg h2, if_neg h2, get_set z d r (k / 2) (j / 2) a hr hk2]
          by_cases h3 : j = k
          · rw [if_pos h3, if_pos (by rw [h3])]
          · rw [if_neg h3, if_neg (by omega)]
    cases t with
    | emp => rw [set_emp, key _ _ (wf_emp d) (wf_emp d), get_node, get_emp]; simp [get_emp]
    | leaf b => exact absurd h (by simp [Wf])
    | node l r => rw [set_node]; exact key l r h.1 h.2
end Tr

noncomputable def dR (N : Nat) : Nat := Nat.succ (Nat.log2 N)
abbrev dH : Nat := nat_lit 13
abbrev mH : Nat := nat_lit 8192

noncomputable def getV (t : Tr Value) : Nat → Value :=
  @Tr.rec Value (fun _ => Nat → Value) (fun _ => undef) (fun a k => @Bool.rec (fun _ => Value) undef a (Nat.beq k (nat_lit 0)))
    (fun _ _ gl gr k => @Bool.rec (fun _ => Value) (gr (Nat.div k (nat_lit 2))) (gl (Nat.div k (nat_lit 2))) (Nat.beq (Nat.mod k (nat_lit 2)) (nat_lit 0))) t
noncomputable def getB (t : Tr Blk) : Nat → Blk :=
  @Tr.rec Blk (fun _ => Nat → Blk) (fun _ => .dead) (fun a k => @Bool.rec (fun _ => Blk) .dead a (Nat.beq k (nat_lit 0)))
    (fun _ _ gl gr k => @Bool.rec (fun _ => Blk) (gr (Nat.div k (nat_lit 2))) (gl (Nat.div k (nat_lit 2))) (Nat.beq (Nat.mod k (nat_lit 2)) (nat_lit 0))) t
noncomputable def setV (d : Nat) : Tr Value → Nat → Value → Tr Value :=
  @Nat.rec (fun _ => Tr Value → Nat → Value → Tr Value) (fun _ _ a => .leaf a)
    (fun _ ih t k a => @Tr.rec Value (fun _ => Tr Value)
      (@Bool.rec (fun _ => Tr Value) (.node .emp (ih .emp (Nat.div k (nat_lit 2)) a)) (.node (ih .emp (Nat.div k (nat_lit 2)) a) .emp) (Nat.beq (Nat.mod k (nat_lit 2)) (nat_lit 0)))
      (fun _ => @Bool.rec (fun _ => Tr Value) (.node .emp (ih .emp (Nat.div k (nat_lit 2)) a)) (.node (ih .emp (Nat.div k (nat_lit 2)) a) .emp) (Nat.beq (Nat.mod k (nat_lit 2)) (nat_lit 0)))
      (fun l r _ _ => @Bool.rec (fun _ => Tr Value) (.node l (ih r (Nat.div k (nat_lit 2)) a)) (.node (ih l (Nat.div k (nat_lit 2)) a) r) (Nat.beq (Nat.mod k (nat_lit 2)) (nat_lit 0))) t) d
noncomputable def setB (d : Nat) : Tr Blk → Nat → Blk → Tr Blk :=
  @Nat.rec (fun _ => Tr Blk → Nat → Blk → Tr Blk) (fun _ _ a => .leaf a)
    (fun _ ih t k a => @Tr.rec Blk (fun _ => Tr Blk)
      (@Bool.rec (fun _ => Tr Blk) (.node .emp (ih .emp (Nat.div k (nat_lit 2)) a)) (.node (ih .emp (Nat.div k (nat_lit 2)) a) .emp) (Nat.beq (Nat.mod k (nat_lit 2)) (nat_lit 0)))
      (fun _ => @Bool.rec (fun _ => Tr Blk) (.node .emp (ih .emp (Nat.div k (nat_lit 2)) a)) (.node (ih .emp (Nat.div k (nat_lit 2)) a) .emp) (Nat.beq (Nat.mod k (nat_lit 2)) (nat_lit 0)))
      (fun l r _ _ => @Bool.rec (fun _ => Tr Blk) (.node l (ih r (Nat.div k (nat_lit 2)) a)) (.node (ih l (Nat.div k (nat_lit 2)) a) r) (Nat.beq (Nat.mod k (nat_lit 2)) (nat_lit 0))) t) d
noncomputable def putF (R : Tr Value) (N : Nat) (d : Option Nat) (v : Value) : Tr Value :=
  @Option.rec Nat (fun _ => Tr Value) R (fun d => @Bool.rec (fun _ => Tr Value) R (setV (dR N) R d v) (Nat.ble (Nat.succ d) N)) d

inductive ResF where
  | bad
  | pan (v : Value)
  | ok (v : Value) (T : Tr Blk) (n : Nat)

inductive OutF where
  | bad
  | pan (v : Value)
  | fin (e : XA) (R : Tr Value) (T : Tr Blk) (n : Nat)

noncomputable def effF : Eff → Value → Tr Blk → Nat → ResF :=
  @Eff.rec (fun _ => Value → Tr Blk → Nat → ResF) .ok
    (fun b v T n => @Bool.rec (fun _ => ResF) .bad (.ok v (setB dH T n b) (Nat.add n (nat_lit 1))) (Nat.ble (Nat.succ n) mH))
    (fun k b v T n => @Bool.rec (fun _ => ResF) .bad (.ok v (setB dH T k b) n) (Nat.ble (Nat.succ k) n))
    (fun k b v T n => @Bool.rec (fun _ => ResF) .bad (@Bool.rec (fun _ => ResF) .bad (.ok v (setB dH (setB dH T k .dead) n b) (Nat.add n (nat_lit 1))) (Nat.ble (Nat.succ n) mH)) (Nat.ble (Nat.succ k) n))

noncomputable def wantedF (R : Tr Value) (g : Option (Nat × Bool)) : Bool :=
  @Option.rec _ (fun _ => Bool) true (fun p => wantK (getV R p.1) p.2) g

def touchF (g : Nat → Value) : SOp → List Nat × List Nat
  | .load _ _ a => (blkOf (evG g a), [])
  | .store _ a _ => ([], blkOf (evG g a))
  | .app _ _ _ s x => (blkOf (evG g x), blkW (evG g s))
  | .sl _ _ x _ _ _ => (blkOf (evG g x), [])
  | .fa0 _ x => (blkOf (evG g x), [])
  | _ => ([], [])

section
variable (call : Nat → FuncId → List Value → Tr Blk → Nat → ResF) (N : Nat)

noncomputable def stepF (fl : Nat) (R : Tr Value) (T : Tr Blk) (n : Nat) (o : SOp) : ResF :=
  @OpResE.rec (fun _ => ResF) .bad (fun v e => effF e v T n) .pan (fun f args lone => call (@Bool.rec (fun _ => Nat) (@Bool.rec (fun _ => Nat) fl n (Nat.ble fl n)) fl lone) f args T n)
    (opK o (getB T) n fl (getV R))

noncomputable def regF (fl : Nat) (ops : List SOper) : Tr Value → Tr Blk → Nat → OutF :=
  @List.rec SOper (fun _ => Tr Value → Tr Blk → Nat → OutF) (.fin .normal)
    (fun o _ ih R T n => @Bool.rec (fun _ => OutF) (ih (putF R N o.dst undef) T n)
      (@ResF.rec (fun _ => OutF) .bad .pan (fun v T' n' => ih (putF R N o.dst v) T' n') (stepF call fl R T n o.op)) (wantedF R o.g)) ops

noncomputable def drawF (fl : Nat) (bef : List Nat) (pairs : List (Nat × Nat)) (ops : List SOper) : Nat → Tr Value → Tr Blk → Nat → Option (Nat × Value) → List (List Nat × List Nat) → OutF :=
  @List.rec SOper (fun _ => Nat → Tr Value → Tr Blk → Nat → Option (Nat × Value) → List (List Nat × List Nat) → OutF)
    (fun _ R T n p log => @Bool.rec (fun _ => OutF) .bad (match p with | none => .fin .normal R T n | some (_, v) => .pan v) (apartAll log.reverse pairs))
    (fun o _ ih i R T n p log =>
      @Bool.rec (fun _ => OutF)
        (@Bool.rec (fun _ => OutF) (ih (Nat.add i (nat_lit 1)) (putF R N o.dst undef) T n p (([], []) :: log))
          (@ResF.rec (fun _ => OutF) .bad (fun v => match p with | none => ih (Nat.add i (nat_lit 1)) R T n (some (i, v)) (([], []) :: log) | some _ => .bad)
            (fun v T' n' => ih (Nat.add i (nat_lit 1)) (putF R N o.dst v) T' n' p (touchF (getV R) o.op :: log)) (stepF call fl R T n o.op)) (wantedF R o.g))
        (ih (Nat.add i (nat_lit 1)) R T n p (([], []) :: log)) (hangs bef i p)) ops
end

abbrev CallT' := Nat → FuncId → List Value → Tr Blk → Nat → ResF
abbrev ExecT := SCode → Tr Value → Tr Blk → Nat → OutF
abbrev CodeT := ExecT → CallT' → Nat → Nat → Tr Value → Tr Blk → Nat → OutF

noncomputable def x_skip : CodeT := fun _ _ _ _ R T n => .fin .normal R T n
noncomputable def x_seq (a b : SCode) : CodeT := fun ih _ _ _ R T n =>
  @OutF.rec (fun _ => OutF) .bad .pan (fun e R' T' n' => @XA.rec (fun _ => OutF) (ih b R' T' n') (fun id => .fin (.exit id) R' T' n') (.fin .ret R' T' n') e) (ih a R T n)
noncomputable def boolK : Value → OutF → OutF → OutF :=
  @Value.rec (fun _ => OutF → OutF → OutF) (fun _ => Unit) (fun _ => Unit)
    (fun b x y => @Bool.rec (fun _ => OutF) y x b) (fun _ _ _ _ => .bad) (fun _ _ _ _ => .bad) (fun _ _ _ _ _ => .bad) (fun _ _ _ => .bad) (fun _ _ _ => .bad) (fun _ _ _ _ _ => .bad) (fun _ _ _ => .bad) (fun _ _ _ => .bad)
    (fun _ _ _ _ _ _ _ => .bad) (fun _ _ => .bad) (fun _ _ _ _ _ => .bad) (fun _ _ => .bad) (fun _ _ _ _ => .bad) (fun _ _ _ _ => .bad) (fun _ _ => ()) () (fun _ _ _ _ => ())
noncomputable def x_cond (c : Opd) (a b : SCode) : CodeT := fun ih _ _ _ R T n => boolK (evK c (getV R)) (ih a R T n) (ih b R T n)
noncomputable def x_block (id : Nat) (c : SCode) : CodeT := fun ih _ _ _ R T n =>
  @OutF.rec (fun _ => OutF) .bad .pan
    (fun e R' T' n' => @XA.rec (fun _ => OutF) (.fin .normal R' T' n') (fun id' => @Bool.rec (fun _ => OutF) (.fin (.exit id') R' T' n') (.fin .normal R' T' n') (Nat.beq id' id)) (.fin .ret R' T' n') e) (ih c R T n)
noncomputable def x_loop (c : SCode) : CodeT := fun ih _ _ _ R T n =>
  @OutF.rec (fun _ => OutF) .bad .pan (fun e R' T' n' => @XA.rec (fun _ => OutF) (ih (.loop c) R' T' n') (fun id => .fin (.exit id) R' T' n') (.fin .ret R' T' n') e) (ih c R T n)
noncomputable def x_exit (id : Nat) : CodeT := fun _ _ _ _ R T n => .fin (.exit id) R T n
noncomputable def x_ret : CodeT := fun _ _ _ _ R T n => .fin .ret R T n
noncomputable def x_reg (ops : List SOper) : CodeT := fun _ call N fl R T n => regF call N fl ops R T n
noncomputable def x_draw (ops : List SOper) (bef : List Nat) (pairs : List (Nat × Nat)) : CodeT := fun _ call N fl R T n => drawF call N fl bef pairs ops (nat_lit 0) R T n none []
noncomputable def x_all : SCode → CodeT :=
  @SCode.rec (fun _ => CodeT) x_skip (fun a b _ _ => x_seq a b) (fun c a b _ _ => x_cond c a b) (fun id c _ => x_block id c) (fun c _ => x_loop c) x_exit x_ret x_reg x_draw

noncomputable def execF (call : CallT') (N fl m : Nat) : ExecT :=
  @Nat.rec (fun _ => ExecT) (fun _ _ _ _ => .bad) (fun _ ih c R T n => x_all c ih call N fl R T n) m

def resF (g : Nat → Value) (blk : Nat → Blk) : SRes → Option Value
  | .tmp i => some (g i)
  | .cell a agg n => loadG blk agg n (g a)

def resAllF (g : Nat → Value) (blk : Nat → Blk) : List SRes → Option (List Value)
  | [] => some []
  | r :: rs => match resF g blk r, resAllF g blk rs with | some v, some vs => some (v :: vs) | _, _ => none

noncomputable def regsF (d : Nat) (l : List Value) : Nat → Tr Value :=
  @List.rec Value (fun _ => Nat → Tr Value) (fun _ => .emp) (fun v _ ih i => setV d (ih (Nat.add i (nat_lit 1))) i v) l
noncomputable def endF (res : List SRes) (o : OutF) : ResF :=
  @OutF.rec (fun _ => ResF) .bad .pan (fun e R T n => @XA.rec (fun _ => ResF)
    (match resAllF (getV R) (getB T) res with | some vs => .ok (packRes vs) T n | none => .bad) (fun _ => .bad)
    (match resAllF (getV R) (getB T) res with | some vs => .ok (packRes vs) T n | none => .bad) e) o

def quickF (z : List Value) (T : Tr Blk) (n : Nat) : ResF → ResF
  | .bad => .bad
  | .pan (.iface _ _) => .ok (.tuple #[.agg z.toArray, .int .i64 0, .bool false]) T n
  | .pan _ => .bad
  | .ok (.tuple vs) T' n' => match vs.toList with | [.agg a, .int k n1] => if a.size = z.length ∧ a.toList.all plainCell = true then .ok (.tuple #[.agg a, .int k n1, .bool true]) T' n' else .bad | _ => .bad
  | .ok _ _ _ => .bad

noncomputable def callF (code : FuncId → Option SFun) (quick : Option Quick) (m : Nat) : CallT' :=
  @Nat.rec (fun _ => CallT') (fun _ _ _ _ _ => .bad)
    (fun m ih fl f args T n => @Option.rec _ (fun _ => ResF)
      (match quick with
       | some q =>
        if f = q.f then
          match args with
          | [.agg p, .agg s] => if p.size = q.np ∧ s.size = q.ns then quickF q.zero T n (ih (@Bool.rec (fun _ => Nat) fl n (Nat.ble fl n)) q.solved [.agg #[], .agg p, .agg s] T n) else .bad
          | _ => .bad
        else .bad
       | none => .bad)
      (fun sf => @Bool.rec (fun _ => ResF) .bad (@Bool.rec (fun _ => ResF) .bad (endF sf.res (execF ih sf.nt fl m sf.body (regsF (dR sf.nt) args (nat_lit 0)) T n)) (Nat.ble sf.np sf.nt)) (Nat.beq (lenK args) sf.np)) (code f)) m

/-! ### what it answers the abstract machine answers -/

structure RelT (T : Tr Blk) (n : Nat) (H : Heap) : Prop where
  sz : n = H.size
  le : n ≤ mH
  wf : T.Wf dH
  eq : ∀ b, T.get .dead b = H.blk b

structure RelR (R : Tr Value) (N : Nat) (t : Tmps) : Prop where
  sz : N = t.length
  wf : R.Wf (dR N)
  eq : ∀ i, R.get undef i = AI.get t i

variable {T : Tr Blk} {n : Nat} {H : Heap} {R : Tr Value} {N : Nat} {t : Tmps} {fl : Nat}

theorem RelT.blk (h : RelT T n H) : getB T = H.blk := by funext b; exact h.eq b
theorem RelR.rd (h : RelR R N t) : getV R = AI.get t := by funext i; exact h.eq i
theorem dR_lt (N : Nat) : N < 2 ^ dR N := Nat.lt_log2_self

theorem RelR.put (h : RelR R N t) (d : Option Nat) (v : Value) : RelR (putF R N d v) N (AI.put t d v) := by
  cases d with
  | none => exact h
  | some d =>
    show RelR (@Bool.rec (fun _ => Tr Value) R (Tr.set (dR N) R d v) (Nat.ble (Nat.succ d) N)) N (t.set d v)
    rw [brec_ble]
    by_cases hd : d.succ ≤ N
    · rw [if_pos hd]
      refine ⟨by simpa using h.sz, Tr.wf_set _ _ _ _ h.wf, fun i => ?_⟩
      rw [Tr.get_set _ _ _ _ _ _ h.wf (Nat.lt_trans hd (dR_lt N))]
      unfold AI.get
      rw [List.getD_eq_getElem?_getD, List.getElem?_set]
      by_cases hid : i = d
      · subst hid; rw [if_pos rfl, if_pos rfl, if_pos (by rw [← h.sz]; exact hd)]; rfl
      · rw [if_neg hid, if_neg (fun e => hid e.symm), h.eq i]; unfold AI.get; rw [List.getD_eq_getElem?_getD]
    · rw [if_neg hd, List.set_eq_of_length_le (by rw [← h.sz]; omega)]; exact h

theorem RelT.push (h : RelT T n H) (hn : n < mH) (b : Blk) : RelT (T.set dH n b) (n + 1) (H.push b) := by
  refine ⟨by simp [h.sz], hn, Tr.wf_set _ _ _ _ h.wf, fun j => ?_⟩
  rw [Tr.get_set _ _ _ _ _ _ h.wf hn]
  unfold Heap.blk
  rw [Array.getD_eq_getD_getElem?, Array.getElem?_push]
  by_cases hj2 : j = n
  · rw [if_pos hj2, if_pos (by rw [hj2]; exact h.sz)]; rfl
  · rw [if_neg hj2, if_neg (by rw [← h.sz]; exact hj2), h.eq j]; unfold Heap.blk; rw [Array.getD_eq_getD_getElem?]

theorem RelT.set (h : RelT T n H) {k : Nat} (hk : k < n) (b : Blk) : RelT (T.set dH k b) n (H.setIfInBounds k b) := by
  refine ⟨by simpa using h.sz, h.le, Tr.wf_set _ _ _ _ h.wf, fun j => ?_⟩
  rw [Tr.get_set _ _ _ _ _ _ h.wf (Nat.lt_of_lt_of_le hk h.le)]
  unfold Heap.blk
  rw [Array.getD_eq_getD_getElem?, Array.getElem?_setIfInBounds]
  by_cases hj2 : j = k
  · subst hj2; rw [if_pos rfl, if_pos rfl, if_pos (by rw [← h.sz]; exact hk)]; rfl
  · rw [if_neg hj2, if_neg (fun e => hj2 e.symm), h.eq j]; unfold Heap.blk; rw [Array.getD_eq_getD_getElem?]

theorem effF_ok (h : RelT T n H) {v v' : Value} {e : Eff} {T' : Tr Blk} {n' : Nat} (he : effF e v T n = .ok v' T' n') : v' = v ∧ RelT T' n' (e.app H) := by
  cases e with
  | same => cases he; exact ⟨rfl, h⟩
  | push b =>
    change @Bool.rec (fun _ => ResF) .bad (.ok v (Tr.set dH T n b) (n + 1)) (Nat.ble (Nat.succ n) mH) = _ at he
    rw [brec_ble] at he
    split at he
    · rename_i hn; cases he; exact ⟨rfl, h.push hn b⟩
    · cases he
  | set k b =>
    change @Bool.rec (fun _ => ResF) .bad (.ok v (Tr.set dH T k b) n) (Nat.ble (Nat.succ k) n) = _ at he
    rw [brec_ble] at he
    split at he
    · rename_i hk; cases he; exact ⟨rfl, h.set hk b⟩
    · cases he
  | mv k b =>
    change @Bool.rec (fun _ => ResF) .bad (@Bool.rec (fun _ => ResF) .bad (.ok v (Tr.set dH (Tr.set dH T k .dead) n b) (n + 1)) (Nat.ble (Nat.succ n) mH)) (Nat.ble (Nat.succ k) n) = _ at he
    rw [brec_ble, brec_ble] at he
    split at he
    · rename_i hk
      split at he
      · rename_i hn; cases he; exact ⟨rfl, (h.set hk .dead).push hn b⟩
      · cases he
    · cases he

theorem effF_pan {v v' : Value} {e : Eff} : effF e v T n ≠ .pan v' := by
  intro he
  cases e with
  | same => cases he
  | push b =>
    change @Bool.rec (fun _ => ResF) .bad (.ok v (Tr.set dH T n b) (n + 1)) (Nat.ble (Nat.succ n) mH) = _ at he
    rw [brec_ble] at he; split at he <;> cases he
  | set k b =>
    change @Bool.rec (fun _ => ResF) .bad (.ok v (Tr.set dH T k b) n) (Nat.ble (Nat.succ k) n) = _ at he
    rw [brec_ble] at he; split at he <;> cases he
  | mv k b =>
    change @Bool.rec (fun _ => ResF) .bad (@Bool.rec (fun _ => ResF) .bad (.ok v (Tr.set dH (Tr.set dH T k .dead) n b) (n + 1)) (Nat.ble (Nat.succ n) mH)) (Nat.ble (Nat.succ k) n) = _ at he
    rw [brec_ble, brec_ble] at he
    split at he
    · split at he <;> cases he
    · cases he

def CallF (cF : CallT') (cA : Nat → FuncId → List Value → Heap → Res (Value × Heap)) : Prop :=
  ∀ fl f args T n H, RelT T n H →
    (∀ v T' n', cF fl f args T n = .ok v T' n' → ∃ H', cA fl f args H = .ok (v, H') ∧ RelT T' n' H') ∧ (∀ v, cF fl f args T n = .pan v → cA fl f args H = .pan v)

def OutOk (N : Nat) (oF : OutF) (oA : Out) : Prop :=
  (∀ e R T n, oF = .fin e R T n → ∃ t H, oA = .fin e t H ∧ RelT T n H ∧ RelR R N t) ∧ (∀ v, oF = .pan v → oA = .pan v)

theorem OutOk.bad {oA : Out} : OutOk N .bad oA := ⟨fun _ _ _ _ e => (by cases e), fun _ e => by cases e⟩
theorem OutOk.pan {v : Value} : OutOk N (.pan v) (.pan v) := ⟨fun _ _ _ _ e => (by cases e), fun _ e => by cases e; rfl⟩
theorem OutOk.fin {e : XA} (h : RelT T n H) (k : RelR R N t) : OutOk N (.fin e R T n) (.fin e t H) := ⟨fun _ _ _ _ e => by cases e; exact ⟨_, _, rfl, h, k⟩, fun _ e => by cases e⟩

theorem wantedF_eq (k : RelR R N t) (g : Option (Nat × Bool)) : wantedF R g = isWanted t g := by
  cases g with
  | none => rfl
  | some p =>
    obtain ⟨j, w⟩ := p
    show wantK (getV R j) w = _
    rw [wantK_eq, k.rd]; rfl

theorem touchF_eq (k : RelR R N t) (op : SOp) : touchF (getV R) op = touch t op := by
  rw [k.rd]; cases op <;> simp only [touchF, touch, evG_get]

section
variable {cF : CallT'} {cA : Nat → FuncId → List Value → Heap → Res (Value × Heap)} (hc : CallF cF cA)
include hc

theorem stepF_ok (h : RelT T n H) (k : RelR R N t) (o : SOp) :
    (∀ v T' n', stepF cF fl R T n o = .ok v T' n' → ∃ H', stepA cA fl t H o = .ok (v, H') ∧ RelT T' n' H') ∧ (∀ v, stepF cF fl R T n o = .pan v → stepA cA fl t H o = .pan v) := by
  unfold stepF stepA
  rw [opK_eq, opA_E, h.blk, k.rd, h.sz]
  have h' := h
  rw [h.sz] at h'
  cases opE H.blk H.size fl (AI.get t) o with
  | bad => exact ⟨fun _ _ _ e => (by cases e), fun _ e => by cases e⟩
  | pan v => exact ⟨fun _ _ _ e => (by cases e), fun _ e => by cases e; rfl⟩
  | val v e =>
    refine ⟨fun v' T' n' he => ?_, fun _ he => absurd he effF_pan⟩
    obtain ⟨rfl, hr⟩ := effF_ok h' he
    exact ⟨_, rfl, hr⟩
  | call f args lone =>
    have := hc (if lone then fl else max fl H.size) f args T H.size H h'
    have e : (@Bool.rec (fun _ => Nat) (@Bool.rec (fun _ => Nat) fl H.size (Nat.ble fl H.size)) fl lone) = (if lone = true then fl else max fl H.size) := by
      cases lone with
      | true => rfl
      | false =>
        show (@Bool.rec (fun _ => Nat) fl H.size (Nat.ble fl H.size)) = max fl H.size
        rw [brec_ble]; split <;> omega
    show (∀ v T' n', cF _ f args T H.size = .ok v T' n' → _) ∧ (∀ v, cF _ f args T H.size = .pan v → _)
    rw [e]
    exact this

theorem regF_ok : ∀ (ops : List SOper) {R : Tr Value} {T : Tr Blk} {n : Nat} {t : Tmps} {H : Heap}, RelT T n H → RelR R N t → OutOk N (regF cF N fl ops R T n) (regA cA fl ops t H)
  | [], _, _, _, _, _, h, k => OutOk.fin h k
  | o :: r, R, T, n, t, H, h, k => by
    show OutOk N (@Bool.rec (fun _ => OutF) (regF cF N fl r (putF R N o.dst undef) T n)
      (@ResF.rec (fun _ => OutF) .bad .pan (fun v T' n' => regF cF N fl r (putF R N o.dst v) T' n') (stepF cF fl R T n o.op)) (wantedF R o.g)) _
    rw [wantedF_eq k]
    simp only [regA]
    cases isWanted t o.g with
    | false => exact regF_ok r h (k.put _ _)
    | true =>
      simp only [if_true]
      obtain ⟨h1, h2⟩ := stepF_ok hc (fl := fl) h k o.op
      cases hs : stepF cF fl R T n o.op with
      | bad => exact OutOk.bad
      | pan v => rw [h2 v hs]; exact OutOk.pan
      | ok v T' n' =>
        obtain ⟨H', e, h'⟩ := h1 v T' n' hs
        rw [e]; exact regF_ok r h' (k.put _ _)

theorem drawF_ok (bef : List Nat) (pairs : List (Nat × Nat)) : ∀ (ops : List SOper) (i : Nat) {R : Tr Value} {T : Tr Blk} {n : Nat} {t : Tmps} {H : Heap} (p : Option (Nat × Value)) (log : List (List Nat × List Nat)), RelT T n H → RelR R N t →
    OutOk N (drawF cF N fl bef pairs ops i R T n p log) (drawA cA fl bef pairs i ops t H p log)
  | [], i, R, T, n, t, H, p, log, h, k => by
    show OutOk N (@Bool.rec (fun _ => OutF) .bad (match p with | none => .fin .normal R T n | some (_, v) => .pan v) (apartAll log.reverse pairs)) _
    simp only [drawA]
    cases apartAll log.reverse pairs with
    | false => exact OutOk.bad
    | true =>
      simp only [if_true]
      cases p with
      | none => exact OutOk.fin h k
      | some p => exact OutOk.pan
  | o :: r, i, R, T, n, t, H, p, log, h, k => by
    show OutOk N (@Bool.rec (fun _ => OutF)
        (@Bool.rec (fun _ => OutF) (drawF cF N fl bef pairs r (i + 1) (putF R N o.dst undef) T n p (([], []) :: log))
          (@ResF.rec (fun _ => OutF) .bad (fun v => match p with | none => drawF cF N fl bef pairs r (i + 1) R T n (some (i, v)) (([], []) :: log) | some _ => .bad)
            (fun v T' n' => drawF cF N fl bef pairs r (i + 1) (putF R N o.dst v) T' n' p (touchF (getV R) o.op :: log)) (stepF cF fl R T n o.op)) (wantedF R o.g))
        (drawF cF N fl bef pairs r (i + 1) R T n p (([], []) :: log)) (hangs bef i p)) _
    rw [wantedF_eq k, touchF_eq k]
    simp only [drawA]
    cases hangs bef i p with
    | true => simp only [if_true]; exact drawF_ok bef pairs r (i + 1) p _ h k
    | false =>
      simp only [Bool.false_eq_true, if_false]
      cases isWanted t o.g with
      | false => simp only [Bool.false_eq_true, if_false]; exact drawF_ok bef pairs r (i + 1) p _ h (k.put _ _)
      | true =>
        simp only [if_true]
        obtain ⟨h1, h2⟩ := stepF_ok hc (fl := fl) h k o.op
        cases hs : stepF cF fl R T n o.op with
        | bad => exact OutOk.bad
        | pan v =>
          rw [h2 v hs]
          cases p with
          | none => exact drawF_ok bef pairs r (i + 1) _ _ h k
          | some _ => exact OutOk.bad
        | ok v T' n' =>
          obtain ⟨H', e, h'⟩ := h1 v T' n' hs
          rw [e]; exact drawF_ok bef pairs r (i + 1) p _ h' (k.put _ _)

theorem execF_ok : ∀ (m : Nat) (c : SCode) {R : Tr Value} {T : Tr Blk} {n : Nat} {t : Tmps} {H : Heap}, RelT T n H → RelR R N t → OutOk N (execF cF N fl m c R T n) (execA cA fl m c t H)
  | 0, c, _, _, _, _, _, _, _ => OutOk.bad
  | m + 1, c, R, T, n, t, H, h, k => by
    cases c with
    | skip => exact OutOk.fin h k
    | exit id => exact OutOk.fin h k
    | ret => exact OutOk.fin h k
    | seq a b =>
      show OutOk N (@OutF.rec (fun _ => OutF) .bad .pan (fun e R' T' n' => @XA.rec (fun _ => OutF) (execF cF N fl m b R' T' n') (fun id => .fin (.exit id) R' T' n') (.fin .ret R' T' n') e) (execF cF N fl m a R T n)) _
      simp only [execA]
      have ih := execF_ok m a h k
      cases hx : execF cF N fl m a R T n with
      | bad => exact OutOk.bad
      | pan v => rw [ih.2 v hx]; exact OutOk.pan
      | fin e R' T' n' =>
        obtain ⟨t', H', e1, h', k'⟩ := ih.1 e R' T' n' hx
        rw [e1]
        cases e with
        | normal => exact execF_ok m b h' k'
        | exit id => exact OutOk.fin h' k'
        | ret => exact OutOk.fin h' k'
    | cond c a b =>
      show OutOk N (boolK (evK c (getV R)) (execF cF N fl m a R T n) (execF cF N fl m b R T n)) _
      simp only [execA]
      rw [k.rd, evK_eq, evG_get]
      generalize ev t c = v
      cases v <;> try exact OutOk.bad
      rename_i b1; cases b1
      · exact execF_ok m b h k
      · exact execF_ok m a h k
    | block id c =>
      show OutOk N (@OutF.rec (fun _ => OutF) .bad .pan
        (fun e R' T' n' => @XA.rec (fun _ => OutF) (.fin .normal R' T' n') (fun id' => @Bool.rec (fun _ => OutF) (.fin (.exit id') R' T' n') (.fin .normal R' T' n') (Nat.beq id' id)) (.fin .ret R' T' n') e) (execF cF N fl m c R T n)) _
      simp only [execA]
      have ih := execF_ok m c h k
      cases hx : execF cF N fl m c R T n with
      | bad => exact OutOk.bad
      | pan v => rw [ih.2 v hx]; exact OutOk.pan
      | fin e R' T' n' =>
        obtain ⟨t', H', e1, h', k'⟩ := ih.1 e R' T' n' hx
        rw [e1]
        cases e with
        | normal => exact OutOk.fin h' k'
        | exit id' =>
          show OutOk N (@Bool.rec (fun _ => OutF) (.fin (.exit id') R' T' n') (.fin .normal R' T' n') (Nat.beq id' id)) _
          rw [brec_beq]
          simp only
          split
          · exact OutOk.fin h' k'
          · exact OutOk.fin h' k'
        | ret => exact OutOk.fin h' k'
    | loop c =>
      show OutOk N (@OutF.rec (fun _ => OutF) .bad .pan (fun e R' T' n' => @XA.rec (fun _ => OutF) (execF cF N fl m (.loop c) R' T' n') (fun id => .fin (.exit id) R' T' n') (.fin .ret R' T' n') e) (execF cF N fl m c R T n)) _
      simp only [execA]
      have ih := execF_ok m c h k
      cases hx : execF cF N fl m c R T n with
      | bad => exact OutOk.bad
      | pan v => rw [ih.2 v hx]; exact OutOk.pan
      | fin e R' T' n' =>
        obtain ⟨t', H', e1, h', k'⟩ := ih.1 e R' T' n' hx
        rw [e1]
        cases e with
        | normal => exact execF_ok m (.loop c) h' k'
        | exit id => exact OutOk.fin h' k'
        | ret => exact OutOk.fin h' k'
    | reg ops => exact regF_ok hc ops h k
    | draw ops bef pairs => exact drawF_ok hc bef pairs ops 0 none [] h k
end

theorem resAllF_eq (h : RelT T n H) (k : RelR R N t) : ∀ l : List SRes, resAllF (getV R) (getB T) l = resAll H t l
  | [] => rfl
  | r :: rs => by
    simp only [resAllF, resAll]
    rw [resAllF_eq h k rs]
    have : resF (getV R) (getB T) r = resA H t r := by
      rw [h.blk, k.rd]; cases r <;> rfl
    rw [this]; rfl

theorem regsF_ok (N : Nat) : ∀ (l : List Value) (i : Nat), i + l.length ≤ N → (regsF (dR N) l i).Wf (dR N) ∧ ∀ j, (regsF (dR N) l i).get undef j = if i ≤ j then l.getD (j - i) undef else undef
  | [], i, _ => ⟨Tr.wf_emp _, fun j => by show undef = _; simp⟩
  | v :: r, i, h => by
    simp only [List.length_cons] at h
    obtain ⟨h1, h2⟩ := regsF_ok N r (i + 1) (by omega)
    refine ⟨Tr.wf_set _ _ _ _ h1, fun j => ?_⟩
    show Tr.get undef (Tr.set (dR N) (regsF (dR N) r (i + 1)) i v) j = _
    rw [Tr.get_set _ _ _ _ _ _ h1 (Nat.lt_of_le_of_lt (show i ≤ N by omega) (dR_lt N)), h2 j]
    by_cases hji : j = i
    · subst hji; simp
    · rw [if_neg hji]
      by_cases hle : i ≤ j
      · rw [if_pos (by omega), if_pos hle]
        have : j - i = (j - (i + 1)) + 1 := by omega
        rw [this]; simp
      · rw [if_neg (by omega), if_neg hle]

theorem callF_ok (E : Env) (hk : ∀ f args, E.know f args = none) : ∀ m, CallF (callF E.code E.quick m) (callA E m)
  | 0 => fun _ _ _ _ _ _ _ => ⟨fun _ _ _ e => (by cases e), fun _ e => by cases e⟩
  | m + 1 => fun fl f args T n H h => by
    have ih := callF_ok E hk m
    have h' := h
    rw [h.sz] at h'
    show (∀ v T' n', (@Option.rec _ (fun _ => ResF)
      (match E.quick with
       | some q =>
        if f = q.f then
          match args with
          | [.agg p, .agg s] => if p.size = q.np ∧ s.size = q.ns then quickF q.zero T n (callF E.code E.quick m (@Bool.rec (fun _ => Nat) fl n (Nat.ble fl n)) q.solved [.agg #[], .agg p, .agg s] T n) else .bad
          | _ => .bad
        else .bad
       | none => .bad)
      (fun sf => @Bool.rec (fun _ => ResF) .bad (@Bool.rec (fun _ => ResF) .bad (endF sf.res (execF (callF E.code E.quick m) sf.nt fl m sf.body (regsF (dR sf.nt) args 0) T n)) (Nat.ble sf.np sf.nt)) (Nat.beq (lenK args) sf.np)) (E.code f)) = .ok v T' n' → _) ∧
      (∀ v, (@Option.rec _ (fun _ => ResF)
      (match E.quick with
       | some q =>
        if f = q.f then
          match args with
          | [.agg p, .agg s] => if p.size = q.np ∧ s.size = q.ns then quickF q.zero T n (callF E.code E.quick m (@Bool.rec (fun _ => Nat) fl n (Nat.ble fl n)) q.solved [.agg #[], .agg p, .agg s] T n) else .bad
          | _ => .bad
        else .bad
       | none => .bad)
      (fun sf => @Bool.rec (fun _ => ResF) .bad (@Bool.rec (fun _ => ResF) .bad (endF sf.res (execF (callF E.code E.quick m) sf.nt fl m sf.body (regsF (dR sf.nt) args 0) T n)) (Nat.ble sf.np sf.nt)) (Nat.beq (lenK args) sf.np)) (E.code f)) = .pan v → _)
    simp only [callA]
    cases E.code f with
    | none =>
      simp only [hk]
      cases hq : E.quick with
      | none => exact ⟨fun _ _ _ e => (by cases e), fun _ e => by cases e⟩
      | some q =>
        rw [hq] at ih
        simp only
        by_cases hf : f = q.f
        · simp only [hf, if_true]
          split
          · rename_i p s
            simp only
            by_cases hsz : p.size = q.np ∧ s.size = q.ns
            case neg => rw [if_neg hsz]; exact ⟨fun _ _ _ e => (by cases e), fun _ e => by cases e⟩
            rw [if_pos hsz]
            try rw [if_pos hsz]
            have efl : (@Bool.rec (fun _ => Nat) fl n (Nat.ble fl n)) = max fl H.size := by rw [brec_ble, ← h.sz]; split <;> omega
            rw [efl, h.sz]
            obtain ⟨h1, h2⟩ := ih (max fl H.size) q.solved [.agg #[], .agg p, .agg s] T H.size H h'
            cases hx : callF E.code (some q) m (max fl H.size) q.solved [.agg #[], .agg p, .agg s] T H.size with
            | bad => exact ⟨fun _ _ _ e => by simp [quickF] at e, fun _ e => by simp [quickF] at e⟩
            | pan v =>
              rw [h2 v hx]
              cases v with
              | iface ty u => exact ⟨fun _ _ _ e => by simp only [quickF, ResF.ok.injEq] at e; obtain ⟨rfl, rfl, rfl⟩ := e; exact ⟨_, rfl, h'⟩, fun _ e => by simp [quickF] at e⟩
              | _ => exact ⟨fun _ _ _ e => by simp [quickF] at e, fun _ e => by simp [quickF] at e⟩
            | ok v T' n' =>
              obtain ⟨H', e1, h'⟩ := h1 v T' n' hx
              rw [e1]
              cases v with
              | tuple vs =>
                simp only [quickF, quickRes]
                split
                · rename_i heq
                  simp only [heq]
                  split
                  · exact ⟨fun _ _ _ e => by simp only [ResF.ok.injEq] at e; obtain ⟨rfl, rfl, rfl⟩ := e; exact ⟨_, rfl, h'⟩, fun _ e => by simp at e⟩
                  · exact ⟨fun _ _ _ e => by simp at e, fun _ e => by simp at e⟩
                · exact ⟨fun _ _ _ e => by simp at e, fun _ e => by simp at e⟩
              | _ => exact ⟨fun _ _ _ e => by simp [quickF] at e, fun _ e => by simp [quickF] at e⟩
          · exact ⟨fun _ _ _ e => (by cases e), fun _ e => by cases e⟩
        · simp only [hf, if_false]; exact ⟨fun _ _ _ e => (by cases e), fun _ e => by cases e⟩
    | some sf =>
      simp only [brec_beq, brec_ble, lenK_eq]
      by_cases c1 : args.length = sf.np
      · by_cases c2 : sf.np ≤ sf.nt
        · simp only [c1, c2, if_true]
          obtain ⟨w1, w2⟩ := regsF_ok sf.nt args 0 (by omega)
          have k : RelR (regsF (dR sf.nt) args 0) sf.nt (args ++ List.replicate (sf.nt - sf.np) undef) := by
            refine ⟨by simp; omega, w1, fun i => ?_⟩
            rw [w2 i]
            simp only [Nat.zero_le, if_true, Nat.sub_zero]
            unfold AI.get
            rw [List.getD_eq_getElem?_getD, List.getD_eq_getElem?_getD]
            by_cases hi2 : i < args.length
            · rw [List.getElem?_append_left hi2]
            · rw [List.getElem?_append_right (by omega), List.getElem?_eq_none (by omega), List.getElem?_replicate]
              split <;> rfl
          have hx := execF_ok ih (N := sf.nt) (fl := fl) m sf.body h k
          cases he : execF (callF E.code E.quick m) sf.nt fl m sf.body (regsF (dR sf.nt) args 0) T n with
          | bad => exact ⟨fun _ _ _ e => (by cases e), fun _ e => by cases e⟩
          | pan v => rw [hx.2 v he]; exact ⟨fun _ _ _ e => (by cases e), fun _ e => by cases e; rfl⟩
          | fin e R' T' n' =>
            obtain ⟨t', H', e1, h', k'⟩ := hx.1 e R' T' n' he
            rw [e1]
            simp only
            have fin : (∀ v T2 n2, (match resAllF (getV R') (getB T') sf.res with | some vs => ResF.ok (packRes vs) T' n' | none => .bad) = .ok v T2 n2 →
                ∃ H2, (match resAll H' t' sf.res with | some vs => Res.ok (packRes vs, H') | none => .bad) = .ok (v, H2) ∧ RelT T2 n2 H2) ∧
                (∀ v, (match resAllF (getV R') (getB T') sf.res with | some vs => ResF.ok (packRes vs) T' n' | none => .bad) = .pan v → (match resAll H' t' sf.res with | some vs => Res.ok (packRes vs, H') | none => .bad) = .pan v) := by
              rw [resAllF_eq h' k']
              cases resAll H' t' sf.res with
              | none => exact ⟨fun _ _ _ e => (by cases e), fun _ e => by cases e⟩
              | some vs => exact ⟨fun _ _ _ e => by cases e; exact ⟨_, rfl, h'⟩, fun _ e => by cases e⟩
            cases e with
            | exit id => exact ⟨fun _ _ _ e => (by cases e), fun _ e => by cases e⟩
            | normal => exact fin
            | ret => exact fin
        · simp only [c2, if_false, ite_self]; exact ⟨fun _ _ _ e => (by cases e), fun _ e => by cases e⟩
      · simp only [c1, if_false]; exact ⟨fun _ _ _ e => (by cases e), fun _ e => by cases e⟩

noncomputable def isB (b : Bool) (r : ResF) : Bool := @ResF.rec (fun _ => Bool) false (fun _ => false) (fun v _ _ => wantK v b) r
theorem run_of_fast (E : Env) (hk : ∀ f args, E.know f args = none) {m : Nat} {f : FuncId} {b : Bool} (h : isB b (callF E.code E.quick m 0 f [] .emp 0) = true) :
    ∃ H1, callA E m 0 f [] #[] = .ok (.bool b, H1) := by
  have h0 : RelT .emp 0 #[] := ⟨rfl, Nat.zero_le _, Tr.wf_emp _, fun _ => by show Blk.dead = _; simp [Heap.blk]⟩
  obtain ⟨h1, _⟩ := callF_ok E hk m 0 f [] .emp 0 #[] h0
  cases hx : callF E.code E.quick m 0 f [] .emp 0 with
  | bad => rw [hx] at h; cases h
  | pan v => rw [hx] at h; cases h
  | ok v T' n' =>
    rw [hx] at h
    obtain ⟨H', e, _⟩ := h1 v T' n' hx
    change wantK v b = true at h
    rw [wantK_eq] at h
    cases v <;> simp at h
    exact ⟨H', by rw [e, h]⟩

end Go.Proofs.YtjlohmnnldbjoaaGreat.AI

/- A table of functions as a trie. -/
namespace Go.Proofs.YtjlohmnnldbjoaaGreat.AI
open Go

abbrev dC : Nat := nat_lit 10
noncomputable def tabO : List (Nat × SFun) → Tr (Option SFun)
  | [] => .emp
  | p :: r => (tabO r).set dC p.1 (some p.2)
theorem tabO_wf : ∀ l, (tabO l).Wf dC
  | [] => Tr.wf_emp _
  | p :: r => Tr.wf_set _ _ _ _ (tabO_wf r)
theorem tabO_mem : ∀ (l : List (Nat × SFun)) (f : Nat) (s : SFun), (l.all fun p => Nat.blt p.1 1024) = true → (tabO l).get none f = some s → (f, s) ∈ l
  | [], f, s, _, h => by simp [tabO, Tr.get_emp] at h
  | p :: r, f, s, hl, h => by
    simp only [List.all_cons, Bool.and_eq_true, Nat.blt_eq] at hl
    simp only [tabO] at h
    rw [Tr.get_set _ _ _ _ _ _ (tabO_wf r) (show p.1 < 2 ^ dC from hl.1)] at h
    split at h
    · rename_i hf
      simp only [Option.some.injEq] at h
      subst hf h
      exact List.mem_cons_self
    · exact List.mem_cons_of_mem _ (tabO_mem r f s hl.2 h)

theorem tab_lookup {l : List (Nat × SFun)} {f : Nat} {s : SFun} (h : l.lookup f = some s) : (f, s) ∈ l := by
  induction l with
  | nil => simp at h
  | cons p r ih =>
    obtain ⟨a, b⟩ := p
    simp only [List.lookup] at h
    split at h
    · rename_i hb
      simp only [Option.some.injEq] at h
      have : f = a := by simpa using hb
      subst this h
      exact List.mem_cons_self
    · exact List.mem_cons_of_mem _ (ih h)

end Go.Proofs.YtjlohmnnldbjoaaGreat.AI
