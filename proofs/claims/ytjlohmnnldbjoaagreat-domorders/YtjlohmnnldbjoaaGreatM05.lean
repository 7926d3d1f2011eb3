/- Part 6 of the proof: AiHeap, AiSet, AiOwn, AiNum1, AiNum2, AiMath1, AiNum3, AiNum4, AiNum5, AiMath2, AiNum6, AiNum7, AiNum8, AiNum9, AiBits, AiNum10, AiNum11, AiNum12. -/
import Derived.Test.YtjlohmnnldbjoaaGreatM02
import Derived.Test.YtjlohmnnldbjoaaGreatM04
set_option linter.unusedVariables false
set_option linter.unusedSimpArgs false
set_option linter.unusedSectionVars false

/- Slices of whole numbers, numbers, quotients in the abstract heap; functions that leave alone what was there. -/
namespace Go.Proofs.YtjlohmnnldbjoaaGreat.AI
open Go

variable {E : Env} {fl : Nat} {t : Tmps} {H G : Heap} {K : PostV} {R : PostP}

/-- A slice of n elements of sz cells each. -/
def Sl (H : Heap) (e sz : Nat) (v : Value) (n : Nat) (cs : List Value) : Prop :=
  cs.length = n * sz ∧ ((v = .slice none 0 0 ∧ n = 0) ∨
    ∃ b off cap ro cells, v = .slice (some ⟨b, off, none⟩) n cap ∧ H.blk b = .row ro e cells ∧ off + n * sz ≤ cells.length ∧ cs = (cells.drop off).take (n * sz))

variable {e sz n : Nat} {v : Value} {cs : List Value}

theorem Sl.mono (h : Sl H e sz v n cs) (hx : Ext H G) : Sl G e sz v n cs := by
  obtain ⟨hl, h⟩ := h
  refine ⟨hl, ?_⟩
  rcases h with h | ⟨b, off, cap, ro, cells, h1, h2, h3, h4⟩
  · exact .inl h
  · exact .inr ⟨b, off, cap, ro, cells, h1, hx.blk h2, h3, h4⟩

theorem Sl.nil : Sl H e sz (.slice none 0 0) 0 [] := ⟨by simp, .inl ⟨rfl, rfl⟩⟩

theorem Sl.slen (h : Sl H e sz v n cs) : slenV v = some (.int .i64 n) := by
  obtain ⟨_, ⟨rfl, rfl⟩ | ⟨b, off, cap, ro, cells, rfl, _⟩⟩ := h <;> simp [slenV]

theorem Sl.ia (h : Sl H e sz v n cs) {k : IntKind} {j : Nat} (hj : j < n) : iaV sz v (.int k j) = some (adr sz v j) := by
  obtain ⟨_, ⟨rfl, rfl⟩ | ⟨b, off, cap, ro, cells, rfl, _⟩⟩ := h
  · omega
  · simp only [iaV, adr]; rw [if_pos (by omega)]; simp

theorem Sl.iaZ (h : Sl H e sz v n cs) {k : IntKind} {z : Int} (h0 : 0 ≤ z) (hj : z < n) : iaV sz v (.int k z) = some (adr sz v z.toNat) := by
  have := h.ia (k := k) (j := z.toNat) (by omega)
  rwa [Int.toNat_of_nonneg h0] at this

theorem Sl.load (h : Sl H e sz v n cs) (hx : Ext H G) {j : Nat} (hj : j < n) (hs : 0 < sz) : loadA G true sz (adr sz v j) = some (.agg ((cs.drop (j * sz)).take sz).toArray) := by
  obtain ⟨hl, ⟨rfl, rfl⟩ | ⟨b, off, cap, ro, cells, rfl, hb, ho, rfl⟩⟩ := h
  · omega
  · have hj2 : (j + 1) * sz ≤ n * sz := Nat.mul_le_mul_right sz hj
    rw [Nat.add_mul, Nat.one_mul] at hj2
    have hc := cells_of (off := off + j * sz) (n := sz) (hx.blk hb) (by omega)
    simp only [adr, loadA]
    rw [if_neg (by omega), if_neg (by simp)]
    simp only [if_true, hc]
    rw [List.drop_take, List.take_take, List.drop_drop, Nat.min_eq_left (by omega)]

theorem Sl.load1 (h : Sl H e 1 v n cs) (hx : Ext H G) {j : Nat} (hj : j < n) : loadA G false 1 (adr 1 v j) = some (cs.getD j undef) := by
  obtain ⟨hl, ⟨rfl, rfl⟩ | ⟨b, off, cap, ro, cells, rfl, hb, ho, rfl⟩⟩ := h
  · omega
  · have hc := cells_of (off := off + j * 1) (n := 1) (hx.blk hb) (by omega)
    simp only [adr, loadA]
    rw [if_neg (by simp), if_neg (by simp)]
    simp only [hc, Bool.false_eq_true, if_false]
    rw [List.head?_take, if_neg (by simp), List.head?_drop, List.getD_eq_getElem?_getD, List.getElem?_take, if_pos (by omega), List.getElem?_drop]
    simp only [Nat.mul_one] at ho ⊢
    rw [List.getElem?_eq_getElem (by omega)]
    rfl

theorem Sl.elemOk (h : Sl H e sz v n cs) {G : Heap} (hx : Ext H G) : AI.elemOk G e v = true := by
  obtain ⟨hl, ⟨rfl, rfl⟩ | ⟨b, off, cap, ro, cells, rfl, hb, ho, rfl⟩⟩ := h
  · rfl
  · unfold AI.elemOk
    simp only [hx.blk hb]
    cases ro <;> simp
theorem Sl.cells (h : Sl H e sz v n cs) : cellsL v = [v] := by
  obtain ⟨hl, ⟨rfl, rfl⟩ | ⟨b, off, cap, ro, cells, rfl, hb, ho, rfl⟩⟩ := h <;> rfl
theorem Sl.plain (h : Sl H e sz v n cs) : plainCell v = true := by
  obtain ⟨hl, ⟨rfl, rfl⟩ | ⟨b, off, cap, ro, cells, rfl, hb, ho, rfl⟩⟩ := h <;> rfl
/-- a part of a slice. -/
theorem Sl.slice (h : Sl H e sz v n cs) {lo hi : Nat} (h1 : lo ≤ hi) (h2 : hi ≤ n) {x y : Option Value} (hx : bnd 0 x = some lo) (hy : bnd n y = some hi) :
    ∃ v', sliceA sz v x y none = some v' ∧ Sl H e sz v' (hi - lo) ((cs.drop (lo * sz)).take ((hi - lo) * sz)) := by
  obtain ⟨hl, ⟨rfl, rfl⟩ | ⟨b, off, cap, ro, cells, rfl, hb, ho, rfl⟩⟩ := h
  · have : lo = 0 := by omega
    have : hi = 0 := by omega
    subst lo hi
    refine ⟨.slice none 0 0, ?_, by simp, .inl ⟨rfl, rfl⟩⟩
    unfold sliceA; simp [hx, hy]; intro h; exact absurd h (by decide)
  · refine ⟨_, by unfold sliceA; simp only [hx, hy]; rw [if_pos ⟨h1, h2⟩]; rfl, ?_, .inr ⟨b, off + lo * sz, _, ro, cells, rfl, hb, ?_, ?_⟩⟩
    · simp only [List.length_take, List.length_drop]
      have e1 : (hi - lo) * sz + lo * sz = hi * sz := by rw [← Nat.add_mul]; congr 1; omega
      have e2 : hi * sz ≤ n * sz := Nat.mul_le_mul_right sz h2
      omega
    · have e1 : (hi - lo) * sz + lo * sz = hi * sz := by rw [← Nat.add_mul]; congr 1; omega
      have e2 : hi * sz ≤ n * sz := Nat.mul_le_mul_right sz h2
      omega
    · have e1 : (hi - lo) * sz + lo * sz = hi * sz := by rw [← Nat.add_mul]; congr 1; omega
      have e2 : hi * sz ≤ n * sz := Nat.mul_le_mul_right sz h2
      rw [List.drop_take, List.take_take, List.drop_drop, Nat.min_eq_left (by omega)]

/-- a block of another kind may be written. -/
theorem Sl.setT (h : Sl H e sz v n cs) {p : Nat} {ro : Bool} {e' : TypeId} {cs' : List Value} {r : Blk} (hb : H.blk p = .row ro e' cs') (hne : e' ≠ e) : Sl (H.setIfInBounds p r) e sz v n cs := by
  obtain ⟨hl, h | ⟨b, off, cap, ro, cells, rfl, hb', ho, rfl⟩⟩ := h
  · exact ⟨hl, .inl h⟩
  · refine ⟨hl, .inr ⟨b, off, cap, ro, cells, rfl, ?_, ho, rfl⟩⟩
    rw [blk_set_ne]; exact hb'
    rintro rfl
    rw [hb'] at hb; cases hb; exact hne rfl

/-! ### limbs -/
def u32s (l : List Nat) : List Value := l.map fun x => .int .u32 (x : Nat)
@[simp] theorem length_u32s {l : List Nat} : (u32s l).length = l.length := by simp [u32s]

/-- v is a slice of the limbs l. -/
def Lim (H : Heap) (v : Value) (l : List Nat) : Prop := Sl H T_uint32 1 v l.length (u32s l) ∧ ∀ x ∈ l, x < 4294967296

variable {l : List Nat}
theorem Lim.mono (h : Lim H v l) (hx : Ext H G) : Lim G v l := ⟨h.1.mono hx, h.2⟩
theorem Lim.nil : Lim H (.slice none 0 0) [] := ⟨Sl.nil, by simp⟩
theorem Lim.slen (h : Lim H v l) : slenV v = some (.int .i64 l.length) := h.1.slen
theorem Lim.ia (h : Lim H v l) {k : IntKind} {j : Nat} (hj : j < l.length) : iaV 1 v (.int k j) = some (adr 1 v j) := h.1.ia hj
theorem Lim.iaZ (h : Lim H v l) {k : IntKind} {z : Int} (h0 : 0 ≤ z) (hj : z < l.length) : iaV 1 v (.int k z) = some (adr 1 v z.toNat) := h.1.iaZ h0 hj
theorem Lim.load (h : Lim H v l) {j : Nat} (hj : j < l.length) {G : Heap} (hx : Ext H G) : loadA G false 1 (adr 1 v j) = some (.int .u32 (l.getD j 0)) := by
  rw [h.1.load1 hx hj]
  simp [u32s, List.getD_eq_getElem?_getD, List.getElem?_map, hj]

theorem Lim.setT (h : Lim H v l) {p : Nat} {ro : Bool} {e' : TypeId} {cs' : List Value} {r : Blk} (hb : H.blk p = .row ro e' cs') (hne : e' ≠ T_uint32) : Lim (H.setIfInBounds p r) v l := ⟨h.1.setT hb hne, h.2⟩
theorem Lim.elemOk (h : Lim H v l) {G : Heap} (hx : Ext H G) : AI.elemOk G T_uint32 v = true := h.1.elemOk hx
theorem Lim.cells (h : Lim H v l) : cellsL v = [v] := h.1.cells
theorem Lim.plain (h : Lim H v l) : plainCell v = true := h.1.plain
theorem Lim.take (h : Lim H v l) {k : Nat} (hk : k ≤ l.length) {x : Option Value} (hx : bnd 0 x = some 0) {y : Option Value} (hy : bnd l.length y = some k) : ∃ v', sliceA 1 v x y none = some v' ∧ Lim H v' (l.take k) := by
  obtain ⟨v', h1, h2⟩ := h.1.slice (Nat.zero_le k) hk hx hy
  refine ⟨v', h1, ?_, fun x hx => h.2 x (List.mem_of_mem_take hx)⟩
  have : (l.take k).length = k := by simp; omega
  rw [this]
  simpa [u32s, List.map_take] using h2

/-- a number as it lies: its sign, its limbs. -/
def IntV (H : Heap) (v : Value) (i : Bool × List Nat) : Prop := ∃ s, v = .agg #[.bool i.1, s] ∧ Lim H s i.2
theorem IntV.mono {i : Bool × List Nat} (h : IntV H v i) (hx : Ext H G) : IntV G v i := by obtain ⟨s, h1, h2⟩ := h; exact ⟨s, h1, h2.mono hx⟩

/-! ### cells of one's own -/
def rd : Blk → Nat → Option Value
  | .row _ _ cs, o => cs[o]?
  | .dead, _ => none
def rdn : Blk → Nat → Nat → Option Value
  | .row _ _ cs, o, n => if o + n ≤ cs.length then some (.agg ((cs.drop o).take n).toArray) else none
  | .dead, _, _ => none
@[simp] theorem rd_row {ro : Bool} {e : TypeId} {cs : List Value} {o : Nat} : rd (.row ro e cs) o = cs[o]? := nr rfl
@[simp] theorem rdn_row {ro : Bool} {e : TypeId} {cs : List Value} {o n : Nat} : rdn (.row ro e cs) o n = if o + n ≤ cs.length then some (.agg ((cs.drop o).take n).toArray) else none := nr rfl
theorem loadA_ptr {b o : Nat} : loadA G false 1 (.pointer (some ⟨b, o, none⟩)) = rd (G.blk b) o := by
  simp only [loadA]
  rw [if_neg (by simp), if_neg (by simp)]
  unfold Heap.cells?
  cases G.blk b with
  | dead => rfl
  | row ro e cs =>
    simp only [Bool.false_eq_true, if_false, rd]
    by_cases h : o + 1 ≤ cs.length
    · rw [if_pos h]; simp only [List.head?_take]; rw [if_neg (by simp), List.head?_drop]
    · rw [if_neg h, List.getElem?_eq_none (by omega)]
theorem loadA_ptrs {b o n : Nat} (hn : 0 < n) : loadA G true n (.pointer (some ⟨b, o, none⟩)) = rdn (G.blk b) o n := by
  simp only [loadA]
  rw [if_neg (by omega), if_neg (by simp)]
  unfold Heap.cells?
  cases G.blk b with
  | dead => rfl
  | row ro e cs =>
    simp only [if_true, rdn]
    split <;> simp_all
def wr (G : Heap) (b o : Nat) (vs : List Value) : Blk → Option Heap
  | .row false e cs => if o + vs.length ≤ cs.length then some (G.setIfInBounds b (.row false e (writeL cs o vs))) else none
  | _ => none
@[simp] theorem wr_row {b o : Nat} {vs : List Value} {e : TypeId} {cs : List Value} : wr G b o vs (.row false e cs) = if o + vs.length ≤ cs.length then some (G.setIfInBounds b (.row false e (writeL cs o vs))) else none := nr rfl
theorem storeV_ptr {b o n : Nat} {x : Value} (hf : fl ≤ b) (hl : (cellsL x).length = n) (hp : (cellsL x).all plainCell = true) :
    storeV fl G n (.pointer (some ⟨b, o, none⟩)) x = wr G b o (cellsL x) (G.blk b) := by
  simp only [storeV]
  rw [if_neg (by simp [hl])]
  unfold Heap.write? wr
  split
  · rename_i h; simp only [h]; split <;> simp_all
  · rename_i h; split <;> simp_all
theorem store_cells {b o n : Nat} {e : TypeId} {cs : List Value} {x : Value} (h : G.blk b = .row false e cs) (hf : fl ≤ b) (hl : (cellsL x).length = n) (ho : o + n ≤ cs.length) (hp : (cellsL x).all plainCell = true) :
    storeV fl G n (.pointer (some ⟨b, o, none⟩)) x = some (G.setIfInBounds b (.row false e (writeL cs o (cellsL x)))) := by
  simp only [storeV]
  rw [if_neg (by simp [hl])]
  unfold Heap.write?
  simp only [h]
  rw [if_pos ⟨hf, by omega, hp⟩]

theorem wrap64 {x : Int} (h1 : -9223372036854775808 ≤ x) (h2 : x < 9223372036854775808) : IntKind.i64.wrap x = x := by
  show (if (true && decide (x % (2 ^ 64 : Int) ≥ (2 ^ 63 : Int))) = true then x % (2 ^ 64 : Int) - (2 ^ 64 : Int) else x % (2 ^ 64 : Int)) = x
  rw [show (2 ^ 64 : Int) = 18446744073709551616 from rfl, show (2 ^ 63 : Int) = 9223372036854775808 from rfl]
  simp only [Bool.true_and, decide_eq_true_eq]
  split <;> omega
theorem wrapu64 {x : Int} : IntKind.u64.wrap x = x % 18446744073709551616 := by
  simp [IntKind.wrap, IntKind.bits, IntKind.signed]
theorem wrapu32 {x : Int} : IntKind.u32.wrap x = x % 4294967296 := by
  simp [IntKind.wrap, IntKind.bits, IntKind.signed]

/-- what a function's results come to. -/
def resP (H : Heap) (t : Tmps) (rs : List SRes) (P : Value → Prop) : Prop := ∃ vs, resAll H t rs = some vs ∧ P (packRes vs)
theorem resP_tmp {a : Nat} {P : Value → Prop} : resP H t [.tmp a] P = P (get t a) := by simp [resP, resAll, resA, packRes]
theorem resP_cell {a n : Nat} {g : Bool} {P : Value → Prop} : resP H t [.cell a g n] P = oo (loadA H g n (get t a)) P := by
  unfold resP; simp only [resAll, resA]; cases loadA H g n (get t a) <;> simp [packRes]
theorem resP_two {r1 r2 : SRes} {P : Value → Prop} : resP H t [r1, r2] P = oo (resA H t r1) fun a => oo (resA H t r2) fun b => P (.tuple #[a, b]) := by
  unfold resP; simp only [resAll]; cases resA H t r1 <;> cases resA H t r2 <;> simp [packRes]
theorem resP_three {r1 r2 r3 : SRes} {P : Value → Prop} : resP H t [r1, r2, r3] P = oo (resA H t r1) fun a => oo (resA H t r2) fun b => oo (resA H t r3) fun c => P (.tuple #[a, b, c]) := by
  unfold resP; simp only [resAll]; cases resA H t r1 <;> cases resA H t r2 <;> cases resA H t r3 <;> simp [packRes]
theorem resA_tmp {a : Nat} : resA H t (.tmp a) = some (get t a) := nr rfl
theorem resA_cell {a n : Nat} {g : Bool} : resA H t (.cell a g n) = loadA H g n (get t a) := nr rfl

/-- where a function's body ends. -/
def endQ (P : Tmps → Heap → Prop) : PostX
  | .exit _, _, _ => False
  | .normal, t, H => P t H
  | .ret, t, H => P t H
@[simp] theorem endQ_normal {P : Tmps → Heap → Prop} : endQ P .normal t H = P t H := nr rfl
@[simp] theorem endQ_ret {P : Tmps → Heap → Prop} : endQ P .ret t H = P t H := nr rfl

/-- of a function that writes to nothing that was there. -/
theorem does_ext {f : FuncId} {args : List Value} {sf : SFun} (hc : E.code f = some sf) (hf : fl ≤ H.size) (hl : args.length = sf.np := by rfl) (hnt : args.length ≤ sf.nt := by exact of_decide_eq_true rfl)
    (h : ∀ ρ : Nat → Value, (∀ i, ρ i = args.getD i undef) → W E H.size sf.body (T sf.nt ρ) H (endQ (fun t' H' => resP H' t' sf.res fun v => Ext H H' → K v H')) R) :
    Does E fl f args H (fun v H' => K v H' ∧ Ext H H') R := by
  have h1 := (does_fun (K := fun v H' => Ext H H' → K v H') hc hl hnt (fun t h1 h2 => by
    have h3 := h (get t) h2
    rw [← T_get h1] at h3
    refine h3.mono fun e t' H' hq => ?_
    cases e with
    | exit i => exact absurd hq id
    | normal => exact ⟨trivial, hq⟩
    | ret => exact ⟨trivial, hq⟩)).keep (Nat.le_refl _)
  exact (h1.mono fun v H' hh => ⟨hh.1 hh.2.ext, hh.2.ext⟩).floor hf

end Go.Proofs.YtjlohmnnldbjoaaGreat.AI

/- The set of rules that simp runs code by. -/
namespace Go.Proofs.YtjlohmnnldbjoaaGreat.AI
open Go

section
variable {k : IntKind} {a b : Int} {tag : Nat}
@[simp] theorem binA_add : binA tag .add (.int k a) (.int k b) = some (.int k (k.wrap (a + b))) := by unfold binA; simp
@[simp] theorem binA_sub : binA tag .sub (.int k a) (.int k b) = some (.int k (k.wrap (a - b))) := by unfold binA; simp
@[simp] theorem binA_mul : binA tag .mul (.int k a) (.int k b) = some (.int k (k.wrap (a * b))) := by unfold binA; simp
theorem binA_quo (h : b ≠ 0) : binA tag .quo (.int k a) (.int k b) = some (.int k (k.wrap (a.tdiv b))) := by unfold binA; simp [h]
theorem binA_rem (h : b ≠ 0) : binA tag .rem (.int k a) (.int k b) = some (.int k (a.tmod b)) := by unfold binA; simp [h]
@[simp] theorem binA_and : binA tag .and (.int k a) (.int k b) = some (.int k (k.wrap (BitVec.ofInt k.bits a &&& BitVec.ofInt k.bits b).toNat)) := by unfold binA; simp
@[simp] theorem binA_or : binA tag .or (.int k a) (.int k b) = some (.int k (k.wrap (BitVec.ofInt k.bits a ||| BitVec.ofInt k.bits b).toNat)) := by unfold binA; simp
@[simp] theorem binA_eql : binA tag .eql (.int k a) (.int k b) = some (.bool (a == b)) := by unfold binA; simp
@[simp] theorem binA_neq : binA tag .neq (.int k a) (.int k b) = some (.bool (a != b)) := by unfold binA; simp
@[simp] theorem binA_lss : binA tag .lss (.int k a) (.int k b) = some (.bool (decide (a < b))) := by unfold binA; simp
@[simp] theorem binA_leq : binA tag .leq (.int k a) (.int k b) = some (.bool (decide (a ≤ b))) := by unfold binA; simp
@[simp] theorem binA_gtr : binA tag .gtr (.int k a) (.int k b) = some (.bool (decide (a > b))) := by unfold binA; simp
@[simp] theorem binA_geq : binA tag .geq (.int k a) (.int k b) = some (.bool (decide (a ≥ b))) := by unfold binA; simp
@[simp] theorem binA_eqlB {x y : Bool} : binA 1 .eql (.bool x) (.bool y) = some (.bool (x == y)) := by unfold binA; simp
@[simp] theorem binA_neqB {x y : Bool} : binA 1 .neq (.bool x) (.bool y) = some (.bool (x != y)) := by unfold binA; simp
@[simp] theorem binA_eqlS {x : Option Addr} {n c n2 c2 : Nat} : binA 2 .eql (.slice x n c) (.slice none n2 c2) = some (.bool x.isNone) := nr rfl
@[simp] theorem binA_neqS {x : Option Addr} {n c n2 c2 : Nat} : binA 2 .neq (.slice x n c) (.slice none n2 c2) = some (.bool x.isSome) := nr rfl
theorem binA_shl {k' : IntKind} (h : 0 ≤ b) : binA tag .shl (.int k a) (.int k' b) = some (.int k (k.wrap (a * 2 ^ (min b.toNat k.bits)))) := by unfold binA; simp [h]
theorem binA_shr {k' : IntKind} (h : 0 ≤ b) : binA tag .shr (.int k a) (.int k' b) = some (.int k (a.fdiv (2 ^ (min b.toNat k.bits)))) := by unfold binA; simp [h]
theorem fdivN {n m : Nat} : ((n : Int).fdiv (m : Int)) = ((n / m : Nat) : Int) := by
  rw [Int.fdiv_eq_ediv_of_nonneg _ (by omega)]; rfl
@[simp] theorem shr32 {n : Nat} {k' : IntKind} : binA tag .shr (.int .u64 (n : Int)) (.int k' 32) = some (.int .u64 ((n / 4294967296 : Nat) : Int)) := by
  rw [binA_shr (by omega)]; exact congrArg (fun x => some (Value.int .u64 x)) (fdivN (n := n) (m := 4294967296))
@[simp] theorem shr63 {n : Nat} {k' : IntKind} : binA tag .shr (.int .u64 (n : Int)) (.int k' 63) = some (.int .u64 ((n / 9223372036854775808 : Nat) : Int)) := by
  rw [binA_shr (by omega)]; exact congrArg (fun x => some (Value.int .u64 x)) (fdivN (n := n) (m := 9223372036854775808))
@[simp] theorem unA_neg : unA .neg (.int k a) = some (.int k (k.wrap (0 - a))) := nr rfl
@[simp] theorem unA_not {x : Bool} : unA .not (.bool x) = some (.bool !x) := nr rfl
end

@[simp] theorem cast_beq {a b : Nat} : ((a : Int) == (b : Int)) = (a == b) := by
  rw [Bool.eq_iff_iff, beq_iff_eq, beq_iff_eq]; omega
@[simp] theorem cast_bne {a b : Nat} : ((a : Int) != (b : Int)) = (a != b) := by simp only [bne, cast_beq]
@[simp] theorem cast_beq0 {a : Nat} : ((a : Int) == 0) = (a == 0) := by
  rw [Bool.eq_iff_iff, beq_iff_eq, beq_iff_eq]; omega
@[simp] theorem cast_bne0 {a : Nat} : ((a : Int) != 0) = (a != 0) := by simp only [bne, cast_beq0]

@[simp] theorem cells_agg {a : Array Value} : cellsL (.agg a) = a.toList := nr rfl
@[simp] theorem cells_int {k : IntKind} {n : Int} : cellsL (.int k n) = [.int k n] := nr rfl
@[simp] theorem cells_bool {b : Bool} : cellsL (.bool b) = [.bool b] := nr rfl
@[simp] theorem cells_slice {a : Option Addr} {n c : Nat} : cellsL (.slice a n c) = [.slice a n c] := nr rfl
@[simp] theorem cells_ptr {a : Option Addr} : cellsL (.pointer a) = [.pointer a] := nr rfl
@[simp] theorem plain_int {k : IntKind} {n : Int} : plainCell (.int k n) = true := nr rfl
@[simp] theorem plain_bool {b : Bool} : plainCell (.bool b) = true := nr rfl
@[simp] theorem plain_slice {a : Option Addr} {n c : Nat} : plainCell (.slice a n c) = true := nr rfl
@[simp] theorem plain_ptr {a : Option Addr} : plainCell (.pointer a) = true := nr rfl
@[simp] theorem bnd_none {d : Nat} : bnd d none = some d := nr rfl
@[simp] theorem bnd_int {d n : Nat} {k : IntKind} : bnd d (some (.int k (n : Int))) = some n := by simp [bnd]
@[simp] theorem add_2 {n : Nat} : n + 1 + 1 = n + 2 := by omega
@[simp] theorem add_3 {n : Nat} : n + 2 + 1 = n + 3 := by omega
@[simp] theorem add_4 {n : Nat} : n + 3 + 1 = n + 4 := by omega
@[simp] theorem add_5 {n : Nat} : n + 4 + 1 = n + 5 := by omega
@[simp] theorem add_6 {n : Nat} : n + 5 + 1 = n + 6 := by omega
@[simp] theorem add_1_2 {n : Nat} : n + 1 + 2 = n + 3 := by omega
@[simp] theorem add_1_3 {n : Nat} : n + 1 + 3 = n + 4 := by omega
@[simp] theorem add_1_4 {n : Nat} : n + 1 + 4 = n + 5 := by omega
@[simp] theorem add_1_5 {n : Nat} : n + 1 + 5 = n + 6 := by omega
@[simp] theorem add_1_6 {n : Nat} : n + 1 + 6 = n + 7 := by omega
@[simp] theorem add_2_2 {n : Nat} : n + 2 + 2 = n + 4 := by omega
@[simp] theorem add_2_3 {n : Nat} : n + 2 + 3 = n + 5 := by omega
@[simp] theorem add_2_4 {n : Nat} : n + 2 + 4 = n + 6 := by omega
@[simp] theorem add_2_5 {n : Nat} : n + 2 + 5 = n + 7 := by omega
@[simp] theorem add_2_6 {n : Nat} : n + 2 + 6 = n + 8 := by omega
@[simp] theorem add_3_2 {n : Nat} : n + 3 + 2 = n + 5 := by omega
@[simp] theorem add_3_3 {n : Nat} : n + 3 + 3 = n + 6 := by omega
@[simp] theorem add_3_4 {n : Nat} : n + 3 + 4 = n + 7 := by omega
@[simp] theorem add_3_5 {n : Nat} : n + 3 + 5 = n + 8 := by omega
@[simp] theorem add_3_6 {n : Nat} : n + 3 + 6 = n + 9 := by omega
@[simp] theorem add_4_2 {n : Nat} : n + 4 + 2 = n + 6 := by omega
@[simp] theorem add_4_3 {n : Nat} : n + 4 + 3 = n + 7 := by omega
@[simp] theorem add_4_4 {n : Nat} : n + 4 + 4 = n + 8 := by omega
@[simp] theorem add_4_5 {n : Nat} : n + 4 + 5 = n + 9 := by omega
@[simp] theorem add_4_6 {n : Nat} : n + 4 + 6 = n + 10 := by omega
@[simp] theorem add_5_2 {n : Nat} : n + 5 + 2 = n + 7 := by omega
@[simp] theorem add_5_3 {n : Nat} : n + 5 + 3 = n + 8 := by omega
@[simp] theorem add_5_4 {n : Nat} : n + 5 + 4 = n + 9 := by omega
@[simp] theorem add_5_5 {n : Nat} : n + 5 + 5 = n + 10 := by omega
@[simp] theorem add_5_6 {n : Nat} : n + 5 + 6 = n + 11 := by omega
@[simp] theorem add_6_1 {n : Nat} : n + 6 + 1 = n + 7 := by omega
@[simp] theorem add_6_2 {n : Nat} : n + 6 + 2 = n + 8 := by omega
@[simp] theorem add_6_3 {n : Nat} : n + 6 + 3 = n + 9 := by omega
@[simp] theorem add_6_4 {n : Nat} : n + 6 + 4 = n + 10 := by omega
@[simp] theorem add_6_5 {n : Nat} : n + 6 + 5 = n + 11 := by omega
@[simp] theorem add_6_6 {n : Nat} : n + 6 + 6 = n + 12 := by omega
def wantB (w : Bool) : Value → Bool
  | .bool b => b == w
  | _ => false
@[simp] theorem wantB_bool {w b : Bool} : wantB w (.bool b) = (b == w) := nr rfl
@[simp ↓] theorem WR_g {E : Env} {fl : Nat} {t : Tmps} {H : Heap} {R : PostP} {d : Option Nat} {op : SOp} {r : List SOper} {Z : Tmps → Heap → Prop} {j : Nat} {w : Bool} :
    WR E fl (⟨d, some (j, w), op⟩ :: r) t H Z R = if wantB w (get t j) = true then WS E fl t H op (fun v H' => WR E fl r (put t d v) H' Z R) R else WR E fl r (put t d undef) H Z R := by
  have h : isWanted t (some (j, w)) = wantB w (get t j) := by
    simp only [isWanted]
    generalize get t j = v
    cases v <;> rfl
  show (if isWanted t (some (j, w)) = true then _ else _) = _
  rw [h]

attribute [simp ↓] WS_mv WS_pick WS_bin WS_un WS_conv WS_len WS_ia WS_ext WS_fa WS_fld WS_iface WS_mkfn WS_build WS_load WS_mnx WS_sl WS_alloc WS_box WS_lit WS_mk WS_store WS_app WS_call WR_nil WR_cons
attribute [simp ↓] We_seq We_skip We_exit We_ret We_cond We_block We_reg
attribute [simp] resP_tmp resP_cell resP_two resP_three resA_tmp resA_cell storeV_ptr blk_set_self blk_set_ne
attribute [simp] put_T get_Ti upd_app
attribute [simp] blk_push_self blk_push_lt loadA_ptr loadA_ptrs Ext.refl Ext.push Ext.set fillL evParts repl writeL
attribute [simp low] blk_push
attribute [congr] WR_congr Does_congr W_congr WS_congr oo_congr

/-- what is so where a loop's body ends. -/
def loopQ (i : Nat) (A M : Tmps → Heap → Prop) (Q : PostX) : PostX
  | .normal, t, H => A t H
  | .exit j, t, H => if j = i then M t H else Q (.exit j) t H
  | .ret, t, H => Q .ret t H
section
variable {E : Env} {fl : Nat} {t : Tmps} {H : Heap} {Q : PostX} {R : PostP}
@[simp] theorem loopQ_normal {i : Nat} {A M : Tmps → Heap → Prop} : loopQ i A M Q .normal t H = A t H := nr rfl
@[simp] theorem loopQ_exit {i j : Nat} {A M : Tmps → Heap → Prop} : loopQ i A M Q (.exit j) t H = if j = i then M t H else Q (.exit j) t H := nr rfl
@[simp] theorem loopQ_ret {i : Nat} {A M : Tmps → Heap → Prop} : loopQ i A M Q .ret t H = Q .ret t H := nr rfl
/-- what holds in the middle. -/
theorem W_mid {a : SCode} {Z : Tmps → Heap → Prop} (M : Tmps → Heap → Prop) (h : W E fl a t H (thenW M Q) R) (hz : ∀ t H, M t H → Z t H) : W E fl a t H (thenW Z Q) R := by
  refine h.mono fun e t' H' hq => ?_
  cases e with
  | normal => exact hz _ _ hq
  | exit i => exact hq
  | ret => exact hq
/-- a loop, what holds whenever it begins anew, what holds behind it. -/
theorem W_loopM {c : SCode} {i : Nat} {Z : Tmps → Heap → Prop} (I : Nat → Tmps → Heap → Prop) (M : Tmps → Heap → Prop) (k : Nat) (hI : I k t H)
    (step : ∀ k t H, I k t H → W E fl c t H (loopQ i (fun t' H' => ∃ k', k' < k ∧ I k' t' H') M Q) R)
    (rest : ∀ t H, M t H → Z t H) : W E fl (.loop c) t H (blockW i (thenW Z Q)) R := by
  refine W_loop I (fun k t H h => (step k t H h).mono fun e t' H' hq => ?_) k hI
  cases e with
  | normal => exact hq
  | ret => exact hq
  | exit j =>
    simp only [loopQ] at hq
    simp only [thenW, blockW]
    split
    · rename_i hj; rw [if_pos hj] at hq; exact rest _ _ hq
    · rename_i hj; rw [if_neg hj] at hq; exact hq
end

end Go.Proofs.YtjlohmnnldbjoaaGreat.AI

/- Slices that a function may write: append, make. -/
namespace Go.Proofs.YtjlohmnnldbjoaaGreat.AI
open Go

variable {fl : Nat} {H G : Heap} {e e2 sz n m bytes : Nat} {s x : Value} {cs new : List Value}

/-- the block that a slice lies in. -/
def slB : Value → Option Nat
  | .slice (some p) _ _ => some p.block
  | _ => none

/-- a slice that is all of a block of one's own. -/
def Own (fl : Nat) (H : Heap) (e sz : Nat) (v : Value) (n : Nat) (cs : List Value) : Prop :=
  cs.length = n * sz ∧ ((v = .slice none 0 0 ∧ n = 0) ∨ ∃ b cap, v = .slice (some ⟨b, 0, none⟩) n cap ∧ H.blk b = .row false e cs ∧ fl ≤ b)

theorem Own.nil : Own fl H e sz (.slice none 0 0) 0 [] := ⟨by simp, .inl ⟨rfl, rfl⟩⟩
theorem Own.mk {b cap : Nat} (hb : H.blk b = .row false e cs) (hl : cs.length = n * sz) (hf : fl ≤ b) : Own fl H e sz (.slice (some ⟨b, 0, none⟩) n cap) n cs := ⟨hl, .inr ⟨b, cap, rfl, hb, hf⟩⟩
theorem Own.sl (h : Own fl H e sz s n cs) : Sl H e sz s n cs := by
  obtain ⟨hl, h | ⟨b, cap, rfl, hb, hf⟩⟩ := h
  · exact ⟨hl, .inl h⟩
  · exact ⟨hl, .inr ⟨b, 0, cap, false, cs, rfl, hb, by omega, by rw [List.drop_zero, ← hl, List.take_length]⟩⟩
theorem Own.mono (h : Own fl H e sz s n cs) (hx : Ext H G) : Own fl G e sz s n cs := by
  obtain ⟨hl, h | ⟨b, cap, rfl, hb, hf⟩⟩ := h
  · exact ⟨hl, .inl h⟩
  · exact ⟨hl, .inr ⟨b, cap, rfl, hx.blk hb, hf⟩⟩

/-- what lies besides a slice's block stays. -/
def ExtB (o : Option Nat) (H G : Heap) : Prop := H.size ≤ G.size ∧ ∀ b, b < H.size → o ≠ some b → G.blk b = H.blk b
theorem Ext.extB {o : Option Nat} (h : Ext H G) : ExtB o H G := ⟨h.1, fun b hb _ => h.2 b hb⟩

theorem app_own (ho : Own fl G e sz s n cs) (hx : Sl G e2 sz x m new) (hp : new.all plainCell = true) (hn : n + m ≤ 1073741824) (hb : bytes ≤ 1024) (hs : 0 < sz) (hfl : fl ≤ G.size) :
    ∃ v' G', appA fl G e sz bytes s x = some (v', G') ∧ Own fl G' e sz v' (n + m) (cs ++ new) ∧ ExtB (slB s) G G' ∧ (∀ H0, H0.size ≤ fl → Ext H0 G → Ext H0 G') := by
  obtain ⟨hxl, hx⟩ := hx
  have hol := ho.1
  by_cases hm : m = 0
  · subst hm
    have hnew : new = [] := List.length_eq_zero_iff.1 (by omega)
    subst hnew
    refine ⟨s, G, ?_, by simpa using ho, (Ext.refl G).extB, fun _ _ h => h⟩
    rcases hx with ⟨rfl, _⟩ | ⟨b, off, cap, ro, cells, rfl, _⟩ <;> rcases ho.2 with ⟨rfl, rfl⟩ | ⟨b', cap', rfl, _⟩ <;> simp [appA]
  · rcases hx with ⟨_, h0⟩ | ⟨b, off, cap, ro, cells, rfl, hbk, ho1, ho2⟩
    · exact absurd h0 hm
    have hc := cells_of hbk ho1
    rw [← ho2] at hc
    rcases ho.2 with ⟨rfl, rfl⟩ | ⟨b', cap', rfl, hb', hf'⟩
    · have hcs : cs = [] := List.length_eq_zero_iff.1 (by omega)
      subst hcs
      refine ⟨.slice (some ⟨G.size, 0, none⟩) m unk, G.push (.row false e new), ?_, ?_, (Ext.push (Ext.refl G)).extB, fun _ _ h => h.push⟩
      · unfold appA
        simp only
        rw [if_neg hm, if_pos ⟨by omega, hb, hs⟩]
        simp only [hc, hp, Bool.true_eq_false, if_false]
        rw [if_pos ⟨by trivial, by trivial⟩]
      · rw [Nat.zero_add]; exact Own.mk blk_push_self (by simpa using hxl) hfl
    · have hb'l := blk_lt hb'
      have hc2 : G.cells? b' 0 (n * sz) = some cs := by
        rw [cells_of hb' (by omega), List.drop_zero, ← hol, List.take_length]
      by_cases hcap : cap' ≠ unk ∧ cap' < n + m
      · refine ⟨.slice (some ⟨G.size, 0, none⟩) (n + m) unk, G.push (.row false e (cs ++ new)), ?_, ?_, (Ext.push (Ext.refl G)).extB, fun _ _ h => h.push⟩
        · unfold appA
          simp only
          rw [if_neg hm, if_pos ⟨by omega, hb, hs⟩]
          simp only [hc, hp, Bool.true_eq_false, if_false, hc2]
          by_cases h00 : n = 0 ∧ cap' = 0
          · rw [if_pos h00]
            have hcs : cs = [] := List.length_eq_zero_iff.1 (by rw [hol, h00.1]; simp)
            rw [hcs, h00.1]; simp
          · rw [if_neg h00, if_pos hcap]
        · exact Own.mk blk_push_self (by rw [List.length_append, hol, hxl, Nat.add_mul]) hfl
      · refine ⟨.slice (some ⟨G.size, 0, none⟩) (n + m) unk, (G.setIfInBounds b' .dead).push (.row false e (cs ++ new)), ?_, ?_, ?_, ?_⟩
        · unfold appA
          simp only
          rw [if_neg hm, if_pos ⟨by omega, hb, hs⟩]
          simp only [hc, hp, Bool.true_eq_false, if_false, hc2]
          rw [if_neg (fun h00 : n = 0 ∧ cap' = 0 => hcap ⟨by rw [h00.2]; decide, by omega⟩), if_neg hcap]
          simp only [hb']
          rw [if_pos ⟨trivial, hf'⟩]
        · exact Own.mk (by rw [blk_push]; simp) (by rw [List.length_append, hol, hxl, Nat.add_mul]) hfl
        · refine ⟨by simp, fun c hc hne => ?_⟩
          have : b' ≠ c := fun h => hne (by simp [slB, h])
          rw [blk_push_lt (by simpa using hc), blk_set_ne this]
        · intro H0 h1 h2
          exact (h2.set (by omega)).push

/-- one more element, laid by a literal. -/
theorem app_lit {c : Nat} (ho : Own fl G e sz s n cs) (hl : new.length = sz) (hp : new.all plainCell = true) (hn : n < 1073741824) (hb : bytes ≤ 1024) (hs : 0 < sz) (hfl : fl ≤ G.size) :
    ∃ v' G', appA fl (G.push (.row false e2 new)) e sz bytes s (.slice (some ⟨G.size, 0, none⟩) 1 c) = some (v', G') ∧ Own fl G' e sz v' (n + 1) (cs ++ new) ∧ ExtB (slB s) G G' ∧ (∀ H0, H0.size ≤ fl → Ext H0 G → Ext H0 G') := by
  have hx : Sl (G.push (.row false e2 new)) e2 sz (.slice (some ⟨G.size, 0, none⟩) 1 c) 1 new := (Own.mk (fl := 0) blk_push_self (by omega) (Nat.zero_le _)).sl
  obtain ⟨v', G', h1, h2, h3, h4⟩ := app_own (ho.mono (Ext.push (Ext.refl G))) hx hp (by omega) hb hs (bytes := bytes) (by simp; omega)
  refine ⟨v', G', h1, h2, ⟨?_, fun b hb hne => ?_⟩, fun H0 k1 k2 => h4 H0 k1 k2.push⟩
  · have := h3.1; simp at this; omega
  · rw [h3.2 b (by simp; omega) hne, blk_push_lt hb]

@[simp] theorem u32s_append {a b : List Nat} : u32s (a ++ b) = u32s a ++ u32s b := by simp [u32s]
theorem plain_u32s {l : List Nat} : (u32s l).all plainCell = true := by simp [u32s, plainCell]

end Go.Proofs.YtjlohmnnldbjoaaGreat.AI

/- num: what its functions answer. -/
namespace Go.Proofs.YtjlohmnnldbjoaaGreat.AI
open Go

variable {fl : Nat} {H : Heap} {R : PostP} {v : Value} {i : Bool × List Nat}

/-- may a number be? -/
def mayB (i : Bool × List Nat) : Bool := if i.2.length = 0 then !i.1 else i.2.getD (i.2.length - 1) 0 != 0

theorem num_May_does (h : IntV H v i) (hf : fl ≤ H.size) (hn : i.2.length < 4611686018427387904) :
    Does env fl f_131 [v] H (fun r H' => r = .bool (mayB i) ∧ Ext H H') R := by
  obtain ⟨s, rfl, hs⟩ := h
  refine does_ext e_131 hf (h := ?_)
  intro ρ h0
  simp [s_131]
  simp [r_131_0, r_131_1, r_131_2, r_131_3, h0]
  simp (disch := first | omega | assumption | (simp; done) | (repeat (first | assumption | exact Ext.refl _ | apply Ext.push | apply Ext.set))) [hs.slen, hs.iaZ, hs.load, wrap64]
  refine ⟨fun h => by simp [mayB, h], fun h => ?_⟩
  have hl := List.length_pos_iff.2 h
  simp (disch := first | omega | assumption | (simp; done) | (repeat (first | assumption | exact Ext.refl _ | apply Ext.push | apply Ext.set))) [hs.iaZ, hs.load, mayB, h]

/-- the limbs that count. -/
def limbsL (i : Bool × List Nat) : List Nat := if mayB i then i.2 else []

theorem num_limbs_does (h : IntV H v i) (hf : fl ≤ H.size) (hn : i.2.length < 4611686018427387904) :
    Does env fl f_119 [v] H (fun r H' => Lim H' r (limbsL i) ∧ Ext H H') R := by
  obtain ⟨s, rfl, hs⟩ := h
  refine does_ext e_119 hf (h := ?_)
  intro ρ h0
  simp [s_119]
  simp [r_119_0, r_119_1, r_119_2, r_119_3, h0]
  refine (num_May_does ⟨s, rfl, hs.mono (by simp)⟩ (by simp) hn).mono ?_
  rintro _ G ⟨rfl, hx⟩
  simp [hx.2, limbsL]
  exact ⟨fun h _ => by simp [h, Lim.nil], fun h hx => by simp [h, hs.mono hx]⟩

/-- below nought? -/
def negB (i : Bool × List Nat) : Bool := mayB i && i.1

theorem num_neg_does (h : IntV H v i) (hf : fl ≤ H.size) (hn : i.2.length < 4611686018427387904) :
    Does env fl f_120 [v] H (fun r H' => r = .bool (negB i) ∧ Ext H H') R := by
  obtain ⟨s, rfl, hs⟩ := h
  refine does_ext e_120 hf (h := ?_)
  intro ρ h0
  simp [s_120]
  simp [r_120_0, r_120_1, h0]
  refine (num_May_does ⟨s, rfl, hs.mono (by simp)⟩ (by simp) hn).mono ?_
  rintro _ G ⟨rfl, hx⟩
  cases hm : mayB i <;> simp [hx.2, negB, h0, hm]

theorem num_low_uint64_does {x : Nat} (hf : fl ≤ H.size) :
    Does env fl f_125 [.int .u64 x] H (fun r H' => r = .int .u32 ((x % 4294967296 : Nat) : Int) ∧ Ext H H') R := by
  refine does_ext e_125 hf (h := ?_)
  intro ρ h0
  simp [s_125]
  simp [r_125_0, r_125_1, h0, wrapu32]

/-- the order of two. -/
def cmpZ (a b : Int) : Int := if a < b then -1 else if a > b then 1 else 0

theorem num_order_int_does {a b : Int} (hf : fl ≤ H.size) :
    Does env fl f_154 [.int .i64 a, .int .i64 b] H (fun r H' => r = .int .i64 (cmpZ a b) ∧ Ext H H') R := by
  refine does_ext e_154 hf (h := ?_)
  intro ρ h0
  simp [s_154]
  simp [r_154_0, r_154_1, r_154_2, r_154_3, r_154_4, r_154_5, h0, cmpZ]
  refine ⟨fun h1 h2 => ?_, fun h1 => ⟨fun h2 => ?_, fun h2 => ?_⟩⟩ <;> (repeat' split) <;> omega
theorem num_order_uint32_does {a b : Int} (hf : fl ≤ H.size) :
    Does env fl f_155 [.int .u32 a, .int .u32 b] H (fun r H' => r = .int .i64 (cmpZ a b) ∧ Ext H H') R := by
  refine does_ext e_155 hf (h := ?_)
  intro ρ h0
  simp [s_155]
  simp [r_155_0, r_155_1, r_155_2, r_155_3, r_155_4, r_155_5, h0, cmpZ]
  refine ⟨fun h1 h2 => ?_, fun h1 => ⟨fun h2 => ?_, fun h2 => ?_⟩⟩ <;> (repeat' split) <;> omega

/-! ### slices.Clone, made -/
theorem Clone_does {l : List Nat} (h : Lim H v l) (hf : fl ≤ H.size) (hn : l.length ≤ 1073741824) :
    Does env fl f_153 [v] H (fun r H' => Lim H' r l ∧ Ext H H') R := by
  refine does_ext e_153 hf (h := ?_)
  intro ρ h0
  simp [s_153]
  simp [r_153_0, r_153_1, r_153_2, r_153_3, h0]
  have hd := h
  obtain ⟨⟨hl, ⟨rfl, h2⟩ | ⟨b, off, cap, ro, cells, rfl, hb, ho, hcs⟩⟩, hx⟩ := h
  · have : l = [] := List.length_eq_zero_iff.1 h2
    subst this
    simp [Lim.nil]
  · simp
    have ho2 : Own H.size (H.push (.row false T_uint32 [])) T_uint32 1 (.slice (some ⟨H.size, 0, none⟩) 0 0) 0 [] := Own.mk blk_push_self (by simp) (Nat.le_refl _)
    obtain ⟨v', G', h1, h2, h3, h4⟩ := app_own (bytes := 4) ho2 ((hd.mono (Ext.push (Ext.refl H))).1) plain_u32s (by omega) (by omega) (by omega) (by simp)
    simp only [Nat.zero_add, List.nil_append] at h2
    simp [h1]
    exact fun _ => ⟨h2.sl, hx⟩
end Go.Proofs.YtjlohmnnldbjoaaGreat.AI

/- num.made. -/
namespace Go.Proofs.YtjlohmnnldbjoaaGreat.AI
open Go

variable {fl : Nat} {H : Heap} {R : PostP} {v : Value} {i : Bool × List Nat} {l : List Nat}

/-- limbs without noughts on top. -/
def trimL (l : List Nat) : List Nat := (l.reverse.dropWhile (· == 0)).reverse
theorem trimL_nil : trimL [] = [] := rfl
theorem trimL_snoc0 : trimL (l ++ [0]) = trimL l := by simp [trimL]
theorem trimL_snoc {x : Nat} (h : x ≠ 0) : trimL (l ++ [x]) = l ++ [x] := by simp [trimL, h]
/-- a number of a sign and limbs. -/
def mkI (neg : Bool) (l : List Nat) : Bool × List Nat := if trimL l = [] then (false, []) else (neg, trimL l)

theorem take_succ_getD {n : Nat} (h : n < l.length) : l.take (n + 1) = l.take n ++ [l.getD n 0] := by
  rw [List.take_add_one, List.getElem?_eq_getElem h, List.getD_eq_getElem?_getD, List.getElem?_eq_getElem h]; rfl

theorem num_made_does {b : Bool} (h : Lim H v l) (hf : fl ≤ H.size) (hn : l.length ≤ 1073741824) :
    Does env fl f_121 [.bool b, v] H (fun r H' => IntV H' r (mkI b l) ∧ Ext H H') R := by
  refine does_ext e_121 hf (h := ?_)
  intro ρ h0
  simp [s_121]
  simp [r_121_0, r_121_1, h0, h.slen]
  refine W_loopM (fun k t G => G = H.push (.row false T_api_Int [.bool false, .slice none 0 0]) ∧ t.length = 29 ∧ get t 0 = .bool b ∧ get t 1 = v ∧ get t 4 = .pointer (some ⟨H.size, 0, none⟩) ∧
      get t 5 = .int .i64 k ∧ k ≤ l.length ∧ trimL (l.take k) = trimL l)
    (fun t G => ∃ k : Nat, G = H.push (.row false T_api_Int [.bool false, .slice none 0 0]) ∧ t.length = 29 ∧ get t 0 = .bool b ∧ get t 1 = v ∧ get t 4 = .pointer (some ⟨H.size, 0, none⟩) ∧
      get t 5 = .int .i64 k ∧ k ≤ l.length ∧ trimL l = l.take k) l.length (by simp [h0]) ?_ ?_
  · rintro k t G ⟨rfl, ht, g0, g1, g4, g5, hk, htr⟩
    obtain ⟨ρ, rfl⟩ := toT ht
    simp only [get_T, Nat.reduceLT] at g0 g1 g4 g5
    by_cases hk0 : k = 0
    · subst hk0
      simp [r_121_2, g0, g1, g4, g5]
      exact ⟨0, by simp, by simp, by rw [← htr]; rfl⟩
    · have hp : 0 < k := by omega
      have w1 : IntKind.i64.wrap ((k : Int) - 1) = ((k - 1 : Nat) : Int) := by rw [wrap64 (by omega) (by omega)]; omega
      simp [r_121_2, r_121_3, g0, g1, g4, g5, hp, w1, h.ia (show k - 1 < l.length by omega), h.load (show k - 1 < l.length by omega)]
      have hk1 : l.take k = l.take (k - 1) ++ [l.getD (k - 1) 0] := by rw [← take_succ_getD (by omega)]; congr 1; omega
      rw [List.getD_eq_getElem?_getD] at hk1
      refine ⟨fun hz => ⟨k - 1, by omega, rfl, by omega, ?_⟩, fun hz => ⟨k, rfl, hk, ?_⟩⟩
      · rw [← htr, hk1, hz, trimL_snoc0]
      · rw [← htr, hk1, trimL_snoc hz]
  · rintro t G ⟨k, rfl, ht, g0, g1, g4, g5, hk, htr⟩
    obtain ⟨ρ, rfl⟩ := toT ht
    simp only [get_T, Nat.reduceLT] at g0 g1 g4 g5
    obtain ⟨v', h1, h2⟩ := h.take hk (x := none) rfl (y := some (.int .i64 (k : Int))) (by simp)
    simp [r_121_4, r_121_5, r_121_6, g0, g1, g4, g5, h.elemOk, h1]
    refine ⟨fun hk0 => ⟨.slice none 0 0, by simp [mkI, htr, hk0], by simp [mkI, htr, hk0, Lim.nil]⟩, fun hk0 => ?_⟩
    refine (Clone_does (h2.mono (by simp)) (by simp) (by simp; omega)).mono ?_
    rintro r G ⟨hr, hx⟩
    have hlt : H.size < G.size := by have := hx.1; simp at this; omega
    simp [hr.cells, hr.plain, hx.2, hlt]
    have hl0 : l ≠ [] := by rintro rfl; exact hk0 (by simpa using hk)
    refine fun _ => ⟨r, ?_, ?_⟩
    · simp [mkI, htr, hk0, hl0]
    · have : (mkI b l).2 = l.take k := by simp [mkI, htr, hk0, hl0]
      rw [this]
      exact hr.setT (by rw [hx.2 _ (by simp)]; exact blk_push_self) (by decide)
end Go.Proofs.YtjlohmnnldbjoaaGreat.AI

/- Limbs and numbers: plain laws. -/
namespace Go.Proofs.YtjlohmnnldbjoaaGreat.AI
open Go

/-- what limbs come to, the lowest first. -/
def natL : List Nat → Nat
  | [] => 0
  | x :: l => x + 4294967296 * natL l

def LimOk (l : List Nat) : Prop := ∀ x ∈ l, x < 4294967296

theorem natL_append : ∀ (a b : List Nat), natL (a ++ b) = natL a + 4294967296 ^ a.length * natL b
  | [], b => by simp [natL]
  | x :: a, b => by
    simp only [List.cons_append, natL, natL_append a b, List.length_cons, Nat.pow_succ]
    rw [Nat.mul_add, ← Nat.mul_assoc, Nat.mul_comm (4294967296 ^ a.length) 4294967296, Nat.add_assoc]
theorem natL_snoc (a : List Nat) (x : Nat) : natL (a ++ [x]) = natL a + 4294967296 ^ a.length * x := by rw [natL_append]; simp [natL]
theorem natL_lt : ∀ (l : List Nat), LimOk l → natL l < 4294967296 ^ l.length
  | [], _ => by simp [natL]
  | x :: l, h => by
    have h1 := natL_lt l (fun y hy => h y (List.mem_cons_of_mem _ hy))
    have h2 := h x (List.mem_cons_self ..)
    simp only [natL, List.length_cons, Nat.pow_succ]
    omega

theorem trimL_cons (x : Nat) (l : List Nat) : trimL (x :: l) = if trimL l = [] ∧ x = 0 then [] else x :: trimL l := by
  unfold trimL
  rw [List.reverse_cons, List.dropWhile_append]
  by_cases h : (List.dropWhile (fun x => x == 0) l.reverse).isEmpty = true
  · rw [if_pos h]
    have h' : List.dropWhile (fun x => x == 0) l.reverse = [] := by simpa using h
    rw [h']
    by_cases hx : x = 0 <;> simp [hx]
  · rw [if_neg h]
    have h' : List.dropWhile (fun x => x == 0) l.reverse ≠ [] := by simpa using h
    rw [if_neg (by simp [h'])]
    simp

theorem natL_zero : ∀ (l : List Nat), natL l = 0 ↔ trimL l = []
  | [] => by simp [natL, trimL_nil]
  | x :: l => by
    rw [trimL_cons]
    have := natL_zero l
    by_cases h : trimL l = [] ∧ x = 0
    · rw [if_pos h]; have := this.2 h.1; simp [natL, this, h.2]
    · rw [if_neg h]
      simp only [natL, reduceCtorEq, iff_false]
      intro h0
      exact h ⟨this.1 (by omega), by omega⟩

/-- the limbs of a number. -/
def digits (n : Nat) : List Nat := if h : n = 0 then [] else (n % 4294967296) :: digits (n / 4294967296)
termination_by n
decreasing_by omega

theorem digits_zero : digits 0 = [] := by unfold digits; simp
theorem digits_pos {n : Nat} (h : n ≠ 0) : digits n = (n % 4294967296) :: digits (n / 4294967296) := by rw [digits]; simp [h]

theorem trimL_digits : ∀ (l : List Nat), LimOk l → trimL l = digits (natL l)
  | [], _ => by rw [trimL_nil, natL, digits_zero]
  | x :: l, h => by
    have ih := trimL_digits l (fun y hy => h y (List.mem_cons_of_mem _ hy))
    have hx := h x (List.mem_cons_self ..)
    rw [trimL_cons]
    by_cases hc : trimL l = [] ∧ x = 0
    · rw [if_pos hc]
      have := (natL_zero l).2 hc.1
      rw [natL, this, hc.2, digits_zero]
    · rw [if_neg hc]
      have hne : natL (x :: l) ≠ 0 := by
        intro h0
        simp only [natL] at h0
        exact hc ⟨(natL_zero l).1 (by omega), by omega⟩
      rw [digits_pos hne]
      have e1 : natL (x :: l) % 4294967296 = x := by simp only [natL]; omega
      have e2 : natL (x :: l) / 4294967296 = natL l := by simp only [natL]; omega
      rw [e1, e2, ih]

theorem natL_digits (n : Nat) : natL (digits n) = n := by
  induction n using Nat.strongRecOn with
  | ind n ih =>
    by_cases h : n = 0
    · rw [h, digits_zero]; rfl
    · rw [digits_pos h, natL, ih _ (by omega)]; omega

theorem digits_ok (n : Nat) : LimOk (digits n) := by
  induction n using Nat.strongRecOn with
  | ind n ih =>
    by_cases h : n = 0
    · rw [h, digits_zero]; intro x hx; simp at hx
    · rw [digits_pos h]
      intro x hx
      rcases List.mem_cons.1 hx with rfl | hx
      · omega
      · exact ih _ (by omega) x hx

theorem digits_len {n k : Nat} (h : n < 4294967296 ^ k) : (digits n).length ≤ k := by
  induction k generalizing n with
  | zero => have : n = 0 := by simpa using h
            rw [this, digits_zero]; simp
  | succ k ih =>
    by_cases h0 : n = 0
    · rw [h0, digits_zero]; simp
    · rw [digits_pos h0, List.length_cons]
      have : n / 4294967296 < 4294967296 ^ k := by
        rw [Nat.div_lt_iff_lt_mul (by omega)]; rw [Nat.pow_succ] at h; exact h
      have := ih this
      omega

theorem lt_digits (n : Nat) : n < 4294967296 ^ (digits n).length := by
  have := natL_lt (digits n) (digits_ok n)
  rwa [natL_digits] at this

theorem digits_eq_nil {n : Nat} : digits n = [] ↔ n = 0 := by
  constructor
  · intro h; rw [← natL_digits n, h]; rfl
  · rintro rfl; exact digits_zero

theorem digits_last {n : Nat} (h : n ≠ 0) : (digits n).getD ((digits n).length - 1) 0 ≠ 0 := by
  induction n using Nat.strongRecOn with
  | ind n ih =>
    rw [digits_pos h]
    by_cases h2 : n / 4294967296 = 0
    · rw [h2, digits_zero]; simp; omega
    · have := ih (n / 4294967296) (by omega) h2
      have hl : (digits (n / 4294967296)).length ≠ 0 := fun h3 => h2 (digits_eq_nil.1 (List.length_eq_zero_iff.1 h3))
      rw [List.length_cons, show (digits (n / 4294967296)).length + 1 - 1 = ((digits (n / 4294967296)).length - 1) + 1 by omega, List.getD_cons_succ]
      exact this

/-- the whole number that a number's sign and limbs say; what may not be is nought. -/
def valI (i : Bool × List Nat) : Int := if mayB i then (if i.1 then -(natL i.2 : Int) else natL i.2) else 0
/-- a whole number as it is told. -/
def canonI (z : Int) : Bool × List Nat := (decide (z < 0), digits z.natAbs)

theorem mkI_eq {b : Bool} {l : List Nat} (h : LimOk l) : mkI b l = canonI (if b then -(natL l : Int) else natL l) := by
  unfold mkI canonI
  rw [trimL_digits l h]
  by_cases h0 : natL l = 0
  · rw [h0, digits_zero]; cases b <;> simp [digits_zero]
  · rw [if_neg (by rw [digits_eq_nil]; exact h0)]
    cases b <;> simp <;> omega

theorem may_canon (z : Int) : mayB (canonI z) = true := by
  unfold mayB canonI
  by_cases h : z = 0
  · subst h; simp [digits_zero]
  · have h1 : z.natAbs ≠ 0 := by omega
    have h2 : (digits z.natAbs).length ≠ 0 := fun h3 => h1 (digits_eq_nil.1 (List.length_eq_zero_iff.1 h3))
    simp only
    rw [if_neg h2]
    simpa using digits_last h1

theorem val_canon (z : Int) : valI (canonI z) = z := by
  unfold valI
  rw [may_canon]
  simp only [canonI, natL_digits, if_true]
  by_cases h : z < 0 <;> simp [h] <;> omega

theorem canon_zero : canonI 0 = (false, []) := by simp [canonI, digits_zero]

end Go.Proofs.YtjlohmnnldbjoaaGreat.AI

/- num.plus. -/
namespace Go.Proofs.YtjlohmnnldbjoaaGreat.AI
open Go
set_option maxHeartbeats 4000000

variable {fl : Nat} {H : Heap} {R : PostP} {v w : Value} {a b : List Nat}

theorem Lim.ok {l : List Nat} (h : Lim H v l) : LimOk l := h.2

theorem natL_take_succ {l : List Nat} {n : Nat} (h : n < l.length) : natL (l.take (n + 1)) = natL (l.take n) + 4294967296 ^ n * l.getD n 0 := by
  rw [take_succ_getD h, natL_snoc, List.length_take, Nat.min_eq_left (by omega)]

theorem num_plus_does (ha : Lim H v a) (hb : Lim H w b) (hf : fl ≤ H.size) (hna : a.length < 1073741824) (hnb : b.length < 1073741824) :
    Does env fl f_122 [v, w] H (fun r H' => (∃ o, Lim H' r o ∧ natL o = natL a + natL b ∧ o.length = max a.length b.length + 1) ∧ Ext H H') R := by
  refine does_ext e_122 hf (h := ?_)
  intro ρ h0
  simp only [s_122]
  refine W_seq (W_reg ?_)
  simp [-We_seq, r_122_0, h0]
  refine W_seq (W_mid (fun t G => G = H ∧ t.length = 55 ∧ ∃ v w a' b', get t 0 = v ∧ get t 1 = w ∧ Lim H v a' ∧ Lim H w b' ∧ b'.length ≤ a'.length ∧ a'.length = max a.length b.length ∧ natL a' + natL b' = natL a + natL b) ?_ ?_)
  · simp [r_122_1, r_122_2, h0, ha.slen, hb.slen]
    exact ⟨fun h => ⟨b, hb, a, ha, by omega, by omega, by omega⟩, fun h => ⟨a, ha, b, hb, by omega, by omega, by omega⟩⟩
  clear h0 ρ
  rintro t G ⟨rfl, ht, v, w, a', b', g0, g1, ha', hb', hle, hlen, hsum⟩
  obtain ⟨ρ, rfl⟩ := toT ht
  simp only [get_T, Nat.reduceLT] at g0 g1
  have hna' : a'.length < 1073741824 := by omega
  rw [← hlen, ← hsum]
  clear ha hb hna hnb hlen hsum a b
  have w1 : IntKind.i64.wrap ((a'.length : Int) + 1) = (a'.length : Int) + 1 := wrap64 (by omega) (by omega)
  have hm := mkVZ (bytes := 4) (k := .i64) (k' := .i64) (l := 0) (c := (a'.length : Int) + 1) (by omega) (by omega) (by omega) (by omega)
  simp [r_122_3, r_122_4, r_122_5, g0, g1, ha'.slen, w1, hm]
  refine W_loopM (fun k t G' => ∃ i c out s, i + k = a'.length ∧ t.length = 55 ∧ get t 1 = w ∧ get t 5 = s ∧ get t 6 = .int .u64 ((c : Nat) : Int) ∧ get t 20 = v ∧ get t 21 = .int .i64 a'.length ∧ get t 22 = .int .i64 ((i : Nat) : Int) ∧
      Ext G G' ∧ Own G.size G' T_uint32 1 s i (u32s out) ∧ LimOk out ∧ out.length = i ∧ c ≤ 1 ∧ natL out + 4294967296 ^ i * c = natL (a'.take i) + natL (b'.take i))
    (fun t G' => ∃ c out s, t.length = 55 ∧ get t 5 = s ∧ get t 6 = .int .u64 ((c : Nat) : Int) ∧
      Ext G G' ∧ Own G.size G' T_uint32 1 s a'.length (u32s out) ∧ LimOk out ∧ out.length = a'.length ∧ c ≤ 1 ∧ natL out + 4294967296 ^ a'.length * c = natL a' + natL b') a'.length ?_ ?_ ?_
  · exact ⟨0, 0, [], .slice (some ⟨G.size, 0, none⟩) 0 (a'.length + 1), by omega, by simp, by simp [g1], by simp, by simp, by simp, by simp, by simp, by simp,
      Own.mk (by simp [u32s]) rfl (Nat.le_refl _), by intro x hx; simp at hx, rfl, by omega, by simp [natL]⟩
  · clear g0 g1 hm w1 ht ρ
    rintro k t G' ⟨i, c, out, s, hik, ht, g1, g5, g6, g20, g21, g22, hx, ho, hok, hol, hc, hs⟩
    obtain ⟨ρ, rfl⟩ := toT ht
    simp only [get_T, Nat.reduceLT] at g1 g5 g6 g20 g21 g22
    by_cases hi : i < a'.length
    · have hla := ha'.load hi hx
      have hA2 := natL_take_succ hi
      have hA3 : a'.getD i 0 < 4294967296 := ha'.2 _ (by rw [List.getD_eq_getElem?_getD, List.getElem?_eq_getElem hi]; exact List.getElem_mem hi)
      generalize a'.getD i 0 = A at hla hA2 hA3
      have e1 : IntKind.u64.wrap ((c : Int) + IntKind.u64.wrap (A : Int)) = ((c + A : Nat) : Int) := by rw [wrapu64, wrapu64]; omega
      have e9 : IntKind.i64.wrap ((i : Int) + 1) = ((i + 1 : Nat) : Int) := by rw [wrap64 (by omega) (by omega)]; omega
      by_cases hib : i < b'.length
      · have hlb := hb'.load hib hx
        have hB2 := natL_take_succ hib
        have hB3 : b'.getD i 0 < 4294967296 := hb'.2 _ (by rw [List.getD_eq_getElem?_getD, List.getElem?_eq_getElem hib]; exact List.getElem_mem hib)
        generalize b'.getD i 0 = B at hlb hB2 hB3
        have e2 : IntKind.u64.wrap (((c + A : Nat) : Int) + IntKind.u64.wrap (B : Int)) = ((c + A + B : Nat) : Int) := by rw [wrapu64, wrapu64]; omega
        simp [-Int.natCast_add, r_122_6, r_122_7, r_122_8, r_122_9, r_122_10, r_122_11, r_122_12, r_122_13, g1, g5, g6, g20, g21, g22, hi, ha'.ia hi, hla, hb'.slen, e1, hib, hb'.ia hib, hlb, e2]
        generalize hc2 : c + A + B = c2
        refine (num_low_uint64_does hx.1).mono ?_
        rintro _ G2 ⟨rfl, hx2⟩
        obtain ⟨s', G3, h1, h2, h3, h4⟩ := app_lit (e2 := T_uint32) (new := [.int .u32 ((c2 % 4294967296 : Nat) : Int)]) (c := 1) (bytes := 4) (ho.mono hx2) rfl rfl (by omega) (by omega) (by omega) (by have := hx.1; have := hx2.1; omega)
        simp [-Int.natCast_emod, -Int.natCast_add, h1, g1, g5, g6, g20, g21, g22, e9]
        refine ⟨k - 1, by omega, i + 1, by omega, c2 / 4294967296, rfl, rfl, h4 _ (Nat.le_refl _) (hx.trans hx2), out ++ [c2 % 4294967296], by simpa [u32s] using h2, ?_, by simp [hol], by omega, ?_⟩
        · intro x hx
          rcases List.mem_append.1 hx with hx | hx
          · exact hok x hx
          · simp at hx; omega
        · rw [natL_snoc, hol, hA2, hB2, Nat.pow_succ]
          have e3 : 4294967296 ^ i * 4294967296 * (c2 / 4294967296) = 4294967296 ^ i * (4294967296 * (c2 / 4294967296)) := Nat.mul_assoc ..
          have e4 : 4294967296 ^ i * (c2 % 4294967296) + 4294967296 ^ i * (4294967296 * (c2 / 4294967296)) = 4294967296 ^ i * c2 := by rw [← Nat.mul_add, Nat.mod_add_div]
          have e5 : 4294967296 ^ i * c2 = 4294967296 ^ i * c + 4294967296 ^ i * A + 4294967296 ^ i * B := by rw [← hc2, Nat.mul_add, Nat.mul_add]
          omega
      · have hB2 : natL (b'.take (i + 1)) = natL (b'.take i) + 4294967296 ^ i * 0 := by rw [List.take_of_length_le (by omega), List.take_of_length_le (by omega)]; simp
        have hB3 : (0 : Nat) < 4294967296 := by omega
        have e2 : c + A = c + A + 0 := rfl
        rw [e2] at e1
        generalize (0 : Nat) = B at hB2 hB3 e1
        simp [-Int.natCast_add, r_122_6, r_122_7, r_122_8, r_122_9, r_122_10, r_122_11, r_122_12, r_122_13, g1, g5, g6, g20, g21, g22, hi, ha'.ia hi, hla, hb'.slen, e1, hib]
        generalize hc2 : c + A + B = c2
        refine (num_low_uint64_does hx.1).mono ?_
        rintro _ G2 ⟨rfl, hx2⟩
        obtain ⟨s', G3, h1, h2, h3, h4⟩ := app_lit (e2 := T_uint32) (new := [.int .u32 ((c2 % 4294967296 : Nat) : Int)]) (c := 1) (bytes := 4) (ho.mono hx2) rfl rfl (by omega) (by omega) (by omega) (by have := hx.1; have := hx2.1; omega)
        simp [-Int.natCast_emod, -Int.natCast_add, h1, g1, g5, g6, g20, g21, g22, e9]
        refine ⟨k - 1, by omega, i + 1, by omega, c2 / 4294967296, rfl, rfl, h4 _ (Nat.le_refl _) (hx.trans hx2), out ++ [c2 % 4294967296], by simpa [u32s] using h2, ?_, by simp [hol], by omega, ?_⟩
        · intro x hx
          rcases List.mem_append.1 hx with hx | hx
          · exact hok x hx
          · simp at hx; omega
        · rw [natL_snoc, hol, hA2, hB2, Nat.pow_succ]
          have e3 : 4294967296 ^ i * 4294967296 * (c2 / 4294967296) = 4294967296 ^ i * (4294967296 * (c2 / 4294967296)) := Nat.mul_assoc ..
          have e4 : 4294967296 ^ i * (c2 % 4294967296) + 4294967296 ^ i * (4294967296 * (c2 / 4294967296)) = 4294967296 ^ i * c2 := by rw [← Nat.mul_add, Nat.mod_add_div]
          have e5 : 4294967296 ^ i * c2 = 4294967296 ^ i * c + 4294967296 ^ i * A + 4294967296 ^ i * B := by rw [← hc2, Nat.mul_add, Nat.mul_add]
          omega
    · simp [r_122_6, g1, g5, g6, g20, g21, g22, hi]
      have : i = a'.length := by omega
      subst this
      refine ⟨c, rfl, hx, out, ho, hok, hol, hc, ?_⟩
      rw [hs, List.take_of_length_le (Nat.le_refl _), List.take_of_length_le hle]
  · clear g0 g1 hm w1 ht ρ
    rintro t G' ⟨c, out, s, ht, g5, g6, hx, ho, hok, hol, hc, hs⟩
    obtain ⟨ρ, rfl⟩ := toT ht
    simp only [get_T, Nat.reduceLT] at g5 g6
    simp [r_122_14, g5, g6]
    refine (num_low_uint64_does hx.1).mono ?_
    rintro _ G2 ⟨rfl, hx2⟩
    obtain ⟨s', G3, h1, h2, h3, h4⟩ := app_lit (e2 := T_uint32) (new := [.int .u32 ((c % 4294967296 : Nat) : Int)]) (c := 1) (bytes := 4) (ho.mono hx2) rfl rfl (by omega) (by omega) (by omega) (by have := hx.1; have := hx2.1; omega)
    simp [-Int.natCast_emod, -Int.natCast_add, h1]
    refine fun _ => ⟨out ++ [c % 4294967296], ⟨by simpa [hol, u32s] using h2.sl, ?_⟩, ?_, by simp [hol]⟩
    · intro x hx
      rcases List.mem_append.1 hx with hx | hx
      · exact hok x hx
      · simp at hx; omega
    · rw [natL_snoc, hol, Nat.mod_eq_of_lt (by omega)]; exact hs
end Go.Proofs.YtjlohmnnldbjoaaGreat.AI

/- num.minus. -/
namespace Go.Proofs.YtjlohmnnldbjoaaGreat.AI
open Go
set_option maxHeartbeats 4000000

variable {fl : Nat} {H : Heap} {R : PostP} {v w : Value} {a b : List Nat}

theorem num_minus_does (ha : Lim H v a) (hb : Lim H w b) (hf : fl ≤ H.size) (hna : a.length < 1073741824) (hle : b.length ≤ a.length) (hnat : natL b ≤ natL a) :
    Does env fl f_124 [v, w] H (fun r H' => (∃ o, Lim H' r o ∧ natL o = natL a - natL b ∧ o.length = a.length) ∧ Ext H H') R := by
  refine does_ext e_124 hf (h := ?_)
  intro ρ h0
  simp only [s_124]
  have hm := mkVZ (bytes := 4) (k := .i64) (k' := .i64) (l := 0) (c := (a.length : Int)) (by omega) (by omega) (by omega) (by omega)
  simp [r_124_0, r_124_1, r_124_2, r_124_3, h0, ha.slen, hm]
  refine W_loopM (fun k t G' => ∃ i c out s, i + k = a.length ∧ t.length = 46 ∧ get t 1 = w ∧ get t 5 = s ∧ get t 6 = .int .u64 ((c : Nat) : Int) ∧ get t 14 = v ∧ get t 15 = .int .i64 a.length ∧ get t 16 = .int .i64 ((i : Nat) : Int) ∧
      Ext H G' ∧ Own H.size G' T_uint32 1 s i (u32s out) ∧ LimOk out ∧ out.length = i ∧ c ≤ 1 ∧ natL out + natL (b.take i) = natL (a.take i) + 4294967296 ^ i * c)
    (fun t G' => ∃ c out s, t.length = 46 ∧ get t 5 = s ∧
      Ext H G' ∧ Own H.size G' T_uint32 1 s a.length (u32s out) ∧ LimOk out ∧ out.length = a.length ∧ c ≤ 1 ∧ natL out + natL b = natL a + 4294967296 ^ a.length * c) a.length ?_ ?_ ?_
  · exact ⟨0, 0, [], .slice (some ⟨H.size, 0, none⟩) 0 a.length, by omega, by simp, by simp [h0], by simp, by simp, by simp [h0], by simp, by simp, by simp,
      Own.mk (by simp [u32s]) rfl (Nat.le_refl _), by intro x hx; simp at hx, rfl, by omega, by simp [natL]⟩
  · clear hm h0 ρ
    rintro k t G' ⟨i, c, out, s, hik, ht, g1, g5, g6, g14, g15, g16, hx, ho, hok, hol, hc, hs⟩
    obtain ⟨ρ, rfl⟩ := toT ht
    simp only [get_T, Nat.reduceLT] at g1 g5 g6 g14 g15 g16
    by_cases hi : i < a.length
    · have hla := ha.load hi hx
      have hA2 := natL_take_succ hi
      have hA3 : a.getD i 0 < 4294967296 := ha.2 _ (by rw [List.getD_eq_getElem?_getD, List.getElem?_eq_getElem hi]; exact List.getElem_mem hi)
      generalize a.getD i 0 = A at hla hA2 hA3
      have e9 : IntKind.i64.wrap ((i : Int) + 1) = ((i + 1 : Nat) : Int) := by rw [wrap64 (by omega) (by omega)]; omega
      by_cases hib : i < b.length
      · have hlb := hb.load hib hx
        have hB2 := natL_take_succ hib
        have hB3 : b.getD i 0 < 4294967296 := hb.2 _ (by rw [List.getD_eq_getElem?_getD, List.getElem?_eq_getElem hib]; exact List.getElem_mem hib)
        generalize b.getD i 0 = B at hlb hB2 hB3
        have e2 : IntKind.u64.wrap ((c : Int) + IntKind.u64.wrap (B : Int)) = ((c + B : Nat) : Int) := by rw [wrapu64, wrapu64]; omega
        have e3 : IntKind.u64.wrap (IntKind.u64.wrap (A : Int) - ((c + B : Nat) : Int)) = (((A + 18446744073709551616 - (c + B)) % 18446744073709551616 : Nat) : Int) := by rw [wrapu64, wrapu64]; omega
        simp [-Int.natCast_add, -Int.natCast_emod, r_124_4, r_124_5, r_124_6, r_124_7, r_124_8, r_124_9, r_124_10, r_124_11, r_124_12, g1, g5, g6, g14, g15, g16, hi, ha.ia hi, hla, hb.slen, hib, hb.ia hib, hlb, e2, e3]
        generalize hD : (A + 18446744073709551616 - (c + B)) % 18446744073709551616 = D
        refine (num_low_uint64_does hx.1).mono ?_
        rintro _ G2 ⟨rfl, hx2⟩
        obtain ⟨s', G3, h1, h2, h3, h4⟩ := app_lit (e2 := T_uint32) (new := [.int .u32 ((D % 4294967296 : Nat) : Int)]) (c := 1) (bytes := 4) (ho.mono hx2) rfl rfl (by omega) (by omega) (by omega) (by have := hx.1; have := hx2.1; omega)
        simp [-Int.natCast_emod, -Int.natCast_add, h1, g1, g5, g6, g14, g15, g16, e9]
        refine ⟨k - 1, by omega, i + 1, by omega, D / 9223372036854775808, rfl, rfl, h4 _ (Nat.le_refl _) (hx.trans hx2), out ++ [D % 4294967296], by simpa [u32s] using h2, ?_, by simp [hol], by omega, ?_⟩
        · intro x hx
          rcases List.mem_append.1 hx with hx | hx
          · exact hok x hx
          · simp at hx; omega
        · rw [natL_snoc, hol, hA2, hB2, Nat.pow_succ]
          have e3 : 4294967296 ^ i * 4294967296 * (D / 9223372036854775808) = 4294967296 ^ i * (4294967296 * (D / 9223372036854775808)) := Nat.mul_assoc ..
          have e4 : D % 4294967296 + c + B = A + 4294967296 * (D / 9223372036854775808) := by omega
          have e5 : 4294967296 ^ i * (D % 4294967296) + 4294967296 ^ i * c + 4294967296 ^ i * B = 4294967296 ^ i * A + 4294967296 ^ i * (4294967296 * (D / 9223372036854775808)) := by
            rw [← Nat.mul_add, ← Nat.mul_add, ← Nat.mul_add, e4]
          omega
      · have hB2 : natL (b.take (i + 1)) = natL (b.take i) + 4294967296 ^ i * 0 := by rw [List.take_of_length_le (by omega), List.take_of_length_le (by omega)]; simp
        have hB3 : (0 : Nat) < 4294967296 := by omega
        have e3 : IntKind.u64.wrap (IntKind.u64.wrap (A : Int) - (c : Int)) = (((A + 18446744073709551616 - (c + 0)) % 18446744073709551616 : Nat) : Int) := by rw [wrapu64, wrapu64]; omega
        generalize hB : (0 : Nat) = B at hB2 hB3 e3
        simp [-Int.natCast_add, -Int.natCast_emod, r_124_4, r_124_5, r_124_6, r_124_7, r_124_8, r_124_9, r_124_10, r_124_11, r_124_12, g1, g5, g6, g14, g15, g16, hi, ha.ia hi, hla, hb.slen, hib, e3]
        generalize hD : (A + 18446744073709551616 - (c + B)) % 18446744073709551616 = D
        refine (num_low_uint64_does hx.1).mono ?_
        rintro _ G2 ⟨rfl, hx2⟩
        obtain ⟨s', G3, h1, h2, h3, h4⟩ := app_lit (e2 := T_uint32) (new := [.int .u32 ((D % 4294967296 : Nat) : Int)]) (c := 1) (bytes := 4) (ho.mono hx2) rfl rfl (by omega) (by omega) (by omega) (by have := hx.1; have := hx2.1; omega)
        simp [-Int.natCast_emod, -Int.natCast_add, h1, g1, g5, g6, g14, g15, g16, e9]
        refine ⟨k - 1, by omega, i + 1, by omega, D / 9223372036854775808, rfl, rfl, h4 _ (Nat.le_refl _) (hx.trans hx2), out ++ [D % 4294967296], by simpa [u32s] using h2, ?_, by simp [hol], by omega, ?_⟩
        · intro x hx
          rcases List.mem_append.1 hx with hx | hx
          · exact hok x hx
          · simp at hx; omega
        · rw [natL_snoc, hol, hA2, hB2, Nat.pow_succ]
          have e3 : 4294967296 ^ i * 4294967296 * (D / 9223372036854775808) = 4294967296 ^ i * (4294967296 * (D / 9223372036854775808)) := Nat.mul_assoc ..
          have e4 : D % 4294967296 + c + B = A + 4294967296 * (D / 9223372036854775808) := by omega
          have e5 : 4294967296 ^ i * (D % 4294967296) + 4294967296 ^ i * c + 4294967296 ^ i * B = 4294967296 ^ i * A + 4294967296 ^ i * (4294967296 * (D / 9223372036854775808)) := by
            rw [← Nat.mul_add, ← Nat.mul_add, ← Nat.mul_add, e4]
          omega
    · simp [r_124_4, g1, g5, g6, g14, g15, g16, hi]
      have : i = a.length := by omega
      subst this
      refine ⟨hx, c, out, ho, hok, hol, hc, ?_⟩
      rw [List.take_of_length_le (Nat.le_refl _), List.take_of_length_le hle] at hs
      exact hs
  · clear hm h0 ρ
    rintro t G' ⟨c, out, s, ht, g5, hx, ho, hok, hol, hc, hs⟩
    obtain ⟨ρ, rfl⟩ := toT ht
    simp only [get_T, Nat.reduceLT] at g5
    simp [r_124_13, g5]
    refine fun _ => ⟨out, ⟨by simpa [hol] using ho.sl, hok⟩, ?_, hol⟩
    have h2 := natL_lt out hok
    rw [hol] at h2
    have : c = 0 := by
      refine Decidable.byContradiction fun hc0 => ?_
      have : c = 1 := by omega
      subst this
      omega
    subst this
    omega
end Go.Proofs.YtjlohmnnldbjoaaGreat.AI

/- num.cmp. -/
namespace Go.Proofs.YtjlohmnnldbjoaaGreat.AI
open Go
set_option maxHeartbeats 4000000

variable {fl : Nat} {H : Heap} {R : PostP} {v w : Value} {a b : List Nat}

/-- how limbs compare that lie one as long as the other, or not. -/
def cmpL (a b : List Nat) : Int := if a.length ≠ b.length then cmpZ a.length b.length else cmpZ (natL a) (natL b)

theorem cmpZ_cast {x y : Nat} : cmpZ (x : Int) (y : Int) = if x < y then -1 else if y < x then 1 else 0 := by
  unfold cmpZ; (repeat' split) <;> omega

/-- the highest limb that differs says it. -/
theorem natL_high {i : Nat} (hab : a.length = b.length) (ha : LimOk a) (hb : LimOk b) (hi : i < a.length) (he : a.drop (i + 1) = b.drop (i + 1)) (hne : a.getD i 0 ≠ b.getD i 0) :
    cmpZ (natL a : Int) (natL b : Int) = cmpZ (a.getD i 0 : Int) (b.getD i 0 : Int) := by
  have h1 : natL a = natL (a.take i) + 4294967296 ^ i * a.getD i 0 + 4294967296 ^ (i + 1) * natL (a.drop (i + 1)) := by
    have := natL_append (a.take (i + 1)) (a.drop (i + 1))
    rw [List.take_append_drop, List.length_take, Nat.min_eq_left (by omega)] at this
    rw [this, natL_take_succ hi]
  have h2 : natL b = natL (b.take i) + 4294967296 ^ i * b.getD i 0 + 4294967296 ^ (i + 1) * natL (b.drop (i + 1)) := by
    have := natL_append (b.take (i + 1)) (b.drop (i + 1))
    rw [List.take_append_drop, List.length_take, Nat.min_eq_left (by omega)] at this
    rw [this, natL_take_succ (by omega)]
  have h3 := natL_lt (a.take i) (fun x hx => ha x (List.mem_of_mem_take hx))
  have h4 := natL_lt (b.take i) (fun x hx => hb x (List.mem_of_mem_take hx))
  rw [List.length_take, Nat.min_eq_left (by omega)] at h3 h4
  rw [he] at h1
  generalize 4294967296 ^ (i + 1) * natL (b.drop (i + 1)) = Z at h1 h2
  generalize a.getD i 0 = x at *
  generalize b.getD i 0 = y at *
  generalize 4294967296 ^ i = P at *
  rw [cmpZ_cast, cmpZ_cast]
  by_cases hxy : x < y
  · have : P * (x + 1) ≤ P * y := Nat.mul_le_mul_left P hxy
    rw [Nat.mul_add] at this
    rw [if_pos (by omega), if_pos hxy]
  · have : P * (y + 1) ≤ P * x := Nat.mul_le_mul_left P (by omega)
    rw [Nat.mul_add] at this
    rw [if_neg (by omega), if_pos (by omega), if_neg hxy, if_pos (by omega)]

theorem num_cmp_does (ha : Lim H v a) (hb : Lim H w b) (hf : fl ≤ H.size) (hna : a.length < 4611686018427387904) :
    Does env fl f_123 [v, w] H (fun r H' => r = .int .i64 (cmpL a b) ∧ Ext H H') R := by
  refine does_ext e_123 hf (h := ?_)
  intro ρ h0
  simp only [s_123]
  have w1 : IntKind.i64.wrap ((a.length : Int) - 1) = (a.length : Int) - 1 := wrap64 (by omega) (by omega)
  simp [r_123_0, r_123_1, r_123_2, r_123_3, h0, ha.slen, hb.slen, w1]
  refine ⟨fun h => ?_, fun hab => ?_⟩
  · refine (num_order_int_does (Nat.le_refl _)).mono ?_
    rintro _ G ⟨rfl, hx⟩
    simp [cmpL, h]
  have hcl : cmpL a b = cmpZ (natL a) (natL b) := by simp [cmpL, hab]
  rw [hcl]
  refine W_loopM (fun k t G' => t.length = 41 ∧ get t 0 = v ∧ get t 1 = w ∧ get t 5 = .int .i64 ((k : Int) - 1) ∧ G' = H ∧ k ≤ a.length ∧ a.drop k = b.drop k)
    (fun t G' => t.length = 41 ∧ G' = H ∧ a = b) a.length (by simp [h0, hab]) ?_ ?_
  · clear h0 ρ
    rintro k t G' ⟨ht, g0, g1, g5, rfl, hk, hd⟩
    obtain ⟨ρ, rfl⟩ := toT ht
    simp only [get_T, Nat.reduceLT] at g0 g1 g5
    by_cases hk0 : k = 0
    · subst hk0
      simp [r_123_4, g0, g1, g5]
      simpa using hd
    · have e0 : (k : Int) - 1 = ((k - 1 : Nat) : Int) := by omega
      have hka : k - 1 < a.length := by omega
      have hkb : k - 1 < b.length := by omega
      have hla := ha.load hka (Ext.refl _)
      have hlb := hb.load hkb (Ext.refl _)
      have w2 : IntKind.i64.wrap (((k - 1 : Nat) : Int) - 1) = ((k - 1 : Nat) : Int) - 1 := wrap64 (by omega) (by omega)
      rw [e0] at g5
      have hla' := ha.ia (k := .i64) hka
      have hlb' := hb.ia (k := .i64) hkb
      have hh := natL_high hab ha.ok hb.ok hka (by rw [show k - 1 + 1 = k by omega]; exact hd)
      generalize hA : a.getD (k - 1) 0 = A at hla hh
      generalize hB : b.getD (k - 1) 0 = B at hlb hh
      simp [r_123_4, g0, g1, g5]
      refine W_draw ?_
      simp [r_123_5, g0, g1, g5, hla, hla', hlb, hlb']
      refine ⟨fun hne => ?_, fun heq => ?_⟩
      · refine W_draw ?_
        simp [r_123_6, g0, g1, g5, hla, hla', hlb, hlb']
        refine (num_order_uint32_does (Nat.le_refl _)).mono ?_
        rintro _ G ⟨rfl, hx⟩
        simp [hh hne]
      · simp [r_123_7, g0, g1, g5, w2]
        refine ⟨k - 1, by omega, rfl, by omega, ?_⟩
        rw [List.drop_eq_getElem_cons hka, List.drop_eq_getElem_cons hkb, show k - 1 + 1 = k by omega, hd]
        congr 1
        rw [List.getD_eq_getElem?_getD, List.getElem?_eq_getElem hka] at hA
        rw [List.getD_eq_getElem?_getD, List.getElem?_eq_getElem hkb] at hB
        simp at hA hB; omega
  · clear h0 ρ
    rintro t G' ⟨ht, rfl, rfl⟩
    obtain ⟨ρ, rfl⟩ := toT ht
    simp [r_123_8, cmpZ]
end Go.Proofs.YtjlohmnnldbjoaaGreat.AI

/- Numbers as they lie and what they say. -/
namespace Go.Proofs.YtjlohmnnldbjoaaGreat.AI
open Go

variable {fl : Nat} {H : Heap} {R : PostP} {v : Value} {i : Bool × List Nat} {a b : List Nat}

theorem IntV.ok (h : IntV H v i) : LimOk i.2 := by obtain ⟨s, _, hs⟩ := h; exact hs.ok

theorem trim_last {l : List Nat} (h : l.length = 0 ∨ l.getD (l.length - 1) 0 ≠ 0) : trimL l = l := by
  rcases List.eq_nil_or_concat l with rfl | ⟨l', x, rfl⟩
  · rfl
  · have : x ≠ 0 := by
      rcases h with h | h
      · simp at h
      · simpa [List.getD_eq_getElem?_getD] using h
    rw [List.concat_eq_append]; exact trimL_snoc this

theorem limbsL_trim (i : Bool × List Nat) : trimL (limbsL i) = limbsL i := by
  unfold limbsL
  by_cases h : mayB i = true
  · rw [if_pos h]
    refine trim_last ?_
    unfold mayB at h
    by_cases h0 : i.2.length = 0
    · exact .inl h0
    · rw [if_neg h0] at h; exact .inr (by simpa using h)
  · rw [if_neg h]; rfl

theorem limbsL_ok (h : LimOk i.2) : LimOk (limbsL i) := by
  unfold limbsL; split
  · exact h
  · intro x hx; simp at hx

theorem valI_abs (i : Bool × List Nat) : (valI i).natAbs = natL (limbsL i) := by
  unfold valI limbsL
  by_cases h : mayB i = true
  · rw [if_pos h, if_pos h]; split <;> omega
  · rw [if_neg h, if_neg h]; rfl

theorem limbsL_eq (h : LimOk i.2) : limbsL i = digits (valI i).natAbs := by
  rw [valI_abs, ← trimL_digits _ (limbsL_ok h), limbsL_trim]

theorem negB_eq (i : Bool × List Nat) : negB i = decide (valI i < 0) := by
  unfold negB valI
  by_cases h : mayB i = true
  · rw [if_pos h, h, Bool.true_and]
    by_cases hn : i.1 = true
    · have h0 : natL i.2 ≠ 0 := by
        intro h0
        have h1 := (natL_zero i.2).1 h0
        have h2 := limbsL_trim i
        unfold limbsL at h2
        rw [if_pos h, h1] at h2
        unfold mayB at h
        rw [← h2] at h
        simp [hn] at h
      rw [if_pos hn, hn]; simp; omega
    · rw [if_neg hn]; simp [hn]
  · rw [if_neg h]; simp [h]

theorem len_limbsL (i : Bool × List Nat) : (limbsL i).length ≤ i.2.length := by unfold limbsL; split <;> simp

theorem len_digits_val (h : LimOk i.2) : (digits (valI i).natAbs).length ≤ i.2.length := by rw [← limbsL_eq h]; exact len_limbsL i

theorem digits_mono {m n : Nat} (h : m ≤ n) : (digits m).length ≤ (digits n).length := digits_len (Nat.lt_of_le_of_lt h (lt_digits n))

theorem cmpL_digits (m n : Nat) : cmpL (digits m) (digits n) = cmpZ m n := by
  unfold cmpL
  rw [natL_digits, natL_digits]
  split
  · rename_i h
    rw [cmpZ_cast, cmpZ_cast]
    by_cases hmn : m < n
    · have := digits_mono (Nat.le_of_lt hmn)
      rw [if_pos hmn, if_pos (by omega)]
    · have := digits_mono (show n ≤ m by omega)
      have hne : m ≠ n := fun h2 => h (by rw [h2])
      rw [if_neg hmn, if_pos (by omega : n < m), if_neg (by omega), if_pos (by omega)]
  · rfl

/-- limbs, negative or not, of a number. -/
theorem limbs_does (h : IntV H v i) (hf : fl ≤ H.size) (hn : i.2.length < 4611686018427387904) :
    Does env fl f_119 [v] H (fun r H' => Lim H' r (digits (valI i).natAbs) ∧ Ext H H') R := by
  rw [← limbsL_eq h.ok]; exact num_limbs_does h hf hn
theorem neg_does (h : IntV H v i) (hf : fl ≤ H.size) (hn : i.2.length < 4611686018427387904) :
    Does env fl f_120 [v] H (fun r H' => r = .bool (decide (valI i < 0)) ∧ Ext H H') R := by
  rw [← negB_eq]; exact num_neg_does h hf hn
theorem made_does {l : List Nat} {b : Bool} (z : Int) (h : Lim H v l) (hf : fl ≤ H.size) (hn : l.length ≤ 1073741824) (hz : (if b then -(natL l : Int) else natL l) = z) :
    Does env fl f_121 [.bool b, v] H (fun r H' => IntV H' r (canonI z) ∧ Ext H H') R := by
  rw [← hz, ← mkI_eq h.ok]; exact num_made_does h hf hn

theorem IntV.setT (h : IntV H v i) {p : Nat} {ro : Bool} {e' : TypeId} {cs' : List Value} {r : Blk} (hb : H.blk p = .row ro e' cs') (hne : e' ≠ T_uint32) : IntV (H.setIfInBounds p r) v i := by
  obtain ⟨s, h1, h2⟩ := h; exact ⟨s, h1, h2.setT hb hne⟩

end Go.Proofs.YtjlohmnnldbjoaaGreat.AI

/- num.Neg, Sub, Add, Cmp. -/
namespace Go.Proofs.YtjlohmnnldbjoaaGreat.AI
open Go
set_option maxHeartbeats 4000000

variable {fl : Nat} {H : Heap} {R : PostP} {v w : Value} {i j : Bool × List Nat}

theorem num_Neg_does (h : IntV H v i) (hf : fl ≤ H.size) (hn : i.2.length ≤ 1073741824) :
    Does env fl f_151 [v] H (fun r H' => IntV H' r (canonI (-valI i)) ∧ Ext H H') R := by
  have hh := h
  obtain ⟨s, rfl, hs⟩ := h
  refine does_ext e_151 hf (h := ?_)
  intro ρ h0
  simp [s_151, r_151_0, h0]
  generalize hG : Array.push (Array.push H _) _ = G
  have hx : Ext H G := by rw [← hG]; simp
  have b0 : Heap.blk G H.size = .row false T_api_Int [.bool i.1, s] := by rw [← hG]; simp
  have b1 : Heap.blk G (H.size + 1) = .row false T_api_Int [.bool false, .slice none 0 0] := by rw [← hG]; simp
  have hz : H.size + 1 < G.size := blk_lt b1
  refine W_draw ?_
  simp [r_151_1, h0, b0, b1]
  refine (neg_does (hh.mono hx) (by omega) (by omega)).mono ?_
  rintro _ G2 ⟨rfl, hx2⟩
  replace b0 := hx2.blk b0
  replace b1 := hx2.blk b1
  replace hx := hx.trans hx2
  simp [h0, b0, b1]
  refine (limbs_does (hh.mono hx) hx.1 (by omega)).mono ?_
  rintro l G3 ⟨hl, hx3⟩
  replace b1 := hx3.blk b1
  replace hx := hx.trans hx3
  try simp [h0]
  have := len_digits_val hh.ok
  refine (made_does (-valI i) hl hx.1 (by omega) (by rw [natL_digits]; simp; split <;> omega)).mono ?_
  rintro _ G4 ⟨⟨s', rfl, hs'⟩, hx4⟩
  replace b1 := hx4.blk b1
  have hz := blk_lt b1
  simp [b1, hs'.cells, hs'.plain, hz]
  exact fun _ => ⟨s', rfl, hs'.setT b1 (by decide)⟩

theorem num_Add_does (h : IntV H v i) (k : IntV H w j) (hf : fl ≤ H.size) (hn : i.2.length < 536870912) (hm : j.2.length < 536870912) :
    Does env fl f_88 [v, w] H (fun r H' => IntV H' r (canonI (valI i + valI j)) ∧ Ext H H') R := by
  have hh := h
  have kk := k
  obtain ⟨s, rfl, hs⟩ := h
  obtain ⟨u, rfl, hu⟩ := k
  refine does_ext e_88 hf (h := ?_)
  intro ρ h0
  simp [s_88, r_88_0, h0]
  generalize hG : Array.push (Array.push (Array.push H _) _) _ = G
  have hx : Ext H G := by rw [← hG]; exact (Ext.refl H).push.push.push
  have b0 : Heap.blk G H.size = .row false T_api_Int [.bool i.1, s] := by rw [← hG]; simp
  have b1 : Heap.blk G (H.size + 1) = .row false T_api_Int [.bool j.1, u] := by rw [← hG]; simp
  have b2 : Heap.blk G (H.size + 2) = .row false T_api_Int [.bool false, .slice none 0 0] := by rw [← hG]; simp
  have hz : H.size + 1 < G.size := blk_lt b1
  clear hG
  refine W_draw ?_
  simp [r_88_1, h0, b0, b1]
  refine (limbs_does (hh.mono hx) (by omega) (by omega)).mono ?_
  rintro x G2 ⟨hl, hx2⟩
  replace b0 := hx2.blk b0
  replace b1 := hx2.blk b1
  replace b2 := hx2.blk b2
  replace hx := hx.trans hx2
  try simp [h0, b0, b1]
  refine (limbs_does (kk.mono hx) hx.1 (by omega)).mono ?_
  rintro y G3 ⟨hl2, hx3⟩
  replace b0 := hx3.blk b0
  replace b1 := hx3.blk b1
  replace b2 := hx3.blk b2
  replace hx := hx.trans hx3
  replace hl := hl.mono hx3
  try simp [h0]
  refine W_draw ?_
  simp [r_88_2, h0, b0, b1]
  refine (neg_does (hh.mono hx) (by have := hx.1; omega) (by omega)).mono ?_
  rintro _ G2 ⟨rfl, hx2⟩
  replace b0 := hx2.blk b0
  replace b1 := hx2.blk b1
  replace b2 := hx2.blk b2
  replace hx := hx.trans hx2
  replace hl := hl.mono hx2
  replace hl2 := hl2.mono hx2
  try simp [h0, b0, b1]
  refine (neg_does (kk.mono hx) hx.1 (by omega)).mono ?_
  rintro _ G2 ⟨rfl, hx2⟩
  replace b0 := hx2.blk b0
  replace b1 := hx2.blk b1
  replace b2 := hx2.blk b2
  replace hx := hx.trans hx2
  replace hl := hl.mono hx2
  replace hl2 := hl2.mono hx2
  clear hs hu hz hx2
  have l1 := len_digits_val hh.ok
  have l2 := len_digits_val kk.ok
  simp [h0]
  refine ⟨fun hsame => ?_, fun hdiff => ?_⟩
  · simp [r_88_3, h0, b0]
    refine (neg_does (hh.mono hx) hx.1 (by omega)).mono ?_
    rintro _ G2 ⟨rfl, hx2⟩
    replace b0 := hx2.blk b0
    replace b1 := hx2.blk b1
    replace b2 := hx2.blk b2
    replace hx := hx.trans hx2
    replace hl := hl.mono hx2
    replace hl2 := hl2.mono hx2
    try simp [h0]
    refine (num_plus_does hl hl2 hx.1 (by omega) (by omega)).mono ?_
    rintro r G2 ⟨⟨o, ho, hon, hol⟩, hx2⟩
    replace b0 := hx2.blk b0
    replace b1 := hx2.blk b1
    replace b2 := hx2.blk b2
    replace hx := hx.trans hx2
    replace hl := hl.mono hx2
    replace hl2 := hl2.mono hx2
    try simp [h0]
    rw [natL_digits, natL_digits] at hon
    refine (made_does (valI i + valI j) ho hx.1 (by omega) (by rw [hon]; simp; split <;> omega)).mono ?_
    rintro _ G2 ⟨⟨s', rfl, hs'⟩, hx2⟩
    replace b0 := hx2.blk b0
    replace b1 := hx2.blk b1
    replace b2 := hx2.blk b2
    replace hx := hx.trans hx2
    replace hl := hl.mono hx2
    replace hl2 := hl2.mono hx2
    have hz := blk_lt b2
    simp [b2, hs'.cells, hs'.plain, hz]
    exact fun _ => ⟨s', rfl, hs'.setT b2 (by decide)⟩
  · simp [r_88_4, h0]
    refine (num_cmp_does hl hl2 hx.1 (by omega)).mono ?_
    rintro _ G2 ⟨rfl, hx2⟩
    replace b0 := hx2.blk b0
    replace b1 := hx2.blk b1
    replace b2 := hx2.blk b2
    replace hx := hx.trans hx2
    replace hl := hl.mono hx2
    replace hl2 := hl2.mono hx2
    rw [cmpL_digits, cmpZ_cast]
    try simp [h0]
    refine ⟨fun hge => ?_, fun hlt => ?_⟩
    · have hab : (valI j).natAbs ≤ (valI i).natAbs := by
        (repeat' split at hge) <;> omega
      simp [r_88_5, h0, b0]
      refine (neg_does (hh.mono hx) hx.1 (by omega)).mono ?_
      rintro _ G2 ⟨rfl, hx2⟩
      replace b0 := hx2.blk b0
      replace b1 := hx2.blk b1
      replace b2 := hx2.blk b2
      replace hx := hx.trans hx2
      replace hl := hl.mono hx2
      replace hl2 := hl2.mono hx2
      try simp [h0]
      refine (num_minus_does hl hl2 hx.1 (by omega) (digits_mono hab) (by rw [natL_digits, natL_digits]; exact hab)).mono ?_
      rintro r G2 ⟨⟨o, ho, hon, hol⟩, hx2⟩
      replace b0 := hx2.blk b0
      replace b1 := hx2.blk b1
      replace b2 := hx2.blk b2
      replace hx := hx.trans hx2
      replace hl := hl.mono hx2
      replace hl2 := hl2.mono hx2
      try simp [h0]
      rw [natL_digits, natL_digits] at hon
      refine (made_does (valI i + valI j) ho hx.1 (by omega) (by rw [hon]; simp; split <;> omega)).mono ?_
      rintro _ G2 ⟨⟨s', rfl, hs'⟩, hx2⟩
      replace b0 := hx2.blk b0
      replace b1 := hx2.blk b1
      replace b2 := hx2.blk b2
      replace hx := hx.trans hx2
      replace hl := hl.mono hx2
      replace hl2 := hl2.mono hx2
      have hz := blk_lt b2
      simp [b2, hs'.cells, hs'.plain, hz]
      exact fun _ => ⟨s', rfl, hs'.setT b2 (by decide)⟩
    · have hab : (valI i).natAbs ≤ (valI j).natAbs := by
        (repeat' split at hlt) <;> omega
      simp [r_88_6, h0, b1]
      refine (neg_does (kk.mono hx) hx.1 (by omega)).mono ?_
      rintro _ G2 ⟨rfl, hx2⟩
      replace b0 := hx2.blk b0
      replace b1 := hx2.blk b1
      replace b2 := hx2.blk b2
      replace hx := hx.trans hx2
      replace hl := hl.mono hx2
      replace hl2 := hl2.mono hx2
      try simp [h0]
      refine (num_minus_does hl2 hl hx.1 (by omega) (digits_mono hab) (by rw [natL_digits, natL_digits]; exact hab)).mono ?_
      rintro r G2 ⟨⟨o, ho, hon, hol⟩, hx2⟩
      replace b0 := hx2.blk b0
      replace b1 := hx2.blk b1
      replace b2 := hx2.blk b2
      replace hx := hx.trans hx2
      replace hl := hl.mono hx2
      replace hl2 := hl2.mono hx2
      try simp [h0]
      rw [natL_digits, natL_digits] at hon
      refine (made_does (valI i + valI j) ho hx.1 (by omega) (by rw [hon]; simp; split <;> omega)).mono ?_
      rintro _ G2 ⟨⟨s', rfl, hs'⟩, hx2⟩
      replace b0 := hx2.blk b0
      replace b1 := hx2.blk b1
      replace b2 := hx2.blk b2
      replace hx := hx.trans hx2
      replace hl := hl.mono hx2
      replace hl2 := hl2.mono hx2
      have hz := blk_lt b2
      simp [b2, hs'.cells, hs'.plain, hz]
      exact fun _ => ⟨s', rfl, hs'.setT b2 (by decide)⟩
end Go.Proofs.YtjlohmnnldbjoaaGreat.AI

/- num.Sub, num.Cmp. -/
namespace Go.Proofs.YtjlohmnnldbjoaaGreat.AI
open Go
set_option maxHeartbeats 4000000

variable {fl : Nat} {H : Heap} {R : PostP} {v w : Value} {i j : Bool × List Nat}

theorem len_canon (z : Int) : (canonI z).2.length = (digits z.natAbs).length := rfl

theorem num_Cmp_does (h : IntV H v i) (k : IntV H w j) (hf : fl ≤ H.size) (hn : i.2.length < 536870912) (hm : j.2.length < 536870912) :
    Does env fl f_127 [v, w] H (fun r H' => r = .int .i64 (cmpZ (valI i) (valI j)) ∧ Ext H H') R := by
  have hh := h
  have kk := k
  obtain ⟨s, rfl, hs⟩ := h
  obtain ⟨u, rfl, hu⟩ := k
  refine does_ext e_127 hf (h := ?_)
  intro ρ h0
  simp [s_127, r_127_0, h0]
  generalize hG : Array.push (Array.push H _) _ = G
  have hx : Ext H G := by rw [← hG]; exact (Ext.refl H).push.push
  have b0 : Heap.blk G H.size = .row false T_api_Int [.bool i.1, s] := by rw [← hG]; simp
  have b1 : Heap.blk G (H.size + 1) = .row false T_api_Int [.bool j.1, u] := by rw [← hG]; simp
  clear hG
  simp [r_127_1, h0, b0, b1]
  have l1 := len_digits_val hh.ok
  have l2 := len_digits_val kk.ok
  refine (neg_does (hh.mono hx) hx.1 (by omega)).mono ?_
  rintro _ G2 ⟨rfl, hx2⟩
  replace b0 := hx2.blk b0
  replace b1 := hx2.blk b1
  replace hx := hx.trans hx2
  by_cases hI : valI i < 0
  · simp [hI, b1]
    refine (neg_does (kk.mono hx) hx.1 (by omega)).mono ?_
    rintro _ G2 ⟨rfl, hx2⟩
    replace b0 := hx2.blk b0
    replace b1 := hx2.blk b1
    replace hx := hx.trans hx2
    by_cases hJ : valI j < 0
    · simp [hJ, r_127_3, h0, b0, b1]
      refine (neg_does (hh.mono hx) hx.1 (by omega)).mono ?_
      rintro _ G2 ⟨rfl, hx2⟩
      replace b0 := hx2.blk b0
      replace b1 := hx2.blk b1
      replace hx := hx.trans hx2
      simp [hI, r_127_5, h0, b0, b1]
      refine (neg_does (hh.mono hx) hx.1 (by omega)).mono ?_
      rintro _ G2 ⟨rfl, hx2⟩
      replace b0 := hx2.blk b0
      replace b1 := hx2.blk b1
      replace hx := hx.trans hx2
      simp [hI, h0]
      refine W_draw ?_
      simp [r_127_6, h0, b0, b1]
      refine (limbs_does (kk.mono hx) (by have := hx.1; omega) (by omega)).mono ?_
      rintro x G2 ⟨hl, hx2⟩
      replace b0 := hx2.blk b0
      replace b1 := hx2.blk b1
      replace hx := hx.trans hx2
      try simp [h0, b0]
      refine (limbs_does (hh.mono hx) hx.1 (by omega)).mono ?_
      rintro y G2 ⟨hl2, hx2⟩
      replace hl := hl.mono hx2
      replace b0 := hx2.blk b0
      replace b1 := hx2.blk b1
      replace hx := hx.trans hx2
      try simp [h0, b0]
      refine (num_cmp_does hl hl2 hx.1 (by omega)).mono ?_
      rintro _ G2 ⟨rfl, hx2⟩
      rw [cmpL_digits, cmpZ_cast]
      have : (if (valI j).natAbs < (valI i).natAbs then (-1 : Int) else if (valI i).natAbs < (valI j).natAbs then 1 else 0) = cmpZ (valI i) (valI j) := by
        unfold cmpZ; (repeat' split) <;> omega
      simp [this]
    · simp [hJ, r_127_2, h0]
      have : cmpZ (valI i) (valI j) = -1 := by unfold cmpZ; rw [if_pos (by omega)]
      simp [this]
  · simp [hI, r_127_3, h0, b0, b1]
    refine (neg_does (hh.mono hx) hx.1 (by omega)).mono ?_
    rintro _ G2 ⟨rfl, hx2⟩
    replace b0 := hx2.blk b0
    replace b1 := hx2.blk b1
    replace hx := hx.trans hx2
    simp [hI, h0, b1]
    refine (neg_does (kk.mono hx) hx.1 (by omega)).mono ?_
    rintro _ G2 ⟨rfl, hx2⟩
    replace b0 := hx2.blk b0
    replace b1 := hx2.blk b1
    replace hx := hx.trans hx2
    by_cases hJ : valI j < 0
    · simp [hJ, r_127_4, h0]
      have : cmpZ (valI i) (valI j) = 1 := by unfold cmpZ; rw [if_neg (by omega), if_pos (by omega)]
      simp [this]
    · simp [hJ, r_127_5, h0, b0]
      refine (neg_does (hh.mono hx) hx.1 (by omega)).mono ?_
      rintro _ G2 ⟨rfl, hx2⟩
      replace b0 := hx2.blk b0
      replace b1 := hx2.blk b1
      replace hx := hx.trans hx2
      simp [hI, h0]
      refine W_draw ?_
      simp [r_127_7, h0, b0, b1]
      refine (limbs_does (hh.mono hx) (by have := hx.1; omega) (by omega)).mono ?_
      rintro x G2 ⟨hl, hx2⟩
      replace b0 := hx2.blk b0
      replace b1 := hx2.blk b1
      replace hx := hx.trans hx2
      try simp [h0, b1]
      refine (limbs_does (kk.mono hx) hx.1 (by omega)).mono ?_
      rintro y G2 ⟨hl2, hx2⟩
      replace hl := hl.mono hx2
      replace b0 := hx2.blk b0
      replace b1 := hx2.blk b1
      replace hx := hx.trans hx2
      try simp [h0, b0]
      refine (num_cmp_does hl hl2 hx.1 (by omega)).mono ?_
      rintro _ G2 ⟨rfl, hx2⟩
      rw [cmpL_digits, cmpZ_cast]
      have : (if (valI i).natAbs < (valI j).natAbs then (-1 : Int) else if (valI j).natAbs < (valI i).natAbs then 1 else 0) = cmpZ (valI i) (valI j) := by
        unfold cmpZ; (repeat' split) <;> omega
      simp [this]
end Go.Proofs.YtjlohmnnldbjoaaGreat.AI

/- num.Of. -/
namespace Go.Proofs.YtjlohmnnldbjoaaGreat.AI
open Go
set_option maxHeartbeats 4000000

variable {fl : Nat} {H : Heap} {R : PostP} {v w : Value} {i j : Bool × List Nat}

theorem num_Of_does {n : Int} (hf : fl ≤ H.size) (h1 : -9223372036854775808 ≤ n) (h2 : n < 9223372036854775808) :
    Does env fl f_126 [.int .i64 n] H (fun r H' => IntV H' r (canonI n) ∧ Ext H H') R := by
  refine does_ext e_126 hf (h := ?_)
  intro ρ h0
  simp only [s_126]
  refine W_seq (W_reg ?_)
  simp [-We_seq, r_126_0, h0]
  generalize hG : Array.push H _ = G
  have hx : Ext H G := by rw [← hG]; exact (Ext.refl H).push
  have b2 : Heap.blk G H.size = .row false T_api_Int [.bool false, .slice none 0 0] := by rw [← hG]; simp
  clear hG
  refine W_seq (W_reg ?_)
  simp [-We_seq, r_126_1, h0]
  refine W_seq (W_mid (fun t G' => G' = G ∧ t.length = 19 ∧ get t 0 = .int .i64 n ∧ get t 2 = .pointer (some ⟨H.size, 0, none⟩) ∧ get t 3 = .int .u64 ((n.natAbs : Nat) : Int)) ?_ ?_)
  · have e1 : 0 ≤ n → IntKind.u64.wrap n = ((n.natAbs : Nat) : Int) := fun _ => by rw [wrapu64]; omega
    have e2 : n < 0 → IntKind.u64.wrap (-IntKind.u64.wrap n) = ((n.natAbs : Nat) : Int) := fun _ => by rw [wrapu64, wrapu64]; omega
    simp [r_126_2, r_126_3, h0]
    exact ⟨e2, e1⟩
  clear h0 ρ
  rintro t G' ⟨rfl, ht, g0, g2, g3⟩
  obtain ⟨ρ, rfl⟩ := toT ht
  simp only [get_T, Nat.reduceLT] at g0 g2 g3
  simp [r_126_4, g0, g2, g3]
  refine (num_low_uint64_does hx.1).mono ?_
  rintro _ G2 ⟨rfl, hx2⟩
  replace b2 := hx2.blk b2
  replace hx := hx.trans hx2
  try simp [g0, g2, g3]
  rw [show ((n.natAbs : Nat) : Int) / 4294967296 = ((n.natAbs / 4294967296 : Nat) : Int) by omega]
  refine (num_low_uint64_does hx.1).mono ?_
  rintro _ G2 ⟨rfl, hx2⟩
  replace b2 := hx2.blk b2
  replace hx := hx.trans hx2
  simp
  have hl : Lim (Array.push G2 (.row false T_uint32 [.int .u32 (((n.natAbs : Nat) : Int) % 4294967296), .int .u32 (((n.natAbs : Nat) : Int) / 4294967296 % 4294967296)]))
      (.slice (some ⟨Array.size G2, 0, none⟩) 2 2) [n.natAbs % 4294967296, n.natAbs / 4294967296 % 4294967296] := by
    refine ⟨(Own.mk (fl := 0) (n := 2) (sz := 1) (cs := u32s [n.natAbs % 4294967296, n.natAbs / 4294967296 % 4294967296]) ?_ rfl (Nat.zero_le _)).sl, ?_⟩
    · rw [blk_push_self]; simp [u32s]
    · intro x hx; simp at hx; omega
  have hx2 : Ext G2 (Array.push G2 (.row false T_uint32 [.int .u32 (((n.natAbs : Nat) : Int) % 4294967296), .int .u32 (((n.natAbs : Nat) : Int) / 4294967296 % 4294967296)])) := (Ext.refl G2).push
  replace b2 := hx2.blk b2
  replace hx := hx.trans hx2
  refine (made_does n hl hx.1 (by simp) (by simp [natL]; split <;> omega)).mono ?_
  rintro _ G2 ⟨⟨s', rfl, hs'⟩, hx2⟩
  replace b2 := hx2.blk b2
  replace hx := hx.trans hx2
  have hz := blk_lt b2
  simp [b2, hs'.cells, hs'.plain, hz]
  exact fun _ => ⟨s', rfl, hs'.setT b2 (by decide)⟩
end Go.Proofs.YtjlohmnnldbjoaaGreat.AI

/- num.Mul. -/
namespace Go.Proofs.YtjlohmnnldbjoaaGreat.AI
open Go
set_option maxHeartbeats 4000000

variable {fl : Nat} {H : Heap} {R : PostP} {v w : Value} {i j : Bool × List Nat}

theorem natL_set : ∀ (l : List Nat) (j z : Nat), j < l.length → natL (l.set j z) + 4294967296 ^ j * l.getD j 0 = natL l + 4294967296 ^ j * z
  | [], j, z, h => by simp at h
  | x :: l, 0, z, _ => by simp [natL]; omega
  | x :: l, j + 1, z, h => by
    have ih := natL_set l j z (by simpa using h)
    rw [List.set_cons_succ, List.getD_cons_succ, natL, natL, Nat.pow_succ]
    have e1 : 4294967296 ^ j * 4294967296 * l.getD j 0 = 4294967296 * (4294967296 ^ j * l.getD j 0) := by rw [Nat.mul_comm (4294967296 ^ j), Nat.mul_assoc]
    have e2 : 4294967296 ^ j * 4294967296 * z = 4294967296 * (4294967296 ^ j * z) := by rw [Nat.mul_comm (4294967296 ^ j), Nat.mul_assoc]
    rw [e1, e2]; omega

theorem u32s_set (l : List Nat) (j z : Nat) : u32s (l.set j z) = (u32s l).set j (.int .u32 (z : Nat)) := by simp [u32s, List.map_set]

theorem LimOk_set {l : List Nat} {j z : Nat} (h : LimOk l) (hz : z < 4294967296) : LimOk (l.set j z) := by
  intro x hx
  rcases List.mem_or_eq_of_mem_set hx with hx | rfl
  · exact h x hx
  · exact hz

/-- one element of a slice of one's own, read. -/
theorem own_load {G : Heap} {e n p cap : Nat} {l : List Nat} (hb : G.blk p = .row false e (u32s l)) {k : IntKind} {z : Nat} (hz : z < l.length) (hn : l.length = n) :
    iaV 1 (.slice (some ⟨p, 0, none⟩) n cap) (.int k (z : Int)) = some (.pointer (some ⟨p, z, none⟩)) ∧ rd (G.blk p) z = some (.int .u32 ((l.getD z 0 : Nat) : Int)) := by
  refine ⟨?_, ?_⟩
  · simp only [iaV]; rw [if_pos (by omega)]; simp
  · rw [hb]; simp [u32s, List.getD_eq_getElem?_getD, hz]

theorem getD_set_ne' {l : List Nat} {a b z : Nat} (h : a ≠ b) : (l.set a z).getD b 0 = l.getD b 0 := by
  rw [List.getD_eq_getElem?_getD, List.getD_eq_getElem?_getD, List.getElem?_set_ne h]

theorem num_Mul_does (h : IntV H v i) (k : IntV H w j) (hf : fl ≤ H.size) (hn : i.2.length < 268435456) (hm : j.2.length < 268435456) :
    Does env fl f_89 [v, w] H (fun r H' => IntV H' r (canonI (valI i * valI j)) ∧ Ext H H') R := by
  have hh := h
  have kk := k
  obtain ⟨s, rfl, hs⟩ := h
  obtain ⟨u, rfl, hu⟩ := k
  refine does_ext e_89 hf (h := ?_)
  intro ρ h0
  simp [s_89, r_89_0, h0]
  generalize hG : Array.push (Array.push (Array.push H _) _) _ = G
  have hx : Ext H G := by rw [← hG]; exact (Ext.refl H).push.push.push
  have b0 : Heap.blk G H.size = .row false T_api_Int [.bool i.1, s] := by rw [← hG]; simp
  have b1 : Heap.blk G (H.size + 1) = .row false T_api_Int [.bool j.1, u] := by rw [← hG]; simp
  have b2 : Heap.blk G (H.size + 2) = .row false T_api_Int [.bool false, .slice none 0 0] := by rw [← hG]; simp
  clear hG
  have l1 := len_digits_val hh.ok
  have l2 := len_digits_val kk.ok
  refine W_draw ?_
  simp [r_89_1, h0, b0, b1]
  refine (limbs_does (hh.mono hx) (by have := hx.1; omega) (by omega)).mono ?_
  rintro x G2 ⟨hl, hx2⟩
  replace b0 := hx2.blk b0
  replace b1 := hx2.blk b1
  replace b2 := hx2.blk b2
  replace hx := hx.trans hx2
  try simp [h0, b1]
  refine (limbs_does (kk.mono hx) hx.1 (by omega)).mono ?_
  rintro y G2 ⟨hl2, hx2⟩
  replace hl := hl.mono hx2
  replace b0 := hx2.blk b0
  replace b1 := hx2.blk b1
  replace b2 := hx2.blk b2
  replace hx := hx.trans hx2
  generalize hA : digits (valI i).natAbs = A at hl l1
  generalize hB : digits (valI j).natAbs = B at hl2 l2
  have w1 : IntKind.i64.wrap ((A.length : Int) + (B.length : Int)) = ((A.length + B.length : Nat) : Int) := by rw [wrap64 (by omega) (by omega)]; omega
  have hmk := mkV_int (bytes := 4) (k := .i64) (k' := .i64) (l := A.length + B.length) (c := A.length + B.length) (Nat.le_refl _) (by omega) (by omega)
  simp [-Int.natCast_add, r_89_2, r_89_3, h0, hl.slen, hl2.slen, w1, hmk]
  have hP : H.size ≤ G2.size := hx.1
  generalize hPd : G2.size = P at hP
  generalize hSL : Value.slice (some ⟨P, 0, none⟩) (A.length + B.length) (A.length + B.length) = SL
  refine W_loopM (fun k t G' => ∃ a o, a + k = A.length ∧ t.length = 78 ∧ get t 2 = .pointer (some ⟨H.size, 0, none⟩) ∧ get t 3 = .pointer (some ⟨H.size + 1, 0, none⟩) ∧ get t 4 = .pointer (some ⟨H.size + 2, 0, none⟩) ∧
      get t 6 = y ∧ get t 7 = SL ∧ get t 23 = x ∧ get t 24 = .int .i64 A.length ∧ get t 25 = .int .i64 ((a : Nat) : Int) ∧
      Ext G2 G' ∧ Heap.blk G' P = .row false T_uint32 (u32s o) ∧ o.length = A.length + B.length ∧ LimOk o ∧ natL o = natL (A.take a) * natL B ∧ ∀ q, a + B.length ≤ q → o.getD q 0 = 0)
    (fun t G' => ∃ o, t.length = 78 ∧ get t 2 = .pointer (some ⟨H.size, 0, none⟩) ∧ get t 3 = .pointer (some ⟨H.size + 1, 0, none⟩) ∧ get t 4 = .pointer (some ⟨H.size + 2, 0, none⟩) ∧ get t 7 = SL ∧
      Ext G2 G' ∧ Heap.blk G' P = .row false T_uint32 (u32s o) ∧ o.length = A.length + B.length ∧ LimOk o ∧ natL o = natL A * natL B) A.length ?_ ?_ ?_
  · refine ⟨0, List.replicate (A.length + B.length) 0, by omega, by simp, by simp, by simp, by simp, by simp, by simp, by simp, by simp, by simp, Ext.push (Ext.refl _), ?_, by simp, ?_, ?_, ?_⟩
    · rw [← hPd, blk_push_self]
      congr 1
      generalize A.length + B.length = n
      induction n with
      | zero => rfl
      | succ n ih => rw [repl, ih]; rfl
    · intro z hz; rw [List.mem_replicate] at hz; omega
    · simp only [List.take_zero, natL, Nat.zero_mul]
      generalize A.length + B.length = n
      induction n with
      | zero => rfl
      | succ n ih => rw [List.replicate_succ, natL, ih]
    · intro q _; rw [List.getD_eq_getElem?_getD, List.getElem?_replicate]; split <;> rfl
  · clear h0 ρ w1 hmk
    rintro k t G' ⟨a, o, hak, ht, g2, g3, g4, g6, g7, g23, g24, g25, hx2, hb, hol, hok, hs, hz⟩
    obtain ⟨ρ, rfl⟩ := toT ht
    simp only [get_T, Nat.reduceLT] at g2 g3 g4 g6 g7 g23 g24 g25
    by_cases ha : a < A.length
    · have hla := hl.load ha hx2
      have hia := hl.ia (k := .i64) ha
      have hA2 := natL_take_succ ha
      have hA3 : A.getD a 0 < 4294967296 := hl.2 _ (by rw [List.getD_eq_getElem?_getD, List.getElem?_eq_getElem ha]; exact List.getElem_mem ha)
      generalize A.getD a 0 = U at hla hA2 hA3
      simp [r_89_4, r_89_5, r_89_6, r_89_7, g2, g3, g4, g6, g7, g23, g24, g25, ha, hla, hia, hl2.slen]
      refine W_loopM (fun k2 t G' => ∃ q c o, q + k2 = B.length ∧ t.length = 78 ∧ get t 2 = .pointer (some ⟨H.size, 0, none⟩) ∧ get t 3 = .pointer (some ⟨H.size + 1, 0, none⟩) ∧ get t 4 = .pointer (some ⟨H.size + 2, 0, none⟩) ∧
          get t 6 = y ∧ get t 7 = SL ∧ get t 23 = x ∧ get t 24 = .int .i64 A.length ∧ get t 25 = .int .i64 ((a : Nat) : Int) ∧ get t 8 = .int .i64 ((a : Nat) : Int) ∧ get t 9 = .int .u32 ((U : Nat) : Int) ∧
          get t 10 = .int .u64 ((c : Nat) : Int) ∧ get t 30 = y ∧ get t 31 = .int .i64 B.length ∧ get t 32 = .int .i64 ((q : Nat) : Int) ∧
          Ext G2 G' ∧ Heap.blk G' P = .row false T_uint32 (u32s o) ∧ o.length = A.length + B.length ∧ LimOk o ∧ c < 4294967296 ∧
          natL o + 4294967296 ^ (a + q) * c = natL (A.take a) * natL B + 4294967296 ^ a * (U * natL (B.take q)) ∧ ∀ q, a + B.length ≤ q → o.getD q 0 = 0)
        (fun t G' => ∃ c o, t.length = 78 ∧ get t 2 = .pointer (some ⟨H.size, 0, none⟩) ∧ get t 3 = .pointer (some ⟨H.size + 1, 0, none⟩) ∧ get t 4 = .pointer (some ⟨H.size + 2, 0, none⟩) ∧
          get t 6 = y ∧ get t 7 = SL ∧ get t 23 = x ∧ get t 24 = .int .i64 A.length ∧ get t 25 = .int .i64 ((a : Nat) : Int) ∧ get t 8 = .int .i64 ((a : Nat) : Int) ∧
          get t 10 = .int .u64 ((c : Nat) : Int) ∧
          Ext G2 G' ∧ Heap.blk G' P = .row false T_uint32 (u32s o) ∧ o.length = A.length + B.length ∧ LimOk o ∧ c < 4294967296 ∧
          natL o + 4294967296 ^ (a + B.length) * c = natL (A.take (a + 1)) * natL B ∧ ∀ q, a + B.length ≤ q → o.getD q 0 = 0) B.length ?_ ?_ ?_
      · exact ⟨0, 0, o, by omega, by simp, by simp [g2], by simp [g3], by simp [g4], by simp [g6], by simp [g7], by simp [g23], by simp [g24], by simp [g25], by simp, by simp, by simp, by simp, by simp, by simp,
          hx2, hb, hol, hok, by omega, by simp [hs, natL], hz⟩
      · clear hs hz hok hol hb hx2 hla o g2 g3 g4 g6 g7 g23 g24 g25 ht ρ G'
        rintro k2 t G' ⟨q, c, o, hqk, ht, g2, g3, g4, g6, g7, g23, g24, g25, g8, g9, g10, g30, g31, g32, hx2, hb, hol, hok, hc, hs, hz⟩
        obtain ⟨ρ, rfl⟩ := toT ht
        simp only [get_T, Nat.reduceLT] at g2 g3 g4 g6 g7 g23 g24 g25 g8 g9 g10 g30 g31 g32
        by_cases hq : q < B.length
        · have hlb := hl2.load hq hx2
          have hib := hl2.ia (k := .i64) hq
          have hB2 := natL_take_succ hq
          have hB3 : B.getD q 0 < 4294967296 := hl2.2 _ (by rw [List.getD_eq_getElem?_getD, List.getElem?_eq_getElem hq]; exact List.getElem_mem hq)
          generalize B.getD q 0 = V at hlb hB2 hB3
          have hlo : a + q < o.length := by omega
          obtain ⟨hio, hro⟩ := own_load (k := .i64) (cap := A.length + B.length) hb hlo hol
          rw [hSL] at hio
          have hset := natL_set o (a + q) ((c + (U * V + o.getD (a + q) 0)) % 4294967296) hlo
          have hW3 : o.getD (a + q) 0 < 4294967296 := hok _ (by rw [List.getD_eq_getElem?_getD, List.getElem?_eq_getElem hlo]; exact List.getElem_mem hlo)
          generalize o.getD (a + q) 0 = Wd at hro hset hW3
          have hUV : U * V ≤ 4294967295 * 4294967295 := Nat.mul_le_mul (by omega) (by omega)
          have e1 : IntKind.u64.wrap (U : Int) = (U : Int) := by rw [wrapu64]; omega
          have e2 : IntKind.u64.wrap (V : Int) = (V : Int) := by rw [wrapu64]; omega
          have e3 : IntKind.u64.wrap (Wd : Int) = (Wd : Int) := by rw [wrapu64]; omega
          have e4 : IntKind.u64.wrap ((U : Int) * (V : Int)) = ((U * V : Nat) : Int) := by rw [wrapu64, ← Int.natCast_mul]; omega
          have e5 : IntKind.u64.wrap (((U * V : Nat) : Int) + (Wd : Int)) = ((U * V + Wd : Nat) : Int) := by rw [wrapu64]; omega
          have e6 : IntKind.u64.wrap ((c : Int) + ((U * V + Wd : Nat) : Int)) = ((c + (U * V + Wd) : Nat) : Int) := by rw [wrapu64]; omega
          have e7 : IntKind.i64.wrap ((a : Int) + (q : Int)) = ((a + q : Nat) : Int) := by rw [wrap64 (by omega) (by omega)]; omega
          have e8 : IntKind.i64.wrap ((q : Int) + 1) = ((q + 1 : Nat) : Int) := by rw [wrap64 (by omega) (by omega)]; omega
          simp [-Int.natCast_add, -Int.natCast_mul, r_89_8, r_89_9, r_89_10, r_89_11, r_89_12, r_89_13, g2, g3, g4, g6, g7, g23, g24, g25, g8, g9, g10, g30, g31, g32, hq, hlb, hib, e1, e2, e3, e4, e5, e6, e7, e8, hio, hro]
          refine (num_low_uint64_does (by have := hx2.1; omega)).mono ?_
          rintro _ G3 ⟨rfl, hx3⟩
          replace hb := hx3.blk hb
          have hxx := hx2.trans hx3
          have hPl := blk_lt hb
          have hle : a + q + 1 ≤ o.length := hlo
          generalize hc1 : c + (U * V + Wd) = c1 at *
          simp [-Int.natCast_emod, -Int.natCast_ediv, -Int.natCast_add, hb, hP, hle]
          refine ⟨k2 - 1, by omega, q + 1, by omega, c1 / 4294967296, by omega, rfl, hxx.set (by omega), o.set (a + q) (c1 % 4294967296), by rw [blk_set_self hPl, u32s_set], by simp [hol], LimOk_set hok (by omega), by omega, ?_, ?_⟩
          · have f1 : 4294967296 ^ (a + (q + 1)) * (c1 / 4294967296) = 4294967296 ^ (a + q) * (4294967296 * (c1 / 4294967296)) := by
              rw [show a + (q + 1) = a + q + 1 by omega, Nat.pow_succ, Nat.mul_assoc]
            have f2 : 4294967296 ^ (a + q) * (c1 % 4294967296) + 4294967296 ^ (a + q) * (4294967296 * (c1 / 4294967296)) = 4294967296 ^ (a + q) * c1 := by rw [← Nat.mul_add, Nat.mod_add_div]
            have f3 : 4294967296 ^ (a + q) * c1 = 4294967296 ^ (a + q) * c + (4294967296 ^ (a + q) * (U * V) + 4294967296 ^ (a + q) * Wd) := by rw [← hc1, Nat.mul_add, Nat.mul_add]
            have f4 : 4294967296 ^ a * (U * (natL (List.take q B) + 4294967296 ^ q * V)) = 4294967296 ^ a * (U * natL (List.take q B)) + 4294967296 ^ (a + q) * (U * V) := by
              rw [Nat.mul_add, Nat.mul_add, Nat.pow_add]
              congr 1
              rw [Nat.mul_assoc, Nat.mul_left_comm U]
            rw [hB2, f4, f1]
            omega
          · intro r hr
            have := hz r hr
            rw [← List.getD_eq_getElem?_getD, getD_set_ne' (by omega)]; exact this
        · simp [r_89_8, g2, g3, g4, g6, g7, g23, g24, g25, g8, g9, g10, g30, g31, g32, hq]
          have : q = B.length := by omega
          subst this
          refine ⟨c, rfl, hx2, o, hb, hol, hok, hc, ?_, by simpa using hz⟩
          rw [hs, List.take_of_length_le (Nat.le_refl _), hA2, Nat.add_mul, Nat.mul_assoc]
      · clear hs hz hok hol hb hx2 hla o g2 g3 g4 g6 g7 g23 g24 g25 ht ρ G'
        rintro t G' ⟨c, o, ht, g2, g3, g4, g6, g7, g23, g24, g25, g8, g10, hx2, hb, hol, hok, hc, hs, hz⟩
        obtain ⟨ρ, rfl⟩ := toT ht
        simp only [get_T, Nat.reduceLT] at g2 g3 g4 g6 g7 g23 g24 g25 g8 g10
        have hlo : a + B.length < o.length := by omega
        obtain ⟨hio, hro⟩ := own_load (k := .i64) (cap := A.length + B.length) hb hlo hol
        rw [hSL] at hio
        have hset := natL_set o (a + B.length) (c % 4294967296) hlo
        rw [hz _ (Nat.le_refl _)] at hset
        have e7 : IntKind.i64.wrap ((a : Int) + (B.length : Int)) = ((a + B.length : Nat) : Int) := by rw [wrap64 (by omega) (by omega)]; omega
        have e8 : IntKind.i64.wrap ((a : Int) + 1) = ((a + 1 : Nat) : Int) := by rw [wrap64 (by omega) (by omega)]; omega
        simp [-Int.natCast_add, r_89_14, g2, g3, g4, g6, g7, g23, g24, g25, g8, g10, hl2.slen, e7, hio]
        refine (num_low_uint64_does (by have := hx2.1; omega)).mono ?_
        rintro _ G3 ⟨rfl, hx3⟩
        replace hb := hx3.blk hb
        have hxx := hx2.trans hx3
        have hPl := blk_lt hb
        have hle : a + B.length + 1 ≤ o.length := hlo
        simp [-Int.natCast_emod, -Int.natCast_ediv, -Int.natCast_add, r_89_15, g2, g3, g4, g6, g7, g23, g24, g25, hb, hP, hle, e8]
        refine ⟨k - 1, by omega, a + 1, by omega, rfl, hxx.set (by omega), o.set (a + B.length) (c % 4294967296), by rw [blk_set_self hPl, u32s_set], by simp [hol], LimOk_set hok (by omega), ?_, ?_⟩
        · rw [Nat.mod_eq_of_lt hc] at hset ⊢
          omega
        · intro r hr
          have := hz r (by omega)
          rw [← List.getD_eq_getElem?_getD, getD_set_ne' (by omega)]; exact this
    · simp [r_89_4, g2, g3, g4, g6, g7, g23, g24, g25, ha]
      have : a = A.length := by omega
      subst this
      exact ⟨hx2, o, hb, hol, hok, by rw [hs, List.take_of_length_le (Nat.le_refl _)]⟩
  · clear h0 ρ w1 hmk
    rintro t G' ⟨o, ht, g2, g3, g4, g7, hx2, hb, hol, hok, hs⟩
    obtain ⟨ρ, rfl⟩ := toT ht
    simp only [get_T, Nat.reduceLT] at g2 g3 g4 g7
    replace b0 := hx2.blk b0
    replace b1 := hx2.blk b1
    replace b2 := hx2.blk b2
    replace hx := hx.trans hx2
    have hy : Lim G' SL o := by
      rw [← hSL, ← hol]
      exact ⟨(Own.mk (fl := 0) hb (by simp) (Nat.zero_le _)).sl, hok⟩
    refine W_draw ?_
    simp [r_89_16, g2, g3, g4, g7, b0, b1]
    refine (neg_does (hh.mono hx) (by have := hx.1; omega) (by omega)).mono ?_
    rintro _ G2 ⟨rfl, hx2⟩
    replace b0 := hx2.blk b0
    replace b1 := hx2.blk b1
    replace b2 := hx2.blk b2
    replace hx := hx.trans hx2
    replace hy := hy.mono hx2
    try simp [g2, g3, g4, g7, b1]
    refine (neg_does (kk.mono hx) hx.1 (by omega)).mono ?_
    rintro _ G2 ⟨rfl, hx2⟩
    replace b0 := hx2.blk b0
    replace b1 := hx2.blk b1
    replace b2 := hx2.blk b2
    replace hx := hx.trans hx2
    replace hy := hy.mono hx2
    try simp [g2, g3, g4, g7, b1]
    have hAn : natL A = (valI i).natAbs := by rw [← hA, natL_digits]
    have hBn : natL B = (valI j).natAbs := by rw [← hB, natL_digits]
    rw [hAn, hBn, ← Int.natAbs_mul] at hs
    have hsgn : (if (decide (valI i < 0) != decide (valI j < 0)) = true then -((valI i * valI j).natAbs : Int) else ((valI i * valI j).natAbs : Int)) = valI i * valI j := by
      by_cases hi : valI i < 0 <;> by_cases hj : valI j < 0
      · have := Int.mul_pos_of_neg_of_neg hi hj
        simp [hi, hj]; omega
      · have := Int.mul_nonpos_of_nonpos_of_nonneg (Int.le_of_lt hi) (show 0 ≤ valI j by omega)
        simp [hi, hj]; omega
      · have := Int.mul_nonpos_of_nonneg_of_nonpos (show 0 ≤ valI i by omega) (Int.le_of_lt hj)
        simp [hi, hj]; omega
      · have := Int.mul_nonneg (show 0 ≤ valI i by omega) (show 0 ≤ valI j by omega)
        simp [hi, hj]; omega
    refine (made_does (valI i * valI j) hy hx.1 (by omega) (by rw [hs]; exact hsgn)).mono ?_
    rintro _ G2 ⟨⟨s', rfl, hs'⟩, hx2⟩
    replace b0 := hx2.blk b0
    replace b1 := hx2.blk b1
    replace b2 := hx2.blk b2
    replace hx := hx.trans hx2
    have hz := blk_lt b2
    simp [b2, hs'.cells, hs'.plain, hz, g4]
    exact fun _ => ⟨s', rfl, hs'.setT b2 (by decide)⟩
end Go.Proofs.YtjlohmnnldbjoaaGreat.AI

/- Shifts and masks of words. -/
namespace Go.Proofs.YtjlohmnnldbjoaaGreat.AI
open Go

section
variable {tag : Nat}
theorem wrapN64 (n : Nat) : IntKind.u64.wrap (n : Int) = ((n % 18446744073709551616 : Nat) : Int) := by rw [wrapu64]; omega
theorem wrapN32 (n : Nat) : IntKind.u32.wrap (n : Int) = ((n % 4294967296 : Nat) : Int) := by rw [wrapu32]; omega

theorem shl64 {n s : Nat} {k' : IntKind} (hs : s ≤ 64) : binA tag .shl (.int .u64 (n : Int)) (.int k' (s : Int)) = some (.int .u64 ((n * 2 ^ s % 18446744073709551616 : Nat) : Int)) := by
  rw [binA_shl (by omega)]
  have : min (s : Int).toNat IntKind.u64.bits = s := by show min (s : Int).toNat 64 = s; omega
  rw [this]
  have e : (n : Int) * 2 ^ s = ((n * 2 ^ s : Nat) : Int) := by simp
  rw [e, wrapN64]
theorem shl_u32 {n s : Nat} {k' : IntKind} (hs : s ≤ 32) : binA tag .shl (.int .u32 (n : Int)) (.int k' (s : Int)) = some (.int .u32 ((n * 2 ^ s % 4294967296 : Nat) : Int)) := by
  rw [binA_shl (by omega)]
  have : min (s : Int).toNat IntKind.u32.bits = s := by show min (s : Int).toNat 32 = s; omega
  rw [this]
  have e : (n : Int) * 2 ^ s = ((n * 2 ^ s : Nat) : Int) := by simp
  rw [e, wrapN32]
theorem shr64 {n s : Nat} {k' : IntKind} (hs : s ≤ 64) : binA tag .shr (.int .u64 (n : Int)) (.int k' (s : Int)) = some (.int .u64 ((n / 2 ^ s : Nat) : Int)) := by
  rw [binA_shr (by omega)]
  have : min (s : Int).toNat IntKind.u64.bits = s := by show min (s : Int).toNat 64 = s; omega
  rw [this]
  have e : (2 : Int) ^ s = ((2 ^ s : Nat) : Int) := by simp
  rw [e, fdivN]
theorem shr_u32 {n s : Nat} {k' : IntKind} (hs : s ≤ 32) : binA tag .shr (.int .u32 (n : Int)) (.int k' (s : Int)) = some (.int .u32 ((n / 2 ^ s : Nat) : Int)) := by
  rw [binA_shr (by omega)]
  have : min (s : Int).toNat IntKind.u32.bits = s := by show min (s : Int).toNat 32 = s; omega
  rw [this]
  have e : (2 : Int) ^ s = ((2 ^ s : Nat) : Int) := by simp
  rw [e, fdivN]
theorem or64 {a b : Nat} (ha : a < 18446744073709551616) (hb : b < 18446744073709551616) : binA tag .or (.int .u64 (a : Int)) (.int .u64 (b : Int)) = some (.int .u64 ((a ||| b : Nat) : Int)) := by
  rw [binA_or]
  have e1 : (BitVec.ofInt IntKind.u64.bits (a : Int) ||| BitVec.ofInt IntKind.u64.bits (b : Int)).toNat = a ||| b := by
    show (BitVec.ofInt 64 (a : Int) ||| BitVec.ofInt 64 (b : Int)).toNat = a ||| b
    rw [BitVec.toNat_or]
    simp only [BitVec.ofInt_natCast, BitVec.toNat_ofNat]
    rw [Nat.mod_eq_of_lt (by omega), Nat.mod_eq_of_lt (by omega)]
  rw [e1, wrapN64]
  have : a ||| b < 2 ^ 64 := Nat.or_lt_two_pow (by omega) (by omega)
  rw [Nat.mod_eq_of_lt (by omega)]
theorem and64 {a : Nat} : binA tag .and (.int .u64 (a : Int)) (.int .u64 4294967295) = some (.int .u64 ((a % 4294967296 : Nat) : Int)) := by
  rw [binA_and]
  have e1 : (BitVec.ofInt IntKind.u64.bits (a : Int) &&& BitVec.ofInt IntKind.u64.bits (4294967295 : Int)).toNat = a % 4294967296 := by
    show (BitVec.ofInt 64 (a : Int) &&& BitVec.ofInt 64 (4294967295 : Int)).toNat = a % 4294967296
    rw [BitVec.toNat_and]
    have : (BitVec.ofInt 64 (4294967295 : Int)).toNat = 2 ^ 32 - 1 := rfl
    rw [this, Nat.and_two_pow_sub_one_eq_mod]
    simp only [BitVec.ofInt_natCast, BitVec.toNat_ofNat]
    omega
  rw [e1, wrapN64, Nat.mod_eq_of_lt (by omega)]
theorem or_add32 {x y : Nat} (h : y < 4294967296) : x * 4294967296 ||| y = x * 4294967296 + y := by
  have := Nat.two_pow_add_eq_or_of_lt (i := 32) (b := y) (by omega) x
  rw [Nat.mul_comm] at this
  exact this.symm
theorem quo64 {a b : Nat} (ha : a < 18446744073709551616) (hb : b ≠ 0) : binA tag .quo (.int .u64 (a : Int)) (.int .u64 (b : Int)) = some (.int .u64 ((a / b : Nat) : Int)) := by
  rw [binA_quo (by omega), Int.tdiv_eq_ediv_of_nonneg (by omega)]
  have : (a : Int) / (b : Int) = ((a / b : Nat) : Int) := rfl
  rw [this, wrapN64, Nat.mod_eq_of_lt (Nat.lt_of_le_of_lt (Nat.div_le_self a b) ha)]
theorem rem64 {a b : Nat} (hb : b ≠ 0) : binA tag .rem (.int .u64 (a : Int)) (.int .u64 (b : Int)) = some (.int .u64 ((a % b : Nat) : Int)) := by
  rw [binA_rem (by omega), Int.tmod_eq_emod_of_nonneg (by omega)]
  rfl
end

end Go.Proofs.YtjlohmnnldbjoaaGreat.AI

/- num.small. -/
namespace Go.Proofs.YtjlohmnnldbjoaaGreat.AI
open Go
set_option maxHeartbeats 4000000

variable {fl : Nat} {H : Heap} {R : PostP} {v w : Value} {a : List Nat}

theorem natL_drop {l : List Nat} {n : Nat} (h : n < l.length) : natL (l.drop n) = l.getD n 0 + 4294967296 * natL (l.drop (n + 1)) := by
  rw [List.drop_eq_getElem_cons h, natL, List.getD_eq_getElem?_getD, List.getElem?_eq_getElem h]; rfl

theorem num_small_does {d : Nat} (ha : Lim H v a) (hf : fl ≤ H.size) (hna : a.length ≤ 1073741824) (hd : 0 < d) (hd2 : d < 4294967296) :
    Does env fl f_172 [v, .int .u32 (d : Int)] H (fun r H' => (∃ q o, r = .tuple #[q, .int .u32 ((natL a % d : Nat) : Int)] ∧ Lim H' q o ∧ natL o = natL a / d ∧ o.length = a.length) ∧ Ext H H') R := by
  refine does_ext e_172 hf (h := ?_)
  intro ρ h0
  simp only [s_172]
  have hm := mkV_int (bytes := 4) (k := .i64) (k' := .i64) (l := a.length) (c := a.length) (Nat.le_refl _) (by omega) (by omega)
  have w1 : IntKind.i64.wrap ((a.length : Int) - 1) = (a.length : Int) - 1 := wrap64 (by omega) (by omega)
  simp [r_172_0, r_172_1, r_172_2, r_172_3, h0, ha.slen, hm, w1]
  generalize hPd : H.size = P
  have hP : H.size ≤ P := by omega
  generalize hSL : Value.slice (some ⟨P, 0, none⟩) a.length a.length = SL
  refine W_loopM (fun k t G' => ∃ r o, t.length = 42 ∧ get t 0 = v ∧ get t 1 = .int .u32 (d : Int) ∧ get t 6 = SL ∧ get t 7 = .int .u64 ((r : Nat) : Int) ∧ get t 8 = .int .i64 ((k : Int) - 1) ∧ k ≤ a.length ∧
      Ext H G' ∧ Heap.blk G' P = .row false T_uint32 (u32s o) ∧ o.length = a.length ∧ LimOk o ∧ r < d ∧ natL (o.drop k) * d + r = natL (a.drop k))
    (fun t G' => ∃ r o, t.length = 42 ∧ get t 6 = SL ∧ get t 7 = .int .u64 ((r : Nat) : Int) ∧
      Ext H G' ∧ Heap.blk G' P = .row false T_uint32 (u32s o) ∧ o.length = a.length ∧ LimOk o ∧ r < d ∧ natL o * d + r = natL a) a.length ?_ ?_ ?_
  · refine ⟨0, List.replicate a.length 0, by simp, by simp [h0], by simp [h0], by simp, by simp, by simp, by omega, Ext.push (Ext.refl _), ?_, by simp, ?_, hd, ?_⟩
    · rw [← hPd, blk_push_self]
      congr 1
      generalize a.length = n
      induction n with
      | zero => rfl
      | succ n ih => rw [repl, ih]; rfl
    · intro z hz; rw [List.mem_replicate] at hz; omega
    · simp [natL]
  · clear h0 ρ hm w1
    rintro k t G' ⟨r, o, ht, g0, g1, g6, g7, g8, hk, hx2, hb, hol, hok, hr, hs⟩
    obtain ⟨ρ, rfl⟩ := toT ht
    simp only [get_T, Nat.reduceLT] at g0 g1 g6 g7 g8
    by_cases hk0 : k = 0
    · subst hk0
      simp [r_172_4, g0, g1, g6, g7, g8]
      exact ⟨r, rfl, hx2, o, hb, hol, hok, hr, by simpa using hs⟩
    · have e0 : (k : Int) - 1 = ((k - 1 : Nat) : Int) := by omega
      have hka : k - 1 < a.length := by omega
      rw [e0] at g8
      have hla := ha.load hka hx2
      have hia := ha.ia (k := .i64) hka
      have hA2 := natL_drop hka
      have hA3 : a.getD (k - 1) 0 < 4294967296 := ha.2 _ (by rw [List.getD_eq_getElem?_getD, List.getElem?_eq_getElem hka]; exact List.getElem_mem hka)
      generalize a.getD (k - 1) 0 = A at hla hA2 hA3
      have hlo : k - 1 < o.length := by omega
      obtain ⟨hio, hro⟩ := own_load (k := .i64) (cap := a.length) hb hlo hol
      rw [hSL] at hio
      have s2 : r * 2 ^ 32 % 18446744073709551616 = r * 4294967296 := by omega
      have s1 : binA 0 .shl (.int .u64 (r : Int)) (.int .u64 32) = some (.int .u64 ((r * 4294967296 : Nat) : Int)) := by
        have := shl64 (tag := 0) (n := r) (s := 32) (k' := .u64) (by omega)
        rw [s2] at this; exact this
      have s3 := or64 (tag := 0) (a := r * 4294967296) (b := A) (by omega) (by omega)
      rw [or_add32 hA3] at s3
      have eA : IntKind.u64.wrap (A : Int) = (A : Int) := by rw [wrapu64]; omega
      have eD : IntKind.u64.wrap (d : Int) = (d : Int) := by rw [wrapu64]; omega
      have s4 := quo64 (tag := 0) (a := r * 4294967296 + A) (b := d) (by omega) (by omega)
      have s5 := rem64 (tag := 0) (a := r * 4294967296 + A) (b := d) (by omega)
      have w2 : IntKind.i64.wrap (((k - 1 : Nat) : Int) - 1) = ((k - 1 : Nat) : Int) - 1 := wrap64 (by omega) (by omega)
      simp [-Int.natCast_add, -Int.natCast_mul, -Int.natCast_ediv, -Int.natCast_emod, r_172_4, r_172_5, r_172_6, r_172_7, r_172_8, g0, g1, g6, g7, g8, hla, hia, s1, s3, eA, eD, s4, s5, hio, w2]
      have hq1 : (r * 4294967296 + A) / d < 4294967296 := by
        rw [Nat.div_lt_iff_lt_mul hd]
        have : (r + 1) * 4294967296 ≤ d * 4294967296 := Nat.mul_le_mul_right _ hr
        rw [Nat.mul_comm 4294967296 d]; omega
      have hq2 := Nat.div_add_mod (r * 4294967296 + A) d
      have hq3 := Nat.mod_lt (r * 4294967296 + A) hd
      clear s4 s5
      generalize (r * 4294967296 + A) / d = Q at hq1 hq2 ⊢
      generalize (r * 4294967296 + A) % d = r2 at hq2 hq3 ⊢
      refine (num_low_uint64_does (by have := hx2.1; omega)).mono ?_
      rintro _ G3 ⟨rfl, hx3⟩
      replace hb := hx3.blk hb
      have hxx := hx2.trans hx3
      have hPl := blk_lt hb
      have hle : k - 1 + 1 ≤ o.length := hlo
      rw [Nat.mod_eq_of_lt hq1]
      simp [-Int.natCast_emod, -Int.natCast_ediv, -Int.natCast_add, hb, hle]
      refine ⟨k - 1, by omega, r2, rfl, rfl, by omega, hxx.set (by omega), o.set (k - 1) Q, by rw [blk_set_self hPl, u32s_set], by simp [hol], LimOk_set hok hq1, hq3, ?_⟩
      have hdr : natL ((o.set (k - 1) Q).drop (k - 1)) = Q + 4294967296 * natL (o.drop k) := by
        rw [natL_drop (by simpa using hlo), List.getD_eq_getElem?_getD, List.getElem?_set_self hlo, show k - 1 + 1 = k by omega, List.drop_set_of_lt (by omega)]; rfl
      rw [hdr, hA2, show k - 1 + 1 = k by omega, ← hs, Nat.add_mul, Nat.mul_assoc, Nat.mul_comm Q d]
      generalize natL (List.drop k o) * d = Z
      omega
  · clear h0 ρ hm w1
    rintro t G' ⟨r, o, ht, g6, g7, hx2, hb, hol, hok, hr, hs⟩
    obtain ⟨ρ, rfl⟩ := toT ht
    simp only [get_T, Nat.reduceLT] at g6 g7
    have hy : Lim G' SL o := by
      rw [← hSL, ← hol]
      exact ⟨(Own.mk (fl := 0) hb (by simp) (Nat.zero_le _)).sl, hok⟩
    simp [r_172_9, g6, g7]
    refine (num_low_uint64_does (by have := hx2.1; omega)).mono ?_
    rintro _ G3 ⟨rfl, hx3⟩
    have e1 : natL a % d = r := by rw [← hs, Nat.mul_comm, Nat.mul_add_mod, Nat.mod_eq_of_lt hr]
    have e2 : natL a / d = natL o := by rw [← hs, Nat.mul_comm, Nat.mul_add_div hd, Nat.div_eq_of_lt hr]; rfl
    have e3 : ((natL a : Nat) : Int) % (d : Int) = ((r : Nat) : Int) := by rw [← e1]; rfl
    rw [Nat.mod_eq_of_lt (by omega), e3, e2]
    simp
    exact fun _ => ⟨o, hy.mono hx3, rfl, hol⟩
end Go.Proofs.YtjlohmnnldbjoaaGreat.AI

/- num.shifted. -/
namespace Go.Proofs.YtjlohmnnldbjoaaGreat.AI
open Go
set_option maxHeartbeats 4000000

variable {fl : Nat} {H : Heap} {R : PostP} {v w : Value} {a b : List Nat}

theorem or_addN {x y s : Nat} (h : y < 2 ^ s) : y ||| x * 2 ^ s = y + x * 2 ^ s := by
  have := Nat.two_pow_add_eq_or_of_lt (i := s) (b := y) h x
  rw [Nat.or_comm, Nat.mul_comm x, ← this, Nat.add_comm]

theorem num_shifted_does {n : Nat} (ha : Lim H v a) (hf : fl ≤ H.size) (hna : a.length < 1073741824) (hn : n < 32) :
    Does env fl f_182 [v, .int .i64 (n : Int)] H (fun r H' => (∃ o, Own H.size H' T_uint32 1 r (a.length + 1) (u32s o) ∧ LimOk o ∧ natL o = natL a * 2 ^ n ∧ o.length = a.length + 1) ∧ Ext H H') R := by
  refine does_ext e_182 hf (h := ?_)
  intro ρ h0
  simp only [s_182]
  have hm := mkVZ (bytes := 4) (k := .i64) (k' := .i64) (l := 0) (c := (a.length : Int) + 1) (by omega) (by omega) (by omega) (by omega)
  have w1 : IntKind.i64.wrap ((a.length : Int) + 1) = (a.length : Int) + 1 := wrap64 (by omega) (by omega)
  simp [r_182_0, r_182_1, r_182_2, r_182_3, h0, ha.slen, hm, w1]
  have hp : 2 ^ n ≤ 2147483648 := Nat.pow_le_pow_right (n := 2) (by omega) (show n ≤ 31 by omega)
  have hp0 : 0 < 2 ^ n := Nat.two_pow_pos n
  refine W_loopM (fun k t G' => ∃ i c out s, i + k = a.length ∧ t.length = 38 ∧ get t 1 = .int .i64 (n : Int) ∧ get t 5 = s ∧ get t 6 = .int .u64 ((c : Nat) : Int) ∧ get t 13 = v ∧ get t 14 = .int .i64 a.length ∧ get t 15 = .int .i64 ((i : Nat) : Int) ∧
      Ext H G' ∧ Own H.size G' T_uint32 1 s i (u32s out) ∧ LimOk out ∧ out.length = i ∧ c < 2 ^ n ∧ natL out + 4294967296 ^ i * c = natL (a.take i) * 2 ^ n)
    (fun t G' => ∃ c out s, t.length = 38 ∧ get t 5 = s ∧ get t 6 = .int .u64 ((c : Nat) : Int) ∧
      Ext H G' ∧ Own H.size G' T_uint32 1 s a.length (u32s out) ∧ LimOk out ∧ out.length = a.length ∧ c < 2 ^ n ∧ natL out + 4294967296 ^ a.length * c = natL a * 2 ^ n) a.length ?_ ?_ ?_
  · exact ⟨0, 0, [], .slice (some ⟨H.size, 0, none⟩) 0 (a.length + 1), by omega, by simp, by simp [h0], by simp, by simp, by simp [h0], by simp, by simp, by simp,
      Own.mk (by simp [u32s]) rfl (Nat.le_refl _), by intro x hx; simp at hx, rfl, hp0, by simp [natL]⟩
  · clear hm w1 h0 ρ
    rintro k t G' ⟨i, c, out, s, hik, ht, g1, g5, g6, g13, g14, g15, hx, ho, hok, hol, hc, hs⟩
    obtain ⟨ρ, rfl⟩ := toT ht
    simp only [get_T, Nat.reduceLT] at g1 g5 g6 g13 g14 g15
    by_cases hi : i < a.length
    · have hla := ha.load hi hx
      have hia := ha.ia (k := .i64) hi
      have hA2 := natL_take_succ hi
      have hA3 : a.getD i 0 < 4294967296 := ha.2 _ (by rw [List.getD_eq_getElem?_getD, List.getElem?_eq_getElem hi]; exact List.getElem_mem hi)
      generalize a.getD i 0 = A at hla hA2 hA3
      have eA : IntKind.u64.wrap (A : Int) = (A : Int) := by rw [wrapu64]; omega
      have hAn : A * 2 ^ n ≤ 4294967295 * 2147483648 := Nat.mul_le_mul (by omega) hp
      have s1 := shl64 (tag := 0) (n := A) (s := n) (k' := .i64) (by omega)
      rw [Nat.mod_eq_of_lt (by omega)] at s1
      have s2 := or64 (tag := 0) (a := c) (b := A * 2 ^ n) (by omega) (by omega)
      rw [or_addN hc] at s2
      have e9 : IntKind.i64.wrap ((i : Int) + 1) = ((i + 1 : Nat) : Int) := by rw [wrap64 (by omega) (by omega)]; omega
      simp [-Int.natCast_add, -Int.natCast_mul, -Int.natCast_pow, r_182_4, r_182_5, r_182_6, r_182_7, r_182_8, r_182_9, g1, g5, g6, g13, g14, g15, hi, hia, hla, eA, s1, s2]
      generalize hD : c + A * 2 ^ n = D
      refine (num_low_uint64_does hx.1).mono ?_
      rintro _ G2 ⟨rfl, hx2⟩
      obtain ⟨s', G3, h1, h2, h3, h4⟩ := app_lit (e2 := T_uint32) (new := [.int .u32 ((D % 4294967296 : Nat) : Int)]) (c := 1) (bytes := 4) (ho.mono hx2) rfl rfl (by omega) (by omega) (by omega) (by have := hx.1; have := hx2.1; omega)
      simp [-Int.natCast_emod, -Int.natCast_add, h1, g1, g5, g6, g13, g14, g15, e9]
      have hDq : D / 4294967296 < 2 ^ n := by
        rw [Nat.div_lt_iff_lt_mul (by omega), ← hD]
        have : (A + 1) * 2 ^ n ≤ 4294967296 * 2 ^ n := Nat.mul_le_mul_right _ hA3
        rw [Nat.add_mul] at this
        rw [Nat.mul_comm (2 ^ n)]; omega
      refine ⟨k - 1, by omega, i + 1, by omega, D / 4294967296, rfl, rfl, h4 _ (Nat.le_refl _) (hx.trans hx2), out ++ [D % 4294967296], by simpa [u32s] using h2, ?_, by simp [hol], hDq, ?_⟩
      · intro x hx
        rcases List.mem_append.1 hx with hx | hx
        · exact hok x hx
        · simp at hx; omega
      · rw [natL_snoc, hol, hA2, Nat.pow_succ, Nat.add_mul, ← hs]
        have e3 : 4294967296 ^ i * 4294967296 * (D / 4294967296) = 4294967296 ^ i * (4294967296 * (D / 4294967296)) := Nat.mul_assoc ..
        have e4 : 4294967296 ^ i * (D % 4294967296) + 4294967296 ^ i * (4294967296 * (D / 4294967296)) = 4294967296 ^ i * D := by rw [← Nat.mul_add, Nat.mod_add_div]
        have e5 : 4294967296 ^ i * D = 4294967296 ^ i * c + 4294967296 ^ i * A * 2 ^ n := by rw [← hD, Nat.mul_add, Nat.mul_assoc]
        omega
    · simp [r_182_4, g1, g5, g6, g13, g14, g15, hi]
      have : i = a.length := by omega
      subst this
      refine ⟨c, rfl, hx, out, ho, hok, hol, hc, ?_⟩
      rw [hs, List.take_of_length_le (Nat.le_refl _)]
  · clear hm w1 h0 ρ
    rintro t G' ⟨c, out, s, ht, g5, g6, hx, ho, hok, hol, hc, hs⟩
    obtain ⟨ρ, rfl⟩ := toT ht
    simp only [get_T, Nat.reduceLT] at g5 g6
    simp [r_182_10, g5, g6]
    refine (num_low_uint64_does hx.1).mono ?_
    rintro _ G2 ⟨rfl, hx2⟩
    obtain ⟨s', G3, h1, h2, h3, h4⟩ := app_lit (e2 := T_uint32) (new := [.int .u32 ((c % 4294967296 : Nat) : Int)]) (c := 1) (bytes := 4) (ho.mono hx2) rfl rfl (by omega) (by omega) (by omega) (by have := hx.1; have := hx2.1; omega)
    simp [-Int.natCast_emod, -Int.natCast_add, h1]
    refine fun _ => ⟨out ++ [c % 4294967296], by simpa [hol, u32s] using h2, ?_, ?_, by simp [hol]⟩
    · intro x hx
      rcases List.mem_append.1 hx with hx | hx
      · exact hok x hx
      · simp at hx; omega
    · rw [natL_snoc, hol, Nat.mod_eq_of_lt (by omega)]; exact hs
end Go.Proofs.YtjlohmnnldbjoaaGreat.AI

/- num.back. -/
namespace Go.Proofs.YtjlohmnnldbjoaaGreat.AI
open Go
set_option maxHeartbeats 4000000

variable {fl : Nat} {H : Heap} {R : PostP} {v w : Value} {a b : List Nat}

/-- a limb of what is shifted down. -/
theorem back_limb {n A N A1 M : Nat} (hn : n < 32) (hA : A < 4294967296) (hN : N = A1 + 4294967296 * M) :
    (A + 4294967296 * N) / 2 ^ n = (A + A1 * 4294967296) / 2 ^ n % 4294967296 + 4294967296 * (N / 2 ^ n) := by
  have hB : (4294967296 : Nat) = 2 ^ n * 2 ^ (32 - n) := by rw [← Nat.pow_add, show n + (32 - n) = 32 by omega]
  have hP := Nat.two_pow_pos n
  have hQ := Nat.two_pow_pos (32 - n)
  generalize 2 ^ n = P at *
  generalize 2 ^ (32 - n) = Q at *
  have e1 : (A + 4294967296 * N) / P = A / P + Q * N := by rw [hB, Nat.mul_assoc, Nat.add_mul_div_left _ _ hP]
  have e2 : (A + A1 * 4294967296) / P = A / P + Q * A1 := by rw [Nat.mul_comm A1, hB, Nat.mul_assoc, Nat.add_mul_div_left _ _ hP]
  have e3 : N % P = A1 % P := by rw [hN, hB, Nat.mul_assoc, Nat.add_mul_mod_self_left]
  have e4 : Q * N = 4294967296 * (N / P) + Q * (A1 % P) := by
    have := Nat.div_add_mod N P
    rw [e3] at this
    calc Q * N = Q * (P * (N / P) + A1 % P) := by rw [this]
      _ = _ := by rw [Nat.mul_add, ← Nat.mul_assoc, Nat.mul_comm Q P, ← hB]
  have e5 : Q * A1 = 4294967296 * (A1 / P) + Q * (A1 % P) := by
    have := Nat.div_add_mod A1 P
    calc Q * A1 = Q * (P * (A1 / P) + A1 % P) := by rw [this]
      _ = _ := by rw [Nat.mul_add, ← Nat.mul_assoc, Nat.mul_comm Q P, ← hB]
  have h1 : A / P < Q := by rw [Nat.div_lt_iff_lt_mul hP, Nat.mul_comm, ← hB]; exact hA
  have h2 : Q * (A1 % P) + Q ≤ 4294967296 := by
    have := Nat.mod_lt A1 hP
    have : Q * (A1 % P + 1) ≤ Q * P := Nat.mul_le_mul_left Q this
    rw [Nat.mul_add, Nat.mul_comm Q P, ← hB] at this
    omega
  rw [e1, e2, e4, e5]
  clear e1 e2 e3 e4 e5 hN
  generalize A / P = x at *
  generalize N / P = y at *
  generalize A1 / P = z at *
  generalize Q * (A1 % P) = q at *
  omega

theorem natL_take_set {o : List Nat} {i z : Nat} (hlo : i < o.length) : natL (List.take (i + 1) (o.set i z)) = natL (List.take i o) + 4294967296 ^ i * z := by
  rw [take_succ_getD (by simpa using hlo), natL_snoc, List.length_take, List.length_set, Nat.min_eq_left (by omega), List.take_set_of_le (by omega), List.getD_eq_getElem?_getD, List.getElem?_set_self hlo, Option.getD_some]
theorem back_fin {x y z s i q : Nat} (h : x = y + 4294967296 ^ i * z) (hs : y + 4294967296 ^ i * (z + 4294967296 * q) = s) : x + 4294967296 ^ (i + 1) * q = s := by
  rw [h, ← hs, Nat.pow_succ, Nat.mul_add, Nat.mul_assoc, Nat.add_assoc]

theorem num_back_does {n : Nat} (ha : Lim H v a) (hf : fl ≤ H.size) (hna : a.length < 1073741824) (hn : n < 32) :
    Does env fl f_185 [v, .int .i64 (n : Int)] H (fun r H' => (∃ o, Lim H' r o ∧ natL o = natL a / 2 ^ n ∧ o.length = a.length) ∧ Ext H H') R := by
  refine does_ext e_185 hf (h := ?_)
  intro ρ h0
  simp only [s_185]
  have hm := mkV_int (bytes := 4) (k := .i64) (k' := .i64) (l := a.length) (c := a.length) (Nat.le_refl _) (by omega) (by omega)
  simp [r_185_0, r_185_1, r_185_2, h0, ha.slen, hm]
  generalize hPd : H.size = P
  generalize hSL : Value.slice (some ⟨P, 0, none⟩) a.length a.length = SL
  refine W_loopM (fun k t G' => ∃ i o, i + k = a.length ∧ t.length = 44 ∧ get t 0 = v ∧ get t 1 = .int .i64 (n : Int) ∧ get t 5 = SL ∧ get t 12 = .int .i64 a.length ∧ get t 13 = .int .i64 ((i : Nat) : Int) ∧
      Ext H G' ∧ Heap.blk G' P = .row false T_uint32 (u32s o) ∧ o.length = a.length ∧ LimOk o ∧ natL (o.take i) + 4294967296 ^ i * (natL (a.drop i) / 2 ^ n) = natL a / 2 ^ n)
    (fun t G' => ∃ o, t.length = 44 ∧ get t 5 = SL ∧
      Ext H G' ∧ Heap.blk G' P = .row false T_uint32 (u32s o) ∧ o.length = a.length ∧ LimOk o ∧ natL o = natL a / 2 ^ n) a.length ?_ ?_ ?_
  · refine ⟨0, List.replicate a.length 0, by omega, by simp, by simp [h0], by simp [h0], by simp, by simp, by simp, Ext.push (Ext.refl _), ?_, by simp, ?_, by simp [natL]⟩
    · rw [← hPd, blk_push_self]
      congr 1
      generalize a.length = n
      induction n with
      | zero => rfl
      | succ n ih => rw [repl, ih]; rfl
    · intro z hz; rw [List.mem_replicate] at hz; omega
  · clear h0 ρ hm
    rintro k t G' ⟨i, o, hik, ht, g0, g1, g5, g12, g13, hx2, hb, hol, hok, hs⟩
    obtain ⟨ρ, rfl⟩ := toT ht
    simp only [get_T, Nat.reduceLT] at g0 g1 g5 g12 g13
    by_cases hi : i < a.length
    · have hla := ha.load hi hx2
      have hia := ha.ia (k := .i64) hi
      have hA2 := natL_drop hi
      have hA3 : a.getD i 0 < 4294967296 := ha.2 _ (by rw [List.getD_eq_getElem?_getD, List.getElem?_eq_getElem hi]; exact List.getElem_mem hi)
      generalize a.getD i 0 = A at hla hA2 hA3
      have hlo : i < o.length := by omega
      obtain ⟨hio, hro⟩ := own_load (k := .i64) (cap := a.length) hb hlo hol
      rw [hSL] at hio
      have eA : IntKind.u64.wrap (A : Int) = (A : Int) := by rw [wrapu64]; omega
      have e9 : IntKind.i64.wrap ((i : Int) + 1) = ((i + 1 : Nat) : Int) := by rw [wrap64 (by omega) (by omega)]; omega
      by_cases hi1 : i + 1 < a.length
      · have hla1 := ha.load hi1 hx2
        have hia1 := ha.ia (k := .i64) hi1
        have hN := natL_drop hi1
        have hA13 : a.getD (i + 1) 0 < 4294967296 := ha.2 _ (by rw [List.getD_eq_getElem?_getD, List.getElem?_eq_getElem hi1]; exact List.getElem_mem hi1)
        generalize a.getD (i + 1) 0 = A1 at hla1 hN hA13
        have eA1 : IntKind.u64.wrap (A1 : Int) = (A1 : Int) := by rw [wrapu64]; omega
        have s1 : binA 0 .shl (.int .u64 (A1 : Int)) (.int .u64 32) = some (.int .u64 ((A1 * 4294967296 : Nat) : Int)) := by
          have := shl64 (tag := 0) (n := A1) (s := 32) (k' := .u64) (by omega)
          rw [show A1 * 2 ^ 32 % 18446744073709551616 = A1 * 4294967296 by omega] at this; exact this
        have s2 := or64 (tag := 0) (a := A) (b := A1 * 4294967296) (by omega) (by omega)
        rw [show A ||| A1 * 4294967296 = A + A1 * 4294967296 from or_addN (s := 32) hA3] at s2
        have s3 := shr64 (tag := 0) (n := A + A1 * 4294967296) (s := n) (k' := .i64) (by omega)
        simp [-Int.natCast_add, -Int.natCast_mul, -Int.natCast_pow, -Int.natCast_ediv, r_185_3, r_185_4, r_185_5, r_185_6, r_185_7, r_185_8, r_185_9, g0, g1, g5, g12, g13, hi, hi1, hia, hla, hia1, hla1, eA, eA1, e9, s1, s2, s3, ha.slen, hio]
        refine (num_low_uint64_does (by have := hx2.1; omega)).mono ?_
        rintro _ G3 ⟨rfl, hx3⟩
        replace hb := hx3.blk hb
        have hxx := hx2.trans hx3
        have hPl := blk_lt hb
        have hle : i + 1 ≤ o.length := hlo
        have hbl := back_limb hn hA3 hN
        simp [-Int.natCast_emod, -Int.natCast_ediv, -Int.natCast_add, hb, hle]
        have hz : (A + A1 * 4294967296) / 2 ^ n % 4294967296 < 4294967296 := Nat.mod_lt _ (by omega)
        rw [hA2, hbl] at hs
        generalize (A + A1 * 4294967296) / 2 ^ n % 4294967296 = z at hs hz ⊢
        have hset : natL (List.take (i + 1) (o.set i z)) = natL (List.take i o) + 4294967296 ^ i * z := natL_take_set hlo
        refine ⟨k - 1, by omega, i + 1, by omega, rfl, hxx.set (by omega), o.set i z, by rw [blk_set_self hPl, u32s_set], by simp [hol], LimOk_set hok hz, ?_⟩
        exact back_fin hset hs
      · obtain ⟨A1, hA1⟩ : ∃ x : Nat, x = 0 := ⟨0, rfl⟩
        have hN : natL (List.drop (i + 1) a) = A1 + 4294967296 * 0 := by rw [List.drop_eq_nil_of_le (by omega), hA1]; simp [natL]
        have s3 : binA 0 .shr (.int .u64 (A : Int)) (.int .i64 (n : Int)) = some (.int .u64 (((A + A1 * 4294967296) / 2 ^ n : Nat) : Int)) := by
          rw [shr64 (by omega), show A + A1 * 4294967296 = A by rw [hA1]; omega]
        clear hA1
        simp [-Int.natCast_add, -Int.natCast_mul, -Int.natCast_pow, -Int.natCast_ediv, r_185_3, r_185_4, r_185_5, r_185_6, r_185_7, r_185_8, r_185_9, g0, g1, g5, g12, g13, hi, hi1, hia, hla, eA, e9, s3, ha.slen, hio]
        refine (num_low_uint64_does (by have := hx2.1; omega)).mono ?_
        rintro _ G3 ⟨rfl, hx3⟩
        replace hb := hx3.blk hb
        have hxx := hx2.trans hx3
        have hPl := blk_lt hb
        have hle : i + 1 ≤ o.length := hlo
        have hbl := back_limb hn hA3 hN
        simp [-Int.natCast_emod, -Int.natCast_ediv, -Int.natCast_add, hb, hle]
        have hz : (A + A1 * 4294967296) / 2 ^ n % 4294967296 < 4294967296 := Nat.mod_lt _ (by omega)
        rw [hA2, hbl] at hs
        generalize (A + A1 * 4294967296) / 2 ^ n % 4294967296 = z at hs hz ⊢
        have hset : natL (List.take (i + 1) (o.set i z)) = natL (List.take i o) + 4294967296 ^ i * z := natL_take_set hlo
        refine ⟨k - 1, by omega, i + 1, by omega, rfl, hxx.set (by omega), o.set i z, by rw [blk_set_self hPl, u32s_set], by simp [hol], LimOk_set hok hz, ?_⟩
        exact back_fin hset hs
    · simp [r_185_3, g0, g1, g5, g12, g13, hi]
      have : i = a.length := by omega
      subst this
      refine ⟨hx2, o, hb, hol, hok, ?_⟩
      rw [List.take_of_length_le (by omega), List.drop_eq_nil_of_le (Nat.le_refl _)] at hs
      simpa [natL] using hs
  · clear h0 ρ hm
    rintro t G' ⟨o, ht, g5, hx2, hb, hol, hok, hs⟩
    obtain ⟨ρ, rfl⟩ := toT ht
    simp only [get_T, Nat.reduceLT] at g5
    have hy : Lim G' SL o := by
      rw [← hSL, ← hol]
      exact ⟨(Own.mk (fl := 0) hb (by simp) (Nat.zero_le _)).sl, hok⟩
    simp [r_185_10, g5]
    exact fun _ => ⟨o, hy, hs, hol⟩
end Go.Proofs.YtjlohmnnldbjoaaGreat.AI
