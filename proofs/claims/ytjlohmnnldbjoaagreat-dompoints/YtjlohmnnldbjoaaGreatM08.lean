/- Part 9 of the proof: AiFast3. -/
import Derived.Test.YtjlohmnnldbjoaaGreatM07
set_option linter.unusedVariables false
set_option linter.unusedSimpArgs false
set_option linter.unusedSectionVars false

/- The frequent operations by the recursors themselves: a run by the kernel makes the fewest terms. -/
namespace Go.Proofs.YtjlohmnnldbjoaaGreat.AI
open Go

noncomputable def evK : Opd → (Nat → Value) → Value := @Opd.rec (fun _ => (Nat → Value) → Value) (fun t g => g t) (fun v _ => v) (fun f _ => .func (.func f) #[] #[])
theorem evK_eq (o : Opd) (g : Nat → Value) : evK o g = evG g o := by cases o <;> rfl

noncomputable def selInt : Value → (IntKind → Int → OpResE) → OpResE → OpResE :=
  @Value.rec (fun _ => (IntKind → Int → OpResE) → OpResE → OpResE) (fun _ => Unit) (fun _ => Unit)
    (fun _ _ d => d) (fun k n f _ => f k n) (fun _ _ _ d => d) (fun _ _ _ _ d => d) (fun _ _ d => d) (fun _ _ d => d) (fun _ _ _ _ d => d) (fun _ _ d => d) (fun _ _ d => d)
    (fun _ _ _ _ _ _ d => d) (fun _ d => d) (fun _ _ _ _ d => d) (fun _ d => d) (fun _ _ _ d => d) (fun _ _ _ d => d) (fun _ _ => ()) () (fun _ _ _ _ => ())
noncomputable def selPtr : Value → (Addr → OpResE) → OpResE :=
  @Value.rec (fun _ => (Addr → OpResE) → OpResE) (fun _ => Unit) (fun _ => Unit)
    (fun _ _ => .bad) (fun _ _ _ => .bad) (fun _ _ _ => .bad) (fun _ _ _ _ => .bad) (fun _ _ => .bad) (fun a f => @Option.rec Addr (fun _ => OpResE) .bad f a) (fun _ _ _ _ => .bad) (fun _ _ => .bad) (fun _ _ => .bad)
    (fun _ _ _ _ _ _ => .bad) (fun _ => .bad) (fun _ _ _ _ => .bad) (fun _ => .bad) (fun _ _ _ => .bad) (fun _ _ _ => .bad) (fun _ _ => ()) () (fun _ _ _ _ => ())
noncomputable def selSl : Value → (Option Addr → Nat → Nat → OpResE) → OpResE :=
  @Value.rec (fun _ => (Option Addr → Nat → Nat → OpResE) → OpResE) (fun _ => Unit) (fun _ => Unit)
    (fun _ _ => .bad) (fun _ _ _ => .bad) (fun _ _ _ => .bad) (fun _ _ _ _ => .bad) (fun _ _ => .bad) (fun _ _ => .bad) (fun a n c f => f a n c) (fun _ _ => .bad) (fun _ _ => .bad)
    (fun _ _ _ _ _ _ => .bad) (fun _ => .bad) (fun _ _ _ _ => .bad) (fun _ => .bad) (fun _ _ _ => .bad) (fun _ _ _ => .bad) (fun _ _ => ()) () (fun _ _ _ _ => ())
noncomputable def selAgg : Value → (Array Value → OpResE) → OpResE :=
  @Value.rec (fun _ => (Array Value → OpResE) → OpResE) (fun _ => Unit) (fun _ => Unit)
    (fun _ _ => .bad) (fun _ _ _ => .bad) (fun _ _ _ => .bad) (fun _ _ _ _ => .bad) (fun _ _ => .bad) (fun _ _ => .bad) (fun _ _ _ _ => .bad) (fun _ _ => .bad) (fun _ _ => .bad)
    (fun _ _ _ _ _ _ => .bad) (fun _ => .bad) (fun _ _ _ _ => .bad) (fun _ => .bad) (fun cs _ f => f cs) (fun _ _ _ => .bad) (fun _ _ => ()) () (fun _ _ _ _ => ())
noncomputable def selTup : Value → (Array Value → OpResE) → OpResE :=
  @Value.rec (fun _ => (Array Value → OpResE) → OpResE) (fun _ => Unit) (fun _ => Unit)
    (fun _ _ => .bad) (fun _ _ _ => .bad) (fun _ _ _ => .bad) (fun _ _ _ _ => .bad) (fun _ _ => .bad) (fun _ _ => .bad) (fun _ _ _ _ => .bad) (fun _ _ => .bad) (fun _ _ => .bad)
    (fun _ _ _ _ _ _ => .bad) (fun _ => .bad) (fun _ _ _ _ => .bad) (fun _ => .bad) (fun _ _ _ => .bad) (fun cs _ f => f cs) (fun _ _ => ()) () (fun _ _ _ _ => ())
noncomputable def selBool : Value → OpResE → OpResE → OpResE :=
  @Value.rec (fun _ => OpResE → OpResE → OpResE) (fun _ => Unit) (fun _ => Unit)
    (fun b x y => @Bool.rec (fun _ => OpResE) y x b) (fun _ _ _ _ => .bad) (fun _ _ _ _ => .bad) (fun _ _ _ _ _ => .bad) (fun _ _ _ => .bad) (fun _ _ _ => .bad) (fun _ _ _ _ _ => .bad) (fun _ _ _ => .bad) (fun _ _ _ => .bad)
    (fun _ _ _ _ _ _ _ => .bad) (fun _ _ => .bad) (fun _ _ _ _ _ => .bad) (fun _ _ => .bad) (fun _ _ _ _ => .bad) (fun _ _ _ _ => .bad) (fun _ _ => ()) () (fun _ _ _ _ => ())
noncomputable def wantK : Value → Bool → Bool :=
  @Value.rec (fun _ => Bool → Bool) (fun _ => Unit) (fun _ => Unit)
    (fun b w => @Bool.rec (fun _ => Bool) (@Bool.rec (fun _ => Bool) true false w) w b) (fun _ _ _ => false) (fun _ _ _ => false) (fun _ _ _ _ => false) (fun _ _ => false) (fun _ _ => false) (fun _ _ _ _ => false) (fun _ _ => false) (fun _ _ => false)
    (fun _ _ _ _ _ _ => false) (fun _ => false) (fun _ _ _ _ => false) (fun _ => false) (fun _ _ _ => false) (fun _ _ _ => false) (fun _ _ => ()) () (fun _ _ _ _ => ())
noncomputable def cellsK : Value → List Value :=
  @Value.rec (fun _ => List Value) (fun _ => Unit) (fun _ => Unit)
    (fun b => [.bool b]) (fun k n => [.int k n]) (fun k b => [.float k b]) (fun k a b => [.complex k a b]) (fun s => [.string s]) (fun a => [.pointer a]) (fun a n c => [.slice a n c]) (fun r => [.map r]) (fun r => [.chan r])
    (fun f a b _ _ => [.func f a b]) [.nilFunc] (fun t v _ => [.iface t v]) [.nilIface] (fun cs _ => cs.toList) (fun vs _ => [.tuple vs]) (fun _ _ => ()) () (fun _ _ _ _ => ())
noncomputable def plainK : Value → Bool :=
  @Value.rec (fun _ => Bool) (fun _ => Unit) (fun _ => Unit)
    (fun _ => true) (fun _ _ => true) (fun _ _ => true) (fun _ _ _ => true) (fun _ => true) (fun _ => true) (fun _ _ _ => true) (fun _ => true) (fun _ => true)
    (fun _ _ _ _ _ => true) true (fun _ _ _ => true) true (fun _ _ => false) (fun _ _ => false) (fun _ _ => ()) () (fun _ _ _ _ => ())
theorem cellsK_eq (v : Value) : cellsK v = cellsL v := by cases v <;> rfl
theorem plainK_eq (v : Value) : plainK v = plainCell v := by cases v <;> rfl
theorem wantK_eq (v : Value) (w : Bool) : wantK v w = (match v with | .bool b => b == w | _ => false) := by
  cases v <;> try rfl
  rename_i b; cases b <;> cases w <;> rfl

noncomputable def allK (l : List Value) : Bool := @List.rec Value (fun _ => Bool) true (fun v _ ih => @Bool.rec (fun _ => Bool) false ih (plainK v)) l
theorem allK_eq (l : List Value) : allK l = l.all plainCell := by
  induction l with
  | nil => rfl
  | cons v r ih =>
    show @Bool.rec (fun _ => Bool) false (allK r) (plainK v) = _
    rw [List.all_cons, plainK_eq, ih]; cases plainCell v <;> rfl

noncomputable def nthK (l : List Value) : Nat → OpResE := @List.rec Value (fun _ => Nat → OpResE) (fun _ => .bad) (fun v _ ih k => @Bool.rec (fun _ => OpResE) (ih (Nat.sub k (nat_lit 1))) (.val v .same) (Nat.beq k (nat_lit 0))) l
theorem nthK_eq : ∀ (l : List Value) (k : Nat), nthK l k = optE l[k]?
  | [], k => rfl
  | v :: r, 0 => rfl
  | v :: r, k + 1 => by
    show nthK r k = _
    rw [nthK_eq r k, List.getElem?_cons_succ]

noncomputable def lenK (l : List Value) : Nat := @List.rec Value (fun _ => Nat) (nat_lit 0) (fun _ _ ih => Nat.add ih (nat_lit 1)) l
theorem lenK_eq (l : List Value) : lenK l = l.length := by
  induction l with
  | nil => rfl
  | cons v r ih => show Nat.add (lenK r) 1 = _; rw [ih]; rfl
noncomputable def dropK (l : List Value) : Nat → List Value := @List.rec Value (fun _ => Nat → List Value) (fun _ => []) (fun v r ih k => @Bool.rec (fun _ => List Value) (ih (Nat.sub k (nat_lit 1))) (v :: r) (Nat.beq k (nat_lit 0))) l
theorem dropK_eq : ∀ (l : List Value) (k : Nat), dropK l k = l.drop k
  | [], k => by simp [dropK]
  | v :: r, 0 => rfl
  | v :: r, k + 1 => by show dropK r k = _; rw [dropK_eq r k]; rfl
noncomputable def takeK (l : List Value) : Nat → List Value := @List.rec Value (fun _ => Nat → List Value) (fun _ => []) (fun v _ ih k => @Bool.rec (fun _ => List Value) (v :: ih (Nat.sub k (nat_lit 1))) [] (Nat.beq k (nat_lit 0))) l
theorem takeK_eq : ∀ (l : List Value) (k : Nat), takeK l k = l.take k
  | [], k => by simp [takeK]
  | v :: r, 0 => rfl
  | v :: r, k + 1 => by show v :: takeK r k = _; rw [takeK_eq r k]; rfl
noncomputable def setK (l : List Value) : Nat → Value → List Value := @List.rec Value (fun _ => Nat → Value → List Value) (fun _ _ => []) (fun v r ih k x => @Bool.rec (fun _ => List Value) (v :: ih (Nat.sub k (nat_lit 1)) x) (x :: r) (Nat.beq k (nat_lit 0))) l
theorem setK_eq : ∀ (l : List Value) (k : Nat) (x : Value), setK l k x = l.set k x
  | [], k, x => by simp [setK]
  | v :: r, 0, x => rfl
  | v :: r, k + 1, x => by show v :: setK r k x = _; rw [setK_eq r k x]; rfl
noncomputable def writeK (vs : List Value) : List Value → Nat → List Value := @List.rec Value (fun _ => List Value → Nat → List Value) (fun cs _ => cs) (fun v _ ih cs off => ih (setK cs off v) (Nat.add off (nat_lit 1))) vs
theorem writeK_eq : ∀ (vs cs : List Value) (off : Nat), writeK vs cs off = writeL cs off vs
  | [], cs, off => rfl
  | v :: r, cs, off => by show writeK r (setK cs off v) (off + 1) = _; rw [writeK_eq r, setK_eq]; rfl
noncomputable def appK (l m : List Value) : List Value := @List.rec Value (fun _ => List Value) m (fun v _ ih => v :: ih) l
theorem appK_eq (l m : List Value) : appK l m = l ++ m := by
  induction l with
  | nil => rfl
  | cons v r ih => show v :: appK r m = _; rw [ih]; rfl
noncomputable def mapK (l : List Opd) : (Nat → Value) → List Value := @List.rec Opd (fun _ => (Nat → Value) → List Value) (fun _ => []) (fun o _ ih g => evK o g :: ih g) l
theorem mapK_eq (l : List Opd) (g : Nat → Value) : mapK l g = l.map (evG g) := by
  induction l with
  | nil => rfl
  | cons o r ih => show evK o g :: mapK r g = _; rw [ih, evK_eq]; rfl

/-! ### numbers -/
noncomputable def kNat : IntKind → Nat := @IntKind.rec (fun _ => Nat) (nat_lit 0) (nat_lit 1) (nat_lit 2) (nat_lit 3) (nat_lit 4) (nat_lit 5) (nat_lit 6) (nat_lit 7)
noncomputable def modK : IntKind → Nat := @IntKind.rec (fun _ => Nat) (nat_lit 256) (nat_lit 65536) (nat_lit 4294967296) (nat_lit 18446744073709551616) (nat_lit 256) (nat_lit 65536) (nat_lit 4294967296) (nat_lit 18446744073709551616)
noncomputable def halfK : IntKind → Nat := @IntKind.rec (fun _ => Nat) (nat_lit 128) (nat_lit 32768) (nat_lit 2147483648) (nat_lit 9223372036854775808) (nat_lit 128) (nat_lit 32768) (nat_lit 2147483648) (nat_lit 9223372036854775808)
noncomputable def sgnK : IntKind → Bool := @IntKind.rec (fun _ => Bool) true true true true false false false false
noncomputable def finK (k : IntKind) (m : Nat) : Int :=
  @Bool.rec (fun _ => Int) (.ofNat m) (@Bool.rec (fun _ => Int) (.ofNat m) (.negSucc (Nat.sub (Nat.sub (modK k) m) (nat_lit 1))) (Nat.ble (halfK k) m)) (sgnK k)
noncomputable def wrapK (k : IntKind) (n : Int) : Int :=
  @Int.rec (fun _ => Int) (fun a => finK k (Nat.mod a (modK k))) (fun a => finK k (Nat.sub (modK k) (Nat.succ (Nat.mod a (modK k))))) n
noncomputable def sameK (k k' : IntKind) : Bool := Nat.beq (kNat k) (kNat k')
theorem sameK_eq (k k' : IntKind) : sameK k k' = decide (k = k') := by cases k <;> cases k' <;> rfl
noncomputable def eqK (a b : Int) : Bool := @Int.rec (fun _ => Bool) (fun m => @Int.rec (fun _ => Bool) (fun n => Nat.beq m n) (fun _ => false) b) (fun m => @Int.rec (fun _ => Bool) (fun _ => false) (fun n => Nat.beq m n) b) a
noncomputable def ltK (a b : Int) : Bool := @Int.rec (fun _ => Bool) (fun m => @Int.rec (fun _ => Bool) (fun n => Nat.ble (Nat.succ m) n) (fun _ => false) b) (fun m => @Int.rec (fun _ => Bool) (fun _ => true) (fun n => Nat.ble (Nat.succ n) m) b) a
theorem eqK_eq (a b : Int) : eqK a b = (a == b) := by
  rw [Bool.eq_iff_iff, beq_iff_eq]
  cases a with
  | ofNat m => cases b with
    | ofNat n => show Nat.beq m n = true ↔ _; rw [Nat.beq_eq, Int.ofNat.injEq]
    | negSucc n => show false = true ↔ _; simp
  | negSucc m => cases b with
    | ofNat n => show false = true ↔ _; simp
    | negSucc n => show Nat.beq m n = true ↔ _; rw [Nat.beq_eq, Int.negSucc.injEq]
theorem ltK_eq (a b : Int) : ltK a b = decide (a < b) := by
  rw [Bool.eq_iff_iff, decide_eq_true_iff]
  cases a with
  | ofNat m => cases b with
    | ofNat n => show Nat.ble (m + 1) n = true ↔ _; rw [Nat.ble_eq]; simp only [Int.ofNat_eq_natCast]; omega
    | negSucc n => show false = true ↔ _; simp only [Int.ofNat_eq_natCast, Int.negSucc_eq]; simp; omega
  | negSucc m => cases b with
    | ofNat n => show true = true ↔ _; simp only [Int.ofNat_eq_natCast, Int.negSucc_eq]; simp; omega
    | negSucc n => show Nat.ble (n + 1) m = true ↔ _; rw [Nat.ble_eq]; simp only [Int.negSucc_eq]; omega
theorem wrap_of {k : IntKind} {n : Int} {M : Nat} (hM : (2 ^ k.bits : Int) = M) (hp : 0 < M) (hk : modK k = M) (hh : (2 ^ (k.bits - 1) : Int) = (halfK k : Nat)) (hs : k.signed = sgnK k) (hb : halfK k ≤ M) : wrapK k n = k.wrap n := by
  have key : ∀ m : Nat, (m : Int) = n % (2 ^ k.bits : Int) → m < M → finK k m = k.wrap n := by
    intro m hm hlt
    rw [hM] at hm
    unfold IntKind.wrap finK
    simp only [hh, hM, hs, hk]
    rw [← hm]
    cases sgnK k with
    | false => simp
    | true =>
      simp only [Bool.true_and]
      by_cases hle : halfK k ≤ m
      · have h1 : Nat.ble (halfK k) m = true := by rw [Nat.ble_eq]; exact hle
        rw [h1, if_pos (by simp only [decide_eq_true_eq]; omega)]
        show Int.negSucc (M - m - 1) = _
        rw [Int.negSucc_eq]; omega
      · have h1 : Nat.ble (halfK k) m = false := by rw [Bool.eq_false_iff]; simpa using hle
        rw [h1, if_neg (by simp only [decide_eq_true_eq]; omega)]; rfl
  cases n with
  | ofNat a =>
    refine key (Nat.mod a (modK k)) ?_ (by rw [hk]; exact Nat.mod_lt _ hp)
    rw [hM, hk]; rfl
  | negSucc a =>
    have hlt : a % M < M := Nat.mod_lt _ hp
    refine key (Nat.sub (modK k) (Nat.succ (Nat.mod a (modK k)))) ?_ ?_
    · rw [hM, hk]
      show ((M - (a % M + 1) : Nat) : Int) = Int.negSucc a % (M : Int)
      rw [Int.negSucc_emod a (by omega)]
      have : ((a : Int) % (M : Int)) = ((a % M : Nat) : Int) := rfl
      rw [this]; omega
    · rw [hk]; show M - (a % M + 1) < M; omega
theorem wrapK_eq (k : IntKind) (n : Int) : wrapK k n = k.wrap n := by
  cases k
  · exact wrap_of (M := 256) (by decide) (by decide) rfl (by decide) rfl (by decide)
  · exact wrap_of (M := 65536) (by decide) (by decide) rfl (by decide) rfl (by decide)
  · exact wrap_of (M := 4294967296) (by decide) (by decide) rfl (by decide) rfl (by decide)
  · exact wrap_of (M := 18446744073709551616) (by decide) (by decide) rfl (by decide) rfl (by decide)
  · exact wrap_of (M := 256) (by decide) (by decide) rfl (by decide) rfl (by decide)
  · exact wrap_of (M := 65536) (by decide) (by decide) rfl (by decide) rfl (by decide)
  · exact wrap_of (M := 4294967296) (by decide) (by decide) rfl (by decide) rfl (by decide)
  · exact wrap_of (M := 18446744073709551616) (by decide) (by decide) rfl (by decide) rfl (by decide)

/-! ### by a bool's recursor -/
theorem brec_beq {α : Type} (x y : α) (a b : Nat) : @Bool.rec (fun _ => α) x y (Nat.beq a b) = if a = b then y else x := by
  by_cases h : a = b
  · rw [if_pos h, show Nat.beq a b = true by rw [Nat.beq_eq]; exact h]
  · rw [if_neg h, show Nat.beq a b = false by rw [Bool.eq_false_iff]; simpa using h]
theorem brec_ble {α : Type} (x y : α) (a b : Nat) : @Bool.rec (fun _ => α) x y (Nat.ble a b) = if a ≤ b then y else x := by
  by_cases h : a ≤ b
  · rw [if_pos h, show Nat.ble a b = true by rw [Nat.ble_eq]; exact h]
  · rw [if_neg h, show Nat.ble a b = false by rw [Bool.eq_false_iff]; simpa using h]
theorem brec_if {α : Type} (x y : α) (b : Bool) : @Bool.rec (fun _ => α) x y b = if b = true then y else x := by cases b <;> rfl

noncomputable def leK (a b : Int) : Bool := @Bool.rec (fun _ => Bool) true false (ltK b a)
theorem leK_eq (a b : Int) : leK a b = decide (a ≤ b) := by
  unfold leK; rw [ltK_eq]
  by_cases h : b < a
  · rw [decide_eq_true h, decide_eq_false (by omega)]
  · rw [decide_eq_false h, decide_eq_true (by omega)]

abbrev OpK := (Nat → Blk) → Nat → Nat → (Nat → Value) → OpResE

noncomputable def intK : BinOp → IntKind → Int → IntKind → Int → OpResE → OpResE :=
  @BinOp.rec (fun _ => IntKind → Int → IntKind → Int → OpResE → OpResE)
    (fun k a k' c d => @Bool.rec (fun _ => OpResE) d (.val (.int k (wrapK k (Int.add a c))) .same) (sameK k k'))
    (fun k a k' c d => @Bool.rec (fun _ => OpResE) d (.val (.int k (wrapK k (Int.sub a c))) .same) (sameK k k'))
    (fun k a k' c d => @Bool.rec (fun _ => OpResE) d (.val (.int k (wrapK k (Int.mul a c))) .same) (sameK k k'))
    (fun _ _ _ _ d => d) (fun _ _ _ _ d => d) (fun _ _ _ _ d => d) (fun _ _ _ _ d => d) (fun _ _ _ _ d => d) (fun _ _ _ _ d => d) (fun _ _ _ _ d => d) (fun _ _ _ _ d => d)
    (fun k a k' c d => @Bool.rec (fun _ => OpResE) d (.val (.bool (eqK a c)) .same) (sameK k k'))
    (fun k a k' c d => @Bool.rec (fun _ => OpResE) d (.val (.bool (@Bool.rec (fun _ => Bool) true false (eqK a c))) .same) (sameK k k'))
    (fun k a k' c d => @Bool.rec (fun _ => OpResE) d (.val (.bool (ltK a c)) .same) (sameK k k'))
    (fun k a k' c d => @Bool.rec (fun _ => OpResE) d (.val (.bool (leK a c)) .same) (sameK k k'))
    (fun k a k' c d => @Bool.rec (fun _ => OpResE) d (.val (.bool (ltK c a)) .same) (sameK k k'))
    (fun k a k' c d => @Bool.rec (fun _ => OpResE) d (.val (.bool (leK c a)) .same) (sameK k k'))

noncomputable def binK (tag : Nat) (b : BinOp) (x y : Value) : OpResE :=
  selInt x (fun k a => selInt y (fun k' c => intK b k a k' c (optE (binA tag b x y))) (optE (binA tag b x y))) (optE (binA tag b x y))
theorem binK_eq (tag : Nat) (b : BinOp) (x y : Value) : binK tag b x y = optE (binA tag b x y) := by
  unfold binK
  cases x <;> try rfl
  cases y <;> try rfl
  rename_i k a k' c
  show intK b k a k' c (optE (binA tag b (.int k a) (.int k' c))) = optE (binA tag b (.int k a) (.int k' c))
  have fin : ∀ v v' : Value, v' = v → @Bool.rec (fun _ => OpResE) (optE (if k = k' then some v else none)) (.val v' .same) (sameK k k') = optE (if k = k' then some v else none) := by
    intro v v' hv; rw [sameK_eq, hv]
    by_cases h : k = k'
    · rw [if_pos h, decide_eq_true h]; rfl
    · rw [if_neg h, decide_eq_false h]
  cases b <;> try rfl
  · exact fin (.int k (k.wrap (a + c))) (.int k (wrapK k (Int.add a c))) (by rw [wrapK_eq]; rfl)
  · exact fin (.int k (k.wrap (a - c))) (.int k (wrapK k (Int.sub a c))) (by rw [wrapK_eq]; rfl)
  · exact fin (.int k (k.wrap (a * c))) (.int k (wrapK k (Int.mul a c))) (by rw [wrapK_eq]; rfl)
  · exact fin (.bool (a == c)) (.bool (eqK a c)) (by rw [eqK_eq])
  · exact fin (.bool (a != c)) (.bool (@Bool.rec (fun _ => Bool) true false (eqK a c))) (by rw [eqK_eq, bne]; cases a == c <;> rfl)
  · exact fin (.bool (decide (a < c))) (.bool (ltK a c)) (by rw [ltK_eq])
  · exact fin (.bool (decide (a ≤ c))) (.bool (leK a c)) (by rw [leK_eq])
  · exact fin (.bool (decide (a > c))) (.bool (ltK c a)) (by rw [ltK_eq])
  · exact fin (.bool (decide (a ≥ c))) (.bool (leK c a)) (by rw [leK_eq])

/-! ### the operations -/
noncomputable def winK (b : Blk) (off n : Nat) (K : List Value → OpResE) : OpResE :=
  @Blk.rec (fun _ => OpResE) .bad (fun _ _ cs => @Bool.rec (fun _ => OpResE) .bad (K (takeK (dropK cs off) n)) (Nat.ble (Nat.add off n) (lenK cs))) b
theorem winK_eq (blk : Nat → Blk) (b off n : Nat) (K : List Value → OpResE) : winK (blk b) off n K = (match cellsG blk b off n with | some cs => K cs | none => .bad) := by
  unfold winK cellsG
  cases blk b with
  | dead => rfl
  | row ro e cs =>
    show @Bool.rec (fun _ => OpResE) .bad (K (takeK (dropK cs off) n)) (Nat.ble (Nat.add off n) (lenK cs)) = _
    rw [brec_ble, takeK_eq, dropK_eq, lenK_eq]
    show (if off + n ≤ cs.length then _ else _) = _
    by_cases h : off + n ≤ cs.length
    · rw [if_pos h]; simp only; rw [if_pos h]
    · rw [if_neg h]; simp only; rw [if_neg h]

noncomputable def k_mv (x : Opd) : OpK := fun _ _ _ g => .val (evK x g) .same
noncomputable def k_pick (c a b : Opd) : OpK := fun _ _ _ g => selBool (evK c g) (.val (evK a g) .same) (.val (evK b g) .same)
noncomputable def k_alloc (e : TypeId) (z : List Value) : OpK := fun _ size _ _ => .val (.pointer (some ⟨size, nat_lit 0, none⟩)) (.push (.row false e z))
noncomputable def k_box (e : TypeId) (x : Opd) : OpK := fun _ size _ g => .val (.pointer (some ⟨size, nat_lit 0, none⟩)) (.push (.row false e (cellsK (evK x g))))

noncomputable def fillK (ps : List (Nat × Nat × Opd)) : (Nat → Value) → List Value → (List Value → OpResE) → OpResE :=
  @List.rec (Nat × Nat × Opd) (fun _ => (Nat → Value) → List Value → (List Value → OpResE) → OpResE) (fun _ cells K => K cells)
    (fun p _ ih g cells K => @Bool.rec (fun _ => OpResE) .bad (@Bool.rec (fun _ => OpResE) .bad (ih g (writeK (cellsK (evK p.2.2 g)) cells p.1) K) (Nat.ble (Nat.add p.1 p.2.1) (lenK cells))) (Nat.beq (lenK (cellsK (evK p.2.2 g))) p.2.1)) ps
theorem fillK_eq : ∀ (ps : List (Nat × Nat × Opd)) (g : Nat → Value) (cells : List Value) (K : List Value → OpResE), fillK ps g cells K = (match fillL cells (partsG g ps) with | some cs => K cs | none => .bad)
  | [], g, cells, K => rfl
  | p :: r, g, cells, K => by
    show @Bool.rec (fun _ => OpResE) .bad (@Bool.rec (fun _ => OpResE) .bad (fillK r g (writeK (cellsK (evK p.2.2 g)) cells p.1) K) (Nat.ble (Nat.add p.1 p.2.1) (lenK cells))) (Nat.beq (lenK (cellsK (evK p.2.2 g))) p.2.1) = _
    rw [brec_beq, brec_ble, fillK_eq r, writeK_eq, cellsK_eq, evK_eq, lenK_eq, lenK_eq]
    simp only [partsG, List.map_cons, fillL, Nat.add_eq]
    by_cases h1 : (cellsL (evG g p.2.2)).length = p.2.1
    · rw [if_pos h1]
      by_cases h2 : p.1 + p.2.1 ≤ cells.length
      · rw [if_pos h2, if_pos ⟨h1, h2⟩]
      · rw [if_neg h2, if_neg (fun h => h2 h.2)]
    · rw [if_neg h1, if_neg (fun h => h1 h.1)]
noncomputable def replK (z : List Value) (n : Nat) : List Value := @Nat.rec (fun _ => List Value) [] (fun _ ih => appK z ih) n
theorem replK_eq (z : List Value) (n : Nat) : replK z n = repl z n := by
  induction n with
  | zero => rfl
  | succ n ih => show appK z (replK z n) = _; rw [ih, appK_eq]; rfl

noncomputable def k_build (z : List Value) (ps : List (Nat × Nat × Opd)) : OpK := fun _ _ _ g => fillK ps g z (fun cs => .val (.agg ⟨cs⟩) .same)
noncomputable def k_lit (e : TypeId) (z : List Value) (n : Nat) (ps : List (Nat × Nat × Opd)) : OpK := fun _ size _ g => fillK ps g (replK z n) (fun cs => .val (.slice (some ⟨size, nat_lit 0, none⟩) n n) (.push (.row false e cs)))
noncomputable def load1K (p : Addr) (blk : Nat → Blk) : OpResE :=
  @Option.rec _ (fun _ => OpResE) (@Blk.rec (fun _ => OpResE) .bad (fun _ _ cs => nthK cs p.off) (blk p.block)) (fun _ => .bad) p.spot
noncomputable def loadNK (p : Addr) (n : Nat) (blk : Nat → Blk) : OpResE :=
  @Bool.rec (fun _ => OpResE) (@Option.rec _ (fun _ => OpResE) (winK (blk p.block) p.off n (fun cs => .val (.agg ⟨cs⟩) .same)) (fun _ => .bad) p.spot) (.val (.agg #[]) .same) (Nat.beq n (nat_lit 0))
noncomputable def k_load (agg : Bool) (n : Nat) (a : Opd) : OpK := fun blk _ _ g => selPtr (evK a g) (fun p => @Bool.rec (fun _ => OpResE) (load1K p blk) (loadNK p n blk) agg)
noncomputable def storeK (b : Blk) (fl n : Nat) (p : Addr) (vs : List Value) : OpResE :=
  @Blk.rec (fun _ => OpResE) .bad (fun ro e cs => @Bool.rec (fun _ => OpResE)
    (@Bool.rec (fun _ => OpResE) .bad (@Bool.rec (fun _ => OpResE) .bad (@Bool.rec (fun _ => OpResE) .bad (.val undef (.set p.block (.row false e (writeK vs cs p.off)))) (allK vs)) (Nat.ble (Nat.add p.off (lenK vs)) (lenK cs))) (Nat.ble fl p.block)) .bad ro) b
noncomputable def k_store (n : Nat) (a x : Opd) : OpK := fun blk _ fl g => selPtr (evK a g) (fun p =>
  @Option.rec _ (fun _ => OpResE) (@Bool.rec (fun _ => OpResE) .bad (storeK (blk p.block) fl n p (cellsK (evK x g))) (Nat.beq (lenK (cellsK (evK x g))) n)) (fun _ => .bad) p.spot)
noncomputable def k_bin (tag : Nat) (b : BinOp) (x y : Opd) : OpK := fun _ _ _ g => binK tag b (evK x g) (evK y g)
noncomputable def k_conv (k : IntKind) (x : Opd) : OpK := fun _ _ _ g => selInt (evK x g) (fun _ n => .val (.int k (wrapK k n)) .same) .bad
noncomputable def k_fa (off : Nat) (a : Opd) : OpK := fun _ _ _ g => selPtr (evK a g) (fun p => @Option.rec _ (fun _ => OpResE) (.val (.pointer (some ⟨p.block, Nat.add p.off off, none⟩)) .same) (fun _ => .bad) p.spot)
noncomputable def k_fld (agg : Bool) (off n : Nat) (x : Opd) : OpK := fun _ _ _ g => selAgg (evK x g) (fun cs =>
  @Bool.rec (fun _ => OpResE) (nthK cs.toList off) (@Bool.rec (fun _ => OpResE) .bad (.val (.agg ⟨takeK (dropK cs.toList off) n⟩) .same) (Nat.ble (Nat.add off n) (lenK cs.toList))) agg)
noncomputable def k_ia (sz : Nat) (x i : Opd) : OpK := fun _ _ _ g => selSl (evK x g) (fun a n _ => @Option.rec _ (fun _ => OpResE) .bad (fun p =>
  selInt (evK i g) (fun _ j => @Int.rec (fun _ => OpResE) (fun j => @Bool.rec (fun _ => OpResE) .bad (.val (.pointer (some ⟨p.block, Nat.add p.off (Nat.mul j sz), none⟩)) .same) (Nat.ble (Nat.succ j) n)) (fun _ => .bad) j) .bad) a)
noncomputable def k_ext (x : Opd) (i : Nat) : OpK := fun _ _ _ g => selTup (evK x g) (fun vs => nthK vs.toList i)
noncomputable def k_call (f : FuncId) (args : List Opd) (lone : Bool) : OpK := fun _ _ _ g => .call f (mapK args g) lone
noncomputable def k_len (x : Opd) : OpK := fun _ _ _ g => selSl (evK x g) (fun _ n _ => .val (.int .i64 (.ofNat n)) .same)
noncomputable def newK (size n : Nat) (elem : TypeId) (cs : List Value) : OpResE := .val (.slice (some ⟨size, nat_lit 0, none⟩) n unk) (.push (.row false elem cs))
noncomputable def growK (blk : Nat → Blk) (size fl : Nat) (elem sz : Nat) (sp : Addr) (len cap n : Nat) (new : List Value) : OpResE :=
  winK (blk sp.block) sp.off (Nat.mul len sz) (fun old =>
    @Bool.rec (fun _ => OpResE)
      (@Blk.rec (fun _ => OpResE) .bad (fun ro e _ => @Bool.rec (fun _ => OpResE)
        (@Bool.rec (fun _ => OpResE) .bad (@Bool.rec (fun _ => OpResE) .bad (.val (.slice (some ⟨size, nat_lit 0, none⟩) (Nat.add len n) unk) (.mv sp.block (.row false elem (appK old new)))) (Nat.ble fl sp.block)) (Nat.beq e elem)) .bad ro) (blk sp.block))
      (newK size (Nat.add len n) elem (appK old new))
      (@Bool.rec (fun _ => Bool) (Nat.ble (Nat.succ cap) (Nat.add len n)) false (Nat.beq cap (nat_lit 18446744073709551616))))
noncomputable def k_app (elem : TypeId) (sz bytes : Nat) (s x : Opd) : OpK := fun blk size fl g => selSl (evK s g) (fun base len cap => selSl (evK x g) (fun xb n _ =>
  @Bool.rec (fun _ => OpResE)
    (@Bool.rec (fun _ => OpResE) .bad (@Bool.rec (fun _ => OpResE) .bad (@Bool.rec (fun _ => OpResE) .bad
      (@Option.rec _ (fun _ => OpResE) .bad (fun xp => winK (blk xp.block) xp.off (Nat.mul n sz) (fun new =>
        @Bool.rec (fun _ => OpResE) .bad
          (@Option.rec _ (fun _ => OpResE)
            (@Bool.rec (fun _ => OpResE) .bad (@Bool.rec (fun _ => OpResE) .bad (newK size n elem new) (Nat.beq cap (nat_lit 0))) (Nat.beq len (nat_lit 0)))
            (fun sp => @Bool.rec (fun _ => OpResE) (growK blk size fl elem sz sp len cap n new) (@Bool.rec (fun _ => OpResE) (growK blk size fl elem sz sp len cap n new) (newK size n elem new) (Nat.beq cap (nat_lit 0))) (Nat.beq len (nat_lit 0)))
            base) (allK new))) xb)
      (Nat.ble (nat_lit 1) sz)) (Nat.ble bytes (nat_lit 1024))) (Nat.ble (Nat.add len n) (nat_lit 1073741824)))
    (.val (.slice base len cap) .same) (Nat.beq n (nat_lit 0))))

section
variable (blk : Nat → Blk) (size fl : Nat) (g : Nat → Value)

theorem load1K_eq (p : Addr) (n : Nat) : load1K p blk = optE (loadG blk false n (.pointer (some p))) := by
  obtain ⟨b, o, s⟩ := p
  cases s with
  | some s => rfl
  | none =>
    show @Blk.rec (fun _ => OpResE) .bad (fun _ _ cs => nthK cs o) (blk b) = optE (match cellsG blk b o 1 with | some cs => cs.head? | none => none)
    unfold cellsG
    cases blk b with
    | dead => rfl
    | row ro e cs =>
      show nthK cs o = _
      rw [nthK_eq]
      simp only
      by_cases h : o + 1 ≤ cs.length
      · rw [if_pos h]
        simp only
        congr 1
        rw [List.head?_take, if_neg (by decide), List.head?_drop]
      · rw [if_neg h, List.getElem?_eq_none (by omega)]
theorem loadNK_eq (p : Addr) (n : Nat) : loadNK p n blk = optE (loadG blk true n (.pointer (some p))) := by
  obtain ⟨b, o, s⟩ := p
  unfold loadNK
  rw [brec_beq]
  by_cases hn : n = 0
  · rw [if_pos hn]; unfold loadG; simp only [true_and]; rw [if_pos hn]; rfl
  · rw [if_neg hn]; unfold loadG; simp only [true_and]; rw [if_neg hn]
    cases s with
    | some s => rfl
    | none =>
      show winK (blk b) o n (fun cs => .val (.agg ⟨cs⟩) .same) = optE (match cellsG blk b o n with | some cs => some (.agg cs.toArray) | none => none)
      rw [winK_eq]
      cases cellsG blk b o n <;> rfl
theorem k_load_eq (agg : Bool) (n : Nat) (a : Opd) : k_load agg n a blk size fl g = opE blk size fl g (.load agg n a) := by
  unfold k_load; simp only [opE]
  rw [evK_eq]
  cases evG g a <;> try rfl
  rename_i p; cases p with
  | none => rfl
  | some p =>
    cases agg
    · exact load1K_eq blk p n
    · exact loadNK_eq blk p n
theorem k_store_eq (n : Nat) (a x : Opd) : k_store n a x blk size fl g = opE blk size fl g (.store n a x) := by
  unfold k_store; simp only [opE]
  simp only [evK_eq, cellsK_eq, brec_beq, lenK_eq]
  cases evG g a <;> try rfl
  rename_i p; cases p with
  | none => rfl
  | some p =>
    simp only
    show (@Option.rec _ (fun _ => OpResE) (if (cellsL (evG g x)).length = n then storeK (blk p.block) fl n p (cellsL (evG g x)) else .bad) (fun _ => .bad) p.spot) = _
    obtain ⟨pb, po, ps⟩ := p
    cases ps with
    | some s => simp
    | none =>
      generalize hp : (⟨pb, po, none⟩ : Addr) = p
      have hps : p.spot = none := by rw [← hp]
      rw [hps]
      show (if (cellsL (evG g x)).length = n then storeK (blk p.block) fl n p (cellsL (evG g x)) else .bad) = _
      by_cases h : (cellsL (evG g x)).length = n
      · rw [if_pos h, if_neg (by simp [h])]
        unfold storeK writeG
        cases blk p.block with
        | dead => rfl
        | row ro e cs =>
          cases ro with
          | true => rfl
          | false =>
            show @Bool.rec (fun _ => OpResE) .bad (@Bool.rec (fun _ => OpResE) .bad (@Bool.rec (fun _ => OpResE) .bad (.val undef (.set p.block (.row false e (writeK (cellsL (evG g x)) cs p.off)))) (allK (cellsL (evG g x)))) (Nat.ble (Nat.add p.off (lenK (cellsL (evG g x)))) (lenK cs))) (Nat.ble fl p.block) = _
            rw [brec_ble, brec_ble, brec_if, writeK_eq, allK_eq, lenK_eq, lenK_eq]
            simp only
            show (if fl ≤ p.block then (if p.off + (cellsL (evG g x)).length ≤ cs.length then (if (cellsL (evG g x)).all plainCell = true then _ else _) else _) else _) = _
            by_cases h1 : fl ≤ p.block
            · by_cases h2 : p.off + (cellsL (evG g x)).length ≤ cs.length
              · by_cases h3 : (cellsL (evG g x)).all plainCell = true
                · rw [if_pos h1, if_pos h2, if_pos h3, if_pos ⟨h1, h2, h3⟩]
                · rw [if_pos h1, if_pos h2, if_neg h3, if_neg (fun h => h3 h.2.2)]
              · rw [if_pos h1, if_neg h2, if_neg (fun h => h2 h.2.1)]
            · rw [if_neg h1, if_neg (fun h => h1 h.1)]
      · rw [if_neg h, if_pos (.inr h)]
theorem k_app_eq (e : TypeId) (sz bytes : Nat) (s x : Opd) : k_app e sz bytes s x blk size fl g = opE blk size fl g (.app e sz bytes s x) := by
  unfold k_app; simp only [opE]
  simp only [evK_eq, brec_beq, brec_ble]
  simp only [brec_if]
  cases evG g s <;> try rfl
  rename_i base len cap
  cases evG g x <;> try (cases base <;> rfl)
  rename_i xb n xc
  unfold appG
  show (if n = 0 then _ else if len + n ≤ 1073741824 then if bytes ≤ 1024 then if 1 ≤ sz then _ else _ else _ else _) = _
  simp only
  by_cases h1 : n = 0
  · rw [if_pos h1, if_pos h1]; rfl
  rw [if_neg h1, if_neg h1]
  by_cases h2 : len + n ≤ 1073741824 ∧ bytes ≤ 1024 ∧ 0 < sz
  · rw [if_pos h2, if_pos h2.1, if_pos h2.2.1, if_pos (show 1 ≤ sz from h2.2.2)]
    cases xb with
    | none => rfl
    | some xp =>
      simp only [winK_eq]
      show (match cellsG blk xp.block xp.off (n * sz) with | some cs => _ | none => _) = _
      cases cellsG blk xp.block xp.off (n * sz) with
      | none => rfl
      | some new =>
        simp only
        rw [allK_eq]
        cases new.all plainCell with
        | false => rfl
        | true =>
          simp only [if_true, Bool.true_eq_false, if_false]
          cases base with
          | none =>
            show (if len = 0 then (if cap = 0 then _ else _) else _) = _
            simp only
            by_cases h3 : len = 0
            · by_cases h4 : cap = 0
              · rw [if_pos h3, if_pos h4, if_pos ⟨h3, h4⟩]; rfl
              · rw [if_pos h3, if_neg h4, if_neg (fun h => h4 h.2)]; rfl
            · rw [if_neg h3, if_neg (fun h => h3 h.1)]; rfl
          | some sp =>
            have grow : ¬ (len = 0 ∧ cap = 0) → growK blk size fl e sz sp len cap n new = optE2 (match cellsG blk sp.block sp.off (len * sz) with
                | none => none
                | some old =>
                  if cap ≠ unk ∧ cap < len + n then some (.slice (some ⟨size, 0, none⟩) (len + n) unk, .push (.row false e (old ++ new)))
                  else
                    match blk sp.block with
                    | .row false e' _ =>
                      if e' = e ∧ fl ≤ sp.block then some (.slice (some ⟨size, 0, none⟩) (len + n) unk, .mv sp.block (.row false e (old ++ new)))
                      else none
                    | _ => none) := by
              intro _
              unfold growK
              rw [winK_eq]
              show (match cellsG blk sp.block sp.off (len * sz) with | some cs => _ | none => _) = _
              cases cellsG blk sp.block sp.off (len * sz) with
              | none => rfl
              | some old =>
                simp only [brec_beq, brec_ble, appK_eq]
                simp only [brec_if]
                have hun : (if cap = 18446744073709551616 then false else Nat.ble (Nat.succ cap) (Nat.add len n)) = decide (cap ≠ unk ∧ cap < len + n) := by
                  by_cases hc : cap = 18446744073709551616
                  · rw [if_pos hc]; simp [unk, hc]
                  · rw [if_neg hc, Bool.eq_iff_iff, Nat.ble_eq, decide_eq_true_iff]
                    exact ⟨fun h => ⟨hc, h⟩, fun h => h.2⟩
                rw [hun]
                by_cases h5 : cap ≠ unk ∧ cap < len + n
                · rw [if_pos h5]; simp only [decide_eq_true h5, if_true]; rfl
                · rw [if_neg h5]; simp only [decide_eq_false h5, Bool.false_eq_true, if_false]
                  cases blk sp.block with
                  | dead => rfl
                  | row ro e' cs =>
                    cases ro with
                    | true => rfl
                    | false =>
                      simp only [Bool.false_eq_true, if_false]
                      by_cases h6 : e' = e
                      · by_cases h7 : fl ≤ sp.block
                        · rw [if_pos h6, if_pos h7, if_pos ⟨h6, h7⟩]; rfl
                        · rw [if_pos h6, if_neg h7, if_neg (fun h => h7 h.2)]; rfl
                      · rw [if_neg h6, if_neg (fun h => h6 h.1)]; rfl
            show (if len = 0 then (if cap = 0 then newK size n e new else growK blk size fl e sz sp len cap n new) else growK blk size fl e sz sp len cap n new) = _
            simp only
            by_cases h3 : len = 0
            · by_cases h4 : cap = 0
              · rw [if_pos h3, if_pos h4, if_pos ⟨h3, h4⟩]; rfl
              · rw [if_pos h3, if_neg h4, if_neg (fun h => h4 h.2)]; exact grow (fun h => h4 h.2)
            · rw [if_neg h3, if_neg (fun h => h3 h.1)]; exact grow (fun h => h3 h.1)
  · rw [if_neg h2]
    by_cases a1 : len + n ≤ 1073741824
    · by_cases a2 : bytes ≤ 1024
      · rw [if_pos a1, if_pos a2, if_neg (fun h : 1 ≤ sz => h2 ⟨a1, a2, h⟩)]; rfl
      · rw [if_pos a1, if_neg a2]; rfl
    · rw [if_neg a1]; rfl
end

noncomputable def opK : SOp → OpK := @SOp.rec (fun _ => OpK)
  k_mv k_pick k_alloc k_box k_build k_lit k_load k_store
  (fun a0 blk size fl g => e_chk blk size fl g a0)
  k_bin
  (fun a0 a1 blk size fl g => e_un blk size fl g a0 a1)
  k_conv
  (fun a0 a1 blk size fl g => e_iface blk size fl g a0 a1)
  (fun a0 a1 a2 blk size fl g => e_mkfn blk size fl g a0 a1 a2)
  (fun a0 a1 a2 a3 a4 blk size fl g => e_mk blk size fl g a0 a1 a2 a3 a4)
  (fun a0 a1 a2 a3 a4 a5 blk size fl g => e_sl blk size fl g a0 a1 a2 a3 a4 a5)
  k_fa
  (fun a0 a1 blk size fl g => e_fa0 blk size fl g a0 a1)
  k_fld k_ia k_ext k_call
  (fun a0 a1 a2 blk size fl g => e_callv blk size fl g a0 a1 a2)
  (fun a0 a1 a2 a3 blk size fl g => e_inv blk size fl g a0 a1 a2 a3)
  k_len
  (fun a0 a1 a2 blk size fl g => e_mnx blk size fl g a0 a1 a2)
  k_app
  (fun a0 blk size fl g => e_pan blk size fl g a0)

theorem opK_eq (blk : Nat → Blk) (size fl : Nat) (g : Nat → Value) (op : SOp) : opK op blk size fl g = opE blk size fl g op := by
  cases op <;> try rfl
  case mv x => show OpResE.val (evK x g) .same = .val (evG g x) .same; rw [evK_eq]
  case pick c a b =>
    show selBool (evK c g) (.val (evK a g) .same) (.val (evK b g) .same) = opE blk size fl g (.pick c a b)
    simp only [opE]; rw [evK_eq, evK_eq, evK_eq]
    cases evG g c <;> try rfl
    rename_i b; cases b <;> rfl
  case box e x => show OpResE.val _ (.push (.row false e (cellsK (evK x g)))) = .val _ (.push (.row false e (cellsL (evG g x)))); rw [evK_eq, cellsK_eq]
  case build z ps =>
    show fillK ps g z (fun cs => .val (.agg ⟨cs⟩) .same) = optE ((fillL z (partsG g ps)).map fun cs => .agg cs.toArray)
    rw [fillK_eq]; cases fillL z (partsG g ps) <;> rfl
  case lit e z n ps =>
    show fillK ps g (replK z n) _ = opE blk size fl g (.lit e z n ps)
    rw [fillK_eq, replK_eq]; simp only [opE]
    cases fillL (repl z n) (partsG g ps) <;> rfl
  case load agg n a => exact k_load_eq blk size fl g agg n a
  case store n a x => exact k_store_eq blk size fl g n a x
  case bin tag b x y => show binK tag b (evK x g) (evK y g) = optE (binA tag b (evG g x) (evG g y)); rw [binK_eq, evK_eq, evK_eq]
  case conv k x =>
    show selInt (evK x g) (fun _ n => .val (.int k (wrapK k n)) .same) .bad = opE blk size fl g (.conv k x)
    simp only [opE]; rw [evK_eq]
    cases evG g x <;> try rfl
    rename_i n; show OpResE.val (.int k (wrapK k n)) .same = _; rw [wrapK_eq]
  case fa off a =>
    show selPtr (evK a g) _ = opE blk size fl g (.fa off a)
    simp only [opE]; rw [evK_eq]
    cases evG g a <;> try rfl
    rename_i p; cases p with
    | none => rfl
    | some p =>
      obtain ⟨b, o, s⟩ := p
      cases s <;> rfl
  case fld agg off n x =>
    show selAgg (evK x g) _ = optE (fldA agg off n (evG g x))
    rw [evK_eq]
    cases evG g x <;> try rfl
    rename_i cs
    cases agg with
    | false =>
      show nthK cs.toList off = optE cs[off]?
      rw [nthK_eq]; simp
    | true =>
      show @Bool.rec (fun _ => OpResE) .bad (.val (.agg ⟨takeK (dropK cs.toList off) n⟩) .same) (Nat.ble (Nat.add off n) (lenK cs.toList)) = optE (if off + n ≤ cs.size then some (.agg (cs.extract off (off + n))) else none)
      rw [brec_ble, lenK_eq, takeK_eq, dropK_eq]
      show (if off + n ≤ cs.toList.length then _ else _) = _
      have hs : cs.toList.length = cs.size := by simp
      rw [hs]
      by_cases h : off + n ≤ cs.size
      · rw [if_pos h, if_pos h]
        have : (⟨(cs.toList.drop off).take n⟩ : Array Value) = cs.extract off (off + n) := by
          apply Array.toList_inj.1
          rw [Array.toList_extract, List.extract_eq_take_drop, Nat.add_sub_cancel_left]
        rw [this]; rfl
      · rw [if_neg h, if_neg h]; rfl
  case ia sz x i =>
    show selSl (evK x g) _ = opE blk size fl g (.ia sz x i)
    simp only [opE, evK_eq]
    cases evG g x <;> try rfl
    rename_i p n c; cases p with
    | none => rfl
    | some p =>
      show selInt (evG g i) _ .bad = _
      cases evG g i <;> try rfl
      rename_i k j
      simp only
      cases j with
      | ofNat j =>
        show @Bool.rec (fun _ => OpResE) .bad (.val (.pointer (some ⟨p.block, p.off + j * sz, none⟩)) .same) (Nat.ble (Nat.succ j) n) = _
        rw [brec_ble]
        by_cases h : j < n
        · rw [if_pos (show j.succ ≤ n from h), if_pos (by simp only [Int.ofNat_eq_natCast]; omega)]; rfl
        · rw [if_neg (show ¬ j.succ ≤ n from h), if_neg (by simp only [Int.ofNat_eq_natCast]; omega)]
      | negSucc j =>
        rw [if_neg (by simp)]; rfl
  case ext x i =>
    show selTup (evK x g) _ = opE blk size fl g (.ext x i)
    simp only [opE]; rw [evK_eq]
    cases evG g x <;> try rfl
    rename_i vs; show nthK vs.toList i = optE vs[i]?; rw [nthK_eq]; simp
  case call f args lone => show OpResE.call f (mapK args g) lone = .call f (args.map (evG g)) lone; rw [mapK_eq]
  case len x =>
    show selSl (evK x g) _ = opE blk size fl g (.len x)
    simp only [opE]; rw [evK_eq]
    cases evG g x <;> rfl
  case app e sz bytes s x => exact k_app_eq blk size fl g e sz bytes s x

end Go.Proofs.YtjlohmnnldbjoaaGreat.AI
