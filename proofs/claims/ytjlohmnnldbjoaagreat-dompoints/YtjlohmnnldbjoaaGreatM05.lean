/- Part 6 of the proof: AiNum1, AiNum2, AiMath1, AiNum3, AiNum4, AiNum5, AiMath2, AiNum6, AiNum7, AiNum8, AiNum9, AiBits, AiNum10, AiNum11, AiNum12, AiNum13, AiNum14. -/
import Derived.Test.YtjlohmnnldbjoaaGreatM04
set_option linter.unusedVariables false
set_option linter.unusedSimpArgs false
set_option linter.unusedSectionVars false

/- num: what its functions answer. -/
namespace Go.Proofs.YtjlohmnnldbjoaaGreat.AI
open Go

variable {fl : Nat} {H : Heap} {R : PostP} {v : Value} {i : Bool × List Nat}

def mayB (i : Bool × List Nat) : Bool := if i.2.length = 0 then !i.1 else i.2.getD (i.2.length - 1) 0 != 0

theorem num_May_does (h : IntV H v i) (hf : fl ≤ H.size) (hn : i.2.length < 4611686018427387904) :
    Does env fl f_131 [v] H (fun r H' => r = .bool (mayB i) ∧ Ext H H') R := by
  obtain ⟨s, rfl, hs⟩ := h
  refine does_ext e_131 hf (h := ?_)
  intro ρ h0
  simp [s_131]
  simp [r_131_0, r_131_1, r_131_2, r_131_3, h0]
  simp (disch := first | omega | assumption | (simp; done) | (repeat (first | assumption | exact Ext.refl _ | apply Ext.push | apply Ext.set))) [hs.slen, hs.iaZ, hs.load, wrap64]
  refine ⟨fun h => by simp [mayB, h], fun h => ?_⟩
  have hl := List.length_pos_iff.2 h
  simp (disch := first | omega | assumption | (simp; done) | (repeat (first | assumption | exact Ext.refl _ | apply Ext.push | apply Ext.set))) [hs.iaZ, hs.load, mayB, h]

def limbsL (i : Bool × List Nat) : List Nat := if mayB i then i.2 else []

theorem num_limbs_does (h : IntV H v i) (hf : fl ≤ H.size) (hn : i.2.length < 4611686018427387904) :
    Does env fl f_119 [v] H (fun r H' => Lim H' r (limbsL i) ∧ Ext H H') R := by
  obtain ⟨s, rfl, hs⟩ := h
  refine does_ext e_119 hf (h := ?_)
  intro ρ h0
  simp [s_119]
  simp [r_119_0, r_119_1, r_119_2, r_119_3, h0]
  refine (num_May_does ⟨s, rfl, hs.mono (by simp)⟩ (by simp) hn).mono ?_
  rintro _ G ⟨rfl, hx⟩
  simp [hx.2, limbsL]
  exact ⟨fun h _ => by simp [h, Lim.nil], fun h hx => by simp [h, hs.mono hx]⟩

def negB (i : Bool × List Nat) : Bool := mayB i && i.1

theorem num_neg_does (h : IntV H v i) (hf : fl ≤ H.size) (hn : i.2.length < 4611686018427387904) :
    Does env fl f_120 [v] H (fun r H' => r = .bool (negB i) ∧ Ext H H') R := by
  obtain ⟨s, rfl, hs⟩ := h
  refine does_ext e_120 hf (h := ?_)
  intro ρ h0
  simp [s_120]
  simp [r_120_0, r_120_1, h0]
  refine (num_May_does ⟨s, rfl, hs.mono (by simp)⟩ (by simp) hn).mono ?_
  rintro _ G ⟨rfl, hx⟩
  cases hm : mayB i <;> simp [hx.2, negB, h0, hm]

theorem num_low_uint64_does {x : Nat} (hf : fl ≤ H.size) :
    Does env fl f_125 [.int .u64 x] H (fun r H' => r = .int .u32 ((x % 4294967296 : Nat) : Int) ∧ Ext H H') R := by
  refine does_ext e_125 hf (h := ?_)
  intro ρ h0
  simp [s_125]
  simp [r_125_0, r_125_1, h0, wrapu32]

def cmpZ (a b : Int) : Int := if a < b then -1 else if a > b then 1 else 0

theorem num_order_int_does {a b : Int} (hf : fl ≤ H.size) :
    Does env fl f_154 [.int .i64 a, .int .i64 b] H (fun r H' => r = .int .i64 (cmpZ a b) ∧ Ext H H') R := by
  refine does_ext e_154 hf (h := ?_)
  intro ρ h0
  simp [s_154]
  simp [r_154_0, r_154_1, r_154_2, r_154_3, r_154_4, r_154_5, h0, cmpZ]
  refine ⟨fun h1 h2 => ?_, fun h1 => ⟨fun h2 => ?_, fun h2 => ?_⟩⟩ <;> (repeat' split) <;> omega
theorem num_order_uint32_does {a b : Int} (hf : fl ≤ H.size) :
    Does env fl f_155 [.int .u32 a, .int .u32 b] H (fun r H' => r = .int .i64 (cmpZ a b) ∧ Ext H H') R := by
  refine does_ext e_155 hf (h := ?_)
  intro ρ h0
  simp [s_155]
  simp [r_155_0, r_155_1, r_155_2, r_155_3, r_155_4, r_155_5, h0, cmpZ]
  refine ⟨fun h1 h2 => ?_, fun h1 => ⟨fun h2 => ?_, fun h2 => ?_⟩⟩ <;> (repeat' split) <;> omega

/-! ### slices.Clone, made -/
theorem Clone_does {l : List Nat} (h : Lim H v l) (hf : fl ≤ H.size) (hn : l.length ≤ 1073741824) :
    Does env fl f_153 [v] H (fun r H' => Lim H' r l ∧ Ext H H') R := by
  refine does_ext e_153 hf (h := ?_)
  intro ρ h0
  simp [s_153]
  simp [r_153_0, r_153_1, r_153_2, r_153_3, h0]
  have hd := h
  obtain ⟨⟨hl, ⟨rfl, h2⟩ | ⟨b, off, cap, ro, cells, rfl, hb, ho, hcs⟩⟩, hx⟩ := h
  · have : l = [] := List.length_eq_zero_iff.1 h2
    subst this
    simp [Lim.nil]
  · simp
    have ho2 : Own H.size (H.push (.row false T_uint32 [])) T_uint32 1 (.slice (some ⟨H.size, 0, none⟩) 0 0) 0 [] := Own.mk blk_push_self (by simp) (Nat.le_refl _)
    obtain ⟨v', G', h1, h2, h3, h4⟩ := app_own (bytes := 4) ho2 ((hd.mono (Ext.push (Ext.refl H))).1) plain_u32s (by omega) (by omega) (by omega) (by simp)
    simp only [Nat.zero_add, List.nil_append] at h2
    simp [h1]
    exact fun _ => ⟨h2.sl, hx⟩
end Go.Proofs.YtjlohmnnldbjoaaGreat.AI

/- num.made. -/
namespace Go.Proofs.YtjlohmnnldbjoaaGreat.AI
open Go

variable {fl : Nat} {H : Heap} {R : PostP} {v : Value} {i : Bool × List Nat} {l : List Nat}

def trimL (l : List Nat) : List Nat := (l.reverse.dropWhile (· == 0)).reverse
theorem trimL_nil : trimL [] = [] := rfl
theorem trimL_snoc0 : trimL (l ++ [0]) = trimL l := by simp [trimL]
theorem trimL_snoc {x : Nat} (h : x ≠ 0) : trimL (l ++ [x]) = l ++ [x] := by simp [trimL, h]
def mkI (neg : Bool) (l : List Nat) : Bool × List Nat := if trimL l = [] then (false, []) else (neg, trimL l)

theorem take_succ_getD {n : Nat} (h : n < l.length) : l.take (n + 1) = l.take n ++ [l.getD n 0] := by
  rw [List.take_add_one, List.getElem?_eq_getElem h, List.getD_eq_getElem?_getD, List.getElem?_eq_getElem h]; rfl

theorem num_made_does {b : Bool} (h : Lim H v l) (hf : fl ≤ H.size) (hn : l.length ≤ 1073741824) :
    Does env fl f_121 [.bool b, v] H (fun r H' => IntV H' r (mkI b l) ∧ Ext H H') R := by
  refine does_ext e_121 hf (h := ?_)
  intro ρ h0
  simp [s_121]
  simp [r_121_0, r_121_1, h0, h.slen]
  refine W_loopM (fun k t G => G = H.push (.row false T_api_Int [.bool false, .slice none 0 0]) ∧ t.length = 29 ∧ get t 0 = .bool b ∧ get t 1 = v ∧ get t 4 = .pointer (some ⟨H.size, 0, none⟩) ∧
      get t 5 = .int .i64 k ∧ k ≤ l.length ∧ trimL (l.take k) = trimL l)
    (fun t G => ∃ k : Nat, G = H.push (.row false T_api_Int [.bool false, .slice none 0 0]) ∧ t.length = 29 ∧ get t 0 = .bool b ∧ get t 1 = v ∧ get t 4 = .pointer (some ⟨H.size, 0, none⟩) ∧
      get t 5 = .int .i64 k ∧ k ≤ l.length ∧ trimL l = l.take k) l.length (by simp [h0]) ?_ ?_
  · rintro k t G ⟨rfl, ht, g0, g1, g4, g5, hk, htr⟩
    obtain ⟨ρ, rfl⟩ := toT ht
    simp only [get_T, Nat.reduceLT] at g0 g1 g4 g5
    by_cases hk0 : k = 0
    · subst hk0
      simp [r_121_2, g0, g1, g4, g5]
      exact ⟨0, by simp, by simp, by rw [← htr]; rfl⟩
    · have hp : 0 < k := by omega
      have w1 : IntKind.i64.wrap ((k : Int) - 1) = ((k - 1 : Nat) : Int) := by rw [wrap64 (by omega) (by omega)]; omega
      simp [r_121_2, r_121_3, g0, g1, g4, g5, hp, w1, h.ia (show k - 1 < l.length by omega), h.load (show k - 1 < l.length by omega)]
      have hk1 : l.take k = l.take (k - 1) ++ [l.getD (k - 1) 0] := by rw [← take_succ_getD (by omega)]; congr 1; omega
      rw [List.getD_eq_getElem?_getD] at hk1
      refine ⟨fun hz => ⟨k - 1, by omega, rfl, by omega, ?_⟩, fun hz => ⟨k, rfl, hk, ?_⟩⟩
      · rw [← htr, hk1, hz, trimL_snoc0]
      · rw [← htr, hk1, trimL_snoc hz]
  · rintro t G ⟨k, rfl, ht, g0, g1, g4, g5, hk, htr⟩
    obtain ⟨ρ, rfl⟩ := toT ht
    simp only [get_T, Nat.reduceLT] at g0 g1 g4 g5
    obtain ⟨v', h1, h2⟩ := h.take hk (x := none) rfl (y := some (.int .i64 (k : Int))) (by simp)
    simp [r_121_4, r_121_5, r_121_6, g0, g1, g4, g5, h.elemOk, h1]
    refine ⟨fun hk0 => ⟨.slice none 0 0, by simp [mkI, htr, hk0], by simp [mkI, htr, hk0, Lim.nil]⟩, fun hk0 => ?_⟩
    refine (Clone_does (h2.mono (by simp)) (by simp) (by simp; omega)).mono ?_
    rintro r G ⟨hr, hx⟩
    have hlt : H.size < G.size := by have := hx.1; simp at this; omega
    simp [hr.cells, hr.plain, hx.2, hlt]
    have hl0 : l ≠ [] := by rintro rfl; exact hk0 (by simpa using hk)
    refine fun _ => ⟨r, ?_, ?_⟩
    · simp [mkI, htr, hk0, hl0]
    · have : (mkI b l).2 = l.take k := by simp [mkI, htr, hk0, hl0]
      rw [this]
      exact hr.setT (by rw [hx.2 _ (by simp)]; exact blk_push_self) (by decide)
end Go.Proofs.YtjlohmnnldbjoaaGreat.AI

/- Limbs and numbers: plain laws. -/
namespace Go.Proofs.YtjlohmnnldbjoaaGreat.AI
open Go

def natL : List Nat → Nat
  | [] => 0
  | x :: l => x + 4294967296 * natL l

def LimOk (l : List Nat) : Prop := ∀ x ∈ l, x < 4294967296

theorem natL_append : ∀ (a b : List Nat), natL (a ++ b) = natL a + 4294967296 ^ a.length * natL b
  | [], b => by simp [natL]
  | x :: a, b => by
    simp only [List.cons_append, natL, natL_append a b, List.length_cons, Nat.pow_succ]
    rw [Nat.mul_add, ← Nat.mul_assoc, Nat.mul_comm (4294967296 ^ a.length) 4294967296, Nat.add_assoc]
theorem natL_snoc (a : List Nat) (x : Nat) : natL (a ++ [x]) = natL a + 4294967296 ^ a.length * x := by rw [natL_append]; simp [natL]
theorem natL_lt : ∀ (l : List Nat), LimOk l → natL l < 4294967296 ^ l.length
  | [], _ => by simp [natL]
  | x :: l, h => by
    have h1 := natL_lt l (fun y hy => h y (List.mem_cons_of_mem _ hy))
    have h2 := h x (List.mem_cons_self ..)
    simp only [natL, List.length_cons, Nat.pow_succ]
    omega

theorem trimL_cons (x : Nat) (l : List Nat) : trimL (x :: l) = if trimL l = [] ∧ x = 0 then [] else x :: trimL l := by
  unfold trimL
  rw [List.reverse_cons, List.dropWhile_append]
  by_cases h : (List.dropWhile (fun x => x == 0) l.reverse).isEmpty = true
  · rw [if_pos h]
    have h' : List.dropWhile (fun x => x == 0) l.reverse = [] := by simpa using h
    rw [h']
    by_cases hx : x = 0 <;> simp [hx]
  · rw [if_neg h]
    have h' : List.dropWhile (fun x => x == 0) l.reverse ≠ [] := by simpa using h
    rw [if_neg (by simp [h'])]
    simp

theorem natL_zero : ∀ (l : List Nat), natL l = 0 ↔ trimL l = []
  | [] => by simp [natL, trimL_nil]
  | x :: l => by
    rw [trimL_cons]
    have := natL_zero l
    by_cases h : trimL l = [] ∧ x = 0
    · rw [if_pos h]; have := this.2 h.1; simp [natL, this, h.2]
    · rw [if_neg h]
      simp only [natL, reduceCtorEq, iff_false]
      intro h0
      exact h ⟨this.1 (by omega), by omega⟩

def digits (n : Nat) : List Nat := if h : n = 0 then [] else (n % 4294967296) :: digits (n / 4294967296)
termination_by n
decreasing_by omega

theorem digits_zero : digits 0 = [] := by unfold digits; simp
theorem digits_pos {n : Nat} (h : n ≠ 0) : digits n = (n % 4294967296) :: digits (n / 4294967296) := by rw [digits]; simp [h]

theorem trimL_digits : ∀ (l : List Nat), LimOk l → trimL l = digits (natL l)
  | [], _ => by rw [trimL_nil, natL, digits_zero]
  | x :: l, h => by
    have ih := trimL_digits l (fun y hy => h y (List.mem_cons_of_mem _ hy))
    have hx := h x (List.mem_cons_self ..)
    rw [trimL_cons]
    by_cases hc : trimL l = [] ∧ x = 0
    · rw [if_pos hc]
      have := (natL_zero l).2 hc.1
      rw [natL, this, hc.2, digits_zero]
    · rw [if_neg hc]
      have hne : natL (x :: l) ≠ 0 := by
        intro h0
        simp only [natL] at h0
        exact hc ⟨(natL_zero l).1 (by omega), by omega⟩
      rw [digits_pos hne]
      have e1 : natL (x :: l) % 4294967296 = x := by simp only [natL]; omega
      have e2 : natL (x :: l) / 4294967296 = natL l := by simp only [natL]; omega
      rw [e1, e2, ih]

theorem natL_digits (n : Nat) : natL (digits n) = n := by
  induction n using Nat.strongRecOn with
  | ind n ih =>
    by_cases h : n = 0
    · rw [h, digits_zero]; rfl
    · rw [digits_pos h, natL, ih _ (by omega)]; omega

theorem digits_ok (n : Nat) : LimOk (digits n) := by
  induction n using Nat.strongRecOn with
  | ind n ih =>
    by_cases h : n = 0
    · rw [h, digits_zero]; intro x hx; simp at hx
    · rw [digits_pos h]
      intro x hx
      rcases List.mem_cons.1 hx with rfl | hx
      · omega
      · exact ih _ (by omega) x hx

theorem digits_len {n k : Nat} (h : n < 4294967296 ^ k) : (digits n).length ≤ k := by
  induction k generalizing n with
  | zero => have : n = 0 := by simpa using h
            rw [this, digits_zero]; simp
  | succ k ih =>
    by_cases h0 : n = 0
    · rw [h0, digits_zero]; simp
    · rw [digits_pos h0, List.length_cons]
      have : n / 4294967296 < 4294967296 ^ k := by
        rw [Nat.div_lt_iff_lt_mul (by omega)]; rw [Nat.pow_succ] at h; exact h
      have := ih this
      omega

theorem lt_digits (n : Nat) : n < 4294967296 ^ (digits n).length := by
  have := natL_lt (digits n) (digits_ok n)
  rwa [natL_digits] at this

theorem digits_eq_nil {n : Nat} : digits n = [] ↔ n = 0 := by
  constructor
  · intro h; rw [← natL_digits n, h]; rfl
  · rintro rfl; exact digits_zero

theorem digits_last {n : Nat} (h : n ≠ 0) : (digits n).getD ((digits n).length - 1) 0 ≠ 0 := by
  induction n using Nat.strongRecOn with
  | ind n ih =>
    rw [digits_pos h]
    by_cases h2 : n / 4294967296 = 0
    · rw [h2, digits_zero]; simp; omega
    · have := ih (n / 4294967296) (by omega) h2
      have hl : (digits (n / 4294967296)).length ≠ 0 := fun h3 => h2 (digits_eq_nil.1 (List.length_eq_zero_iff.1 h3))
      rw [List.length_cons, show (digits (n / 4294967296)).length + 1 - 1 = ((digits (n / 4294967296)).length - 1) + 1 by omega, List.getD_cons_succ]
      exact this

def valI (i : Bool × List Nat) : Int := if mayB i then (if i.1 then -(natL i.2 : Int) else natL i.2) else 0
def canonI (z : Int) : Bool × List Nat := (decide (z < 0), digits z.natAbs)

theorem mkI_eq {b : Bool} {l : List Nat} (h : LimOk l) : mkI b l = canonI (if b then -(natL l : Int) else natL l) := by
  unfold mkI canonI
  rw [trimL_digits l h]
  by_cases h0 : natL l = 0
  · rw [h0, digits_zero]; cases b <;> simp [digits_zero]
  · rw [if_neg (by rw [digits_eq_nil]; exact h0)]
    cases b <;> simp <;> omega

theorem may_canon (z : Int) : mayB (canonI z) = true := by
  unfold mayB canonI
  by_cases h : z = 0
  · subst h; simp [digits_zero]
  · have h1 : z.natAbs ≠ 0 := by omega
    have h2 : (digits z.natAbs).length ≠ 0 := fun h3 => h1 (digits_eq_nil.1 (List.length_eq_zero_iff.1 h3))
    simp only
    rw [if_neg h2]
    simpa using digits_last h1

theorem val_canon (z : Int) : valI (canonI z) = z := by
  unfold valI
  rw [may_canon]
  simp only [canonI, natL_digits, if_true]
  by_cases h : z < 0 <;> simp [h] <;> omega

theorem canon_zero : canonI 0 = (false, []) := by simp [canonI, digits_zero]

end Go.Proofs.YtjlohmnnldbjoaaGreat.AI

/- num.plus. -/
namespace Go.Proofs.YtjlohmnnldbjoaaGreat.AI
open Go
set_option maxHeartbeats 4000000

variable {fl : Nat} {H : Heap} {R : PostP} {v w : Value} {a b : List Nat}

theorem Lim.ok {l : List Nat} (h : Lim H v l) : LimOk l := h.2

theorem natL_take_succ {l : List Nat} {n : Nat} (h : n < l.length) : natL (l.take (n + 1)) = natL (l.take n) + 4294967296 ^ n * l.getD n 0 := by
  rw [take_succ_getD h, natL_snoc, List.length_take, Nat.min_eq_left (by omega)]

theorem num_plus_does (ha : Lim H v a) (hb : Lim H w b) (hf : fl ≤ H.size) (hna : a.length < 1073741824) (hnb : b.length < 1073741824) :
    Does env fl f_122 [v, w] H (fun r H' => (∃ o, Lim H' r o ∧ natL o = natL a + natL b ∧ o.length = max a.length b.length + 1) ∧ Ext H H') R := by
  refine does_ext e_122 hf (h := ?_)
  intro ρ h0
  simp only [s_122]
  refine W_seq (W_reg ?_)
  simp [-We_seq, r_122_0, h0]
  refine W_seq (W_mid (fun t G => G = H ∧ t.length = 55 ∧ ∃ v w a' b', get t 0 = v ∧ get t 1 = w ∧ Lim H v a' ∧ Lim H w b' ∧ b'.length ≤ a'.length ∧ a'.length = max a.length b.length ∧ natL a' + natL b' = natL a + natL b) ?_ ?_)
  · simp [r_122_1, r_122_2, h0, ha.slen, hb.slen]
    exact ⟨fun h => ⟨b, hb, a, ha, by omega, by omega, by omega⟩, fun h => ⟨a, ha, b, hb, by omega, by omega, by omega⟩⟩
  clear h0 ρ
  rintro t G ⟨rfl, ht, v, w, a', b', g0, g1, ha', hb', hle, hlen, hsum⟩
  obtain ⟨ρ, rfl⟩ := toT ht
  simp only [get_T, Nat.reduceLT] at g0 g1
  have hna' : a'.length < 1073741824 := by omega
  rw [← hlen, ← hsum]
  clear ha hb hna hnb hlen hsum a b
  have w1 : IntKind.i64.wrap ((a'.length : Int) + 1) = (a'.length : Int) + 1 := wrap64 (by omega) (by omega)
  have hm := mkVZ (bytes := 4) (k := .i64) (k' := .i64) (l := 0) (c := (a'.length : Int) + 1) (by omega) (by omega) (by omega) (by omega)
  simp [r_122_3, r_122_4, r_122_5, g0, g1, ha'.slen, w1, hm]
  refine W_loopM (fun k t G' => ∃ i c out s, i + k = a'.length ∧ t.length = 55 ∧ get t 1 = w ∧ get t 5 = s ∧ get t 6 = .int .u64 ((c : Nat) : Int) ∧ get t 20 = v ∧ get t 21 = .int .i64 a'.length ∧ get t 22 = .int .i64 ((i : Nat) : Int) ∧
      Ext G G' ∧ Own G.size G' T_uint32 1 s i (u32s out) ∧ LimOk out ∧ out.length = i ∧ c ≤ 1 ∧ natL out + 4294967296 ^ i * c = natL (a'.take i) + natL (b'.take i))
    (fun t G' => ∃ c out s, t.length = 55 ∧ get t 5 = s ∧ get t 6 = .int .u64 ((c : Nat) : Int) ∧
      Ext G G' ∧ Own G.size G' T_uint32 1 s a'.length (u32s out) ∧ LimOk out ∧ out.length = a'.length ∧ c ≤ 1 ∧ natL out + 4294967296 ^ a'.length * c = natL a' + natL b') a'.length ?_ ?_ ?_
  · exact ⟨0, 0, [], .slice (some ⟨G.size, 0, none⟩) 0 (a'.length + 1), by omega, by simp, by simp [g1], by simp, by simp, by simp, by simp, by simp, by simp,
      Own.mk (by simp [u32s]) rfl (Nat.le_refl _), by intro x hx; simp at hx, rfl, by omega, by simp [natL]⟩
  · clear g0 g1 hm w1 ht ρ
    rintro k t G' ⟨i, c, out, s, hik, ht, g1, g5, g6, g20, g21, g22, hx, ho, hok, hol, hc, hs⟩
    obtain ⟨ρ, rfl⟩ := toT ht
    simp only [get_T, Nat.reduceLT] at g1 g5 g6 g20 g21 g22
    by_cases hi : i < a'.length
    · have hla := ha'.load hi hx
      have hA2 := natL_take_succ hi
      have hA3 : a'.getD i 0 < 4294967296 := ha'.2 _ (by rw [List.getD_eq_getElem?_getD, List.getElem?_eq_getElem hi]; exact List.getElem_mem hi)
      generalize a'.getD i 0 = A at hla hA2 hA3
      have e1 : IntKind.u64.wrap ((c : Int) + IntKind.u64.wrap (A : Int)) = ((c + A : Nat) : Int) := by rw [wrapu64, wrapu64]; omega
      have e9 : IntKind.i64.wrap ((i : Int) + 1) = ((i + 1 : Nat) : Int) := by rw [wrap64 (by omega) (by omega)]; omega
      by_cases hib : i < b'.length
      · have hlb := hb'.load hib hx
        have hB2 := natL_take_succ hib
        have hB3 : b'.getD i 0 < 4294967296 := hb'.2 _ (by rw [List.getD_eq_getElem?_getD, List.getElem?_eq_getElem hib]; exact List.getElem_mem hib)
        generalize b'.getD i 0 = B at hlb hB2 hB3
        have e2 : IntKind.u64.wrap (((c + A : Nat) : Int) + IntKind.u64.wrap (B : Int)) = ((c + A + B : Nat) : Int) := by rw [wrapu64, wrapu64]; omega
        simp [-Int.natCast_add, r_122_6, r_122_7, r_122_8, r_122_9, r_122_10, r_122_11, r_122_12, r_122_13, g1, g5, g6, g20, g21, g22, hi, ha'.ia hi, hla, hb'.slen, e1, hib, hb'.ia hib, hlb, e2]
        generalize hc2 : c + A + B = c2
        refine (num_low_uint64_does hx.1).mono ?_
        rintro _ G2 ⟨rfl, hx2⟩
        obtain ⟨s', G3, h1, h2, h3, h4⟩ := app_lit (e2 := T_uint32) (new := [.int .u32 ((c2 % 4294967296 : Nat) : Int)]) (c := 1) (bytes := 4) (ho.mono hx2) rfl rfl (by omega) (by omega) (by omega) (by have := hx.1; have := hx2.1; omega)
        simp [-Int.natCast_emod, -Int.natCast_add, h1, g1, g5, g6, g20, g21, g22, e9]
        refine ⟨k - 1, by omega, i + 1, by omega, c2 / 4294967296, rfl, rfl, h4 _ (Nat.le_refl _) (hx.trans hx2), out ++ [c2 % 4294967296], by simpa [u32s] using h2, ?_, by simp [hol], by omega, ?_⟩
        · intro x hx
          rcases List.mem_append.1 hx with hx | hx
          · exact hok x hx
          · simp at hx; omega
        · rw [natL_snoc, hol, hA2, hB2, Nat.pow_succ]
          have e3 : 4294967296 ^ i * 4294967296 * (c2 / 4294967296) = 4294967296 ^ i * (4294967296 * (c2 / 4294967296)) := Nat.mul_assoc ..
          have e4 : 4294967296 ^ i * (c2 % 4294967296) + 4294967296 ^ i * (4294967296 * (c2 / 4294967296)) = 4294967296 ^ i * c2 := by rw [← Nat.mul_add, Nat.mod_add_div]
          have e5 : 4294967296 ^ i * c2 = 4294967296 ^ i * c + 4294967296 ^ i * A + 4294967296 ^ i * B := by rw [← hc2, Nat.mul_add, Nat.mul_add]
          omega
      · have hB2 : natL (b'.take (i + 1)) = natL (b'.take i) + 4294967296 ^ i * 0 := by rw [List.take_of_length_le (by omega), List.take_of_length_le (by omega)]; simp
        have hB3 : (0 : Nat) < 4294967296 := by omega
        have e2 : c + A = c + A + 0 := rfl
        rw [e2] at e1
        generalize (0 : Nat) = B at hB2 hB3 e1
        simp [-Int.natCast_add, r_122_6, r_122_7, r_122_8, r_122_9, r_122_10, r_122_11, r_122_12, r_122_13, g1, g5, g6, g20, g21, g22, hi, ha'.ia hi, hla, hb'.slen, e1, hib]
        generalize hc2 : c + A + B = c2
        refine (num_low_uint64_does hx.1).mono ?_
        rintro _ G2 ⟨rfl, hx2⟩
        obtain ⟨s', G3, h1, h2, h3, h4⟩ := app_lit (e2 := T_uint32) (new := [.int .u32 ((c2 % 4294967296 : Nat) : Int)]) (c := 1) (bytes := 4) (ho.mono hx2) rfl rfl (by omega) (by omega) (by omega) (by have := hx.1; have := hx2.1; omega)
        simp [-Int.natCast_emod, -Int.natCast_add, h1, g1, g5, g6, g20, g21, g22, e9]
        refine ⟨k - 1, by omega, i + 1, by omega, c2 / 4294967296, rfl, rfl, h4 _ (Nat.le_refl _) (hx.trans hx2), out ++ [c2 % 4294967296], by simpa [u32s] using h2, ?_, by simp [hol], by omega, ?_⟩
        · intro x hx
          rcases List.mem_append.1 hx with hx | hx
          · exact hok x hx
          · simp at hx; omega
        · rw [natL_snoc, hol, hA2, hB2, Nat.pow_succ]
          have e3 : 4294967296 ^ i * 4294967296 * (c2 / 4294967296) = 4294967296 ^ i * (4294967296 * (c2 / 4294967296)) := Nat.mul_assoc ..
          have e4 : 4294967296 ^ i * (c2 % 4294967296) + 4294967296 ^ i * (4294967296 * (c2 / 4294967296)) = 4294967296 ^ i * c2 := by rw [← Nat.mul_add, Nat.mod_add_div]
          have e5 : 4294967296 ^ i * c2 = 4294967296 ^ i * c + 4294967296 ^ i * A + 4294967296 ^ i * B := by rw [← hc2, Nat.mul_add, Nat.mul_add]
          omega
    · simp [r_122_6, g1, g5, g6, g20, g21, g22, hi]
      have : i = a'.length := by omega
      subst this
      refine ⟨c, rfl, hx, out, ho, hok, hol, hc, ?_⟩
      rw [hs, List.take_of_length_le (Nat.le_refl _), List.take_of_length_le hle]
  · clear g0 g1 hm w1 ht ρ
    rintro t G' ⟨c, out, s, ht, g5, g6, hx, ho, hok, hol, hc, hs⟩
    obtain ⟨ρ, rfl⟩ := toT ht
    simp only [get_T, Nat.reduceLT] at g5 g6
    simp [r_122_14, g5, g6]
    refine (num_low_uint64_does hx.1).mono ?_
    rintro _ G2 ⟨rfl, hx2⟩
    obtain ⟨s', G3, h1, h2, h3, h4⟩ := app_lit (e2 := T_uint32) (new := [.int .u32 ((c % 4294967296 : Nat) : Int)]) (c := 1) (bytes := 4) (ho.mono hx2) rfl rfl (by omega) (by omega) (by omega) (by have := hx.1; have := hx2.1; omega)
    simp [-Int.natCast_emod, -Int.natCast_add, h1]
    refine fun _ => ⟨out ++ [c % 4294967296], ⟨by simpa [hol, u32s] using h2.sl, ?_⟩, ?_, by simp [hol]⟩
    · intro x hx
      rcases List.mem_append.1 hx with hx | hx
      · exact hok x hx
      · simp at hx; omega
    · rw [natL_snoc, hol, Nat.mod_eq_of_lt (by omega)]; exact hs
end Go.Proofs.YtjlohmnnldbjoaaGreat.AI

/- num.minus. -/
namespace Go.Proofs.YtjlohmnnldbjoaaGreat.AI
open Go
set_option maxHeartbeats 4000000

variable {fl : Nat} {H : Heap} {R : PostP} {v w : Value} {a b : List Nat}

theorem num_minus_does (ha : Lim H v a) (hb : Lim H w b) (hf : fl ≤ H.size) (hna : a.length < 1073741824) (hle : b.length ≤ a.length) (hnat : natL b ≤ natL a) :
    Does env fl f_124 [v, w] H (fun r H' => (∃ o, Lim H' r o ∧ natL o = natL a - natL b ∧ o.length = a.length) ∧ Ext H H') R := by
  refine does_ext e_124 hf (h := ?_)
  intro ρ h0
  simp only [s_124]
  have hm := mkVZ (bytes := 4) (k := .i64) (k' := .i64) (l := 0) (c := (a.length : Int)) (by omega) (by omega) (by omega) (by omega)
  simp [r_124_0, r_124_1, r_124_2, r_124_3, h0, ha.slen, hm]
  refine W_loopM (fun k t G' => ∃ i c out s, i + k = a.length ∧ t.length = 46 ∧ get t 1 = w ∧ get t 5 = s ∧ get t 6 = .int .u64 ((c : Nat) : Int) ∧ get t 14 = v ∧ get t 15 = .int .i64 a.length ∧ get t 16 = .int .i64 ((i : Nat) : Int) ∧
      Ext H G' ∧ Own H.size G' T_uint32 1 s i (u32s out) ∧ LimOk out ∧ out.length = i ∧ c ≤ 1 ∧ natL out + natL (b.take i) = natL (a.take i) + 4294967296 ^ i * c)
    (fun t G' => ∃ c out s, t.length = 46 ∧ get t 5 = s ∧
      Ext H G' ∧ Own H.size G' T_uint32 1 s a.length (u32s out) ∧ LimOk out ∧ out.length = a.length ∧ c ≤ 1 ∧ natL out + natL b = natL a + 4294967296 ^ a.length * c) a.length ?_ ?_ ?_
  · exact ⟨0, 0, [], .slice (some ⟨H.size, 0, none⟩) 0 a.length, by omega, by simp, by simp [h0], by simp, by simp, by simp [h0], by simp, by simp, by simp,
      Own.mk (by simp [u32s]) rfl (Nat.le_refl _), by intro x hx; simp at hx, rfl, by omega, by simp [natL]⟩
  · clear hm h0 ρ
    rintro k t G' ⟨i, c, out, s, hik, ht, g1, g5, g6, g14, g15, g16, hx, ho, hok, hol, hc, hs⟩
    obtain ⟨ρ, rfl⟩ := toT ht
    simp only [get_T, Nat.reduceLT] at g1 g5 g6 g14 g15 g16
    by_cases hi : i < a.length
    · have hla := ha.load hi hx
      have hA2 := natL_take_succ hi
      have hA3 : a.getD i 0 < 4294967296 := ha.2 _ (by rw [List.getD_eq_getElem?_getD, List.getElem?_eq_getElem hi]; exact List.getElem_mem hi)
      generalize a.getD i 0 = A at hla hA2 hA3
      have e9 : IntKind.i64.wrap ((i : Int) + 1) = ((i + 1 : Nat) : Int) := by rw [wrap64 (by omega) (by omega)]; omega
      by_cases hib : i < b.length
      · have hlb := hb.load hib hx
        have hB2 := natL_take_succ hib
        have hB3 : b.getD i 0 < 4294967296 := hb.2 _ (by rw [List.getD_eq_getElem?_getD, List.getElem?_eq_getElem hib]; exact List.getElem_mem hib)
        generalize b.getD i 0 = B at hlb hB2 hB3
        have e2 : IntKind.u64.wrap ((c : Int) + IntKind.u64.wrap (B : Int)) = ((c + B : Nat) : Int) := by rw [wrapu64, wrapu64]; omega
        have e3 : IntKind.u64.wrap (IntKind.u64.wrap (A : Int) - ((c + B : Nat) : Int)) = (((A + 18446744073709551616 - (c + B)) % 18446744073709551616 : Nat) : Int) := by rw [wrapu64, wrapu64]; omega
        simp [-Int.natCast_add, -Int.natCast_emod, r_124_4, r_124_5, r_124_6, r_124_7, r_124_8, r_124_9, r_124_10, r_124_11, r_124_12, g1, g5, g6, g14, g15, g16, hi, ha.ia hi, hla, hb.slen, hib, hb.ia hib, hlb, e2, e3]
        generalize hD : (A + 18446744073709551616 - (c + B)) % 18446744073709551616 = D
        refine (num_low_uint64_does hx.1).mono ?_
        rintro _ G2 ⟨rfl, hx2⟩
        obtain ⟨s', G3, h1, h2, h3, h4⟩ := app_lit (e2 := T_uint32) (new := [.int .u32 ((D % 4294967296 : Nat) : Int)]) (c := 1) (bytes := 4) (ho.mono hx2) rfl rfl (by omega) (by omega) (by omega) (by have := hx.1; have := hx2.1; omega)
        simp [-Int.natCast_emod, -Int.natCast_add, h1, g1, g5, g6, g14, g15, g16, e9]
        refine ⟨k - 1, by omega, i + 1, by omega, D / 9223372036854775808, rfl, rfl, h4 _ (Nat.le_refl _) (hx.trans hx2), out ++ [D % 4294967296], by simpa [u32s] using h2, ?_, by simp [hol], by omega, ?_⟩
        · intro x hx
          rcases List.mem_append.1 hx with hx | hx
          · exact hok x hx
          · simp at hx; omega
        · rw [natL_snoc, hol, hA2, hB2, Nat.pow_succ]
          have e3 : 4294967296 ^ i * 4294967296 * (D / 9223372036854775808) = 4294967296 ^ i * (4294967296 * (D / 9223372036854775808)) := Nat.mul_assoc ..
          have e4 : D % 4294967296 + c + B = A + 4294967296 * (D / 9223372036854775808) := by omega
          have e5 : 4294967296 ^ i * (D % 4294967296) + 4294967296 ^ i * c + 4294967296 ^ i * B = 4294967296 ^ i * A + 4294967296 ^ i * (4294967296 * (D / 9223372036854775808)) := by
            rw [← Nat.mul_add, ← Nat.mul_add, ← Nat.mul_add, e4]
          omega
      · have hB2 : natL (b.take (i + 1)) = natL (b.take i) + 4294967296 ^ i * 0 := by rw [List.take_of_length_le (by omega), List.take_of_length_le (by omega)]; simp
        have hB3 : (0 : Nat) < 4294967296 := by omega
        have e3 : IntKind.u64.wrap (IntKind.u64.wrap (A : Int) - (c : Int)) = (((A + 18446744073709551616 - (c + 0)) % 18446744073709551616 : Nat) : Int) := by rw [wrapu64, wrapu64]; omega
        generalize hB : (0 : Nat) = B at hB2 hB3 e3
        simp [-Int.natCast_add, -Int.natCast_emod, r_124_4, r_124_5, r_124_6, r_124_7, r_124_8, r_124_9, r_124_10, r_124_11, r_124_12, g1, g5, g6, g14, g15, g16, hi, ha.ia hi, hla, hb.slen, hib, e3]
        generalize hD : (A + 18446744073709551616 - (c + B)) % 18446744073709551616 = D
        refine (num_low_uint64_does hx.1).mono ?_
        rintro _ G2 ⟨rfl, hx2⟩
        obtain ⟨s', G3, h1, h2, h3, h4⟩ := app_lit (e2 := T_uint32) (new := [.int .u32 ((D % 4294967296 : Nat) : Int)]) (c := 1) (bytes := 4) (ho.mono hx2) rfl rfl (by omega) (by omega) (by omega) (by have := hx.1; have := hx2.1; omega)
        simp [-Int.natCast_emod, -Int.natCast_add, h1, g1, g5, g6, g14, g15, g16, e9]
        refine ⟨k - 1, by omega, i + 1, by omega, D / 9223372036854775808, rfl, rfl, h4 _ (Nat.le_refl _) (hx.trans hx2), out ++ [D % 4294967296], by simpa [u32s] using h2, ?_, by simp [hol], by omega, ?_⟩
        · intro x hx
          rcases List.mem_append.1 hx with hx | hx
          · exact hok x hx
          · simp at hx; omega
        · rw [natL_snoc, hol, hA2, hB2, Nat.pow_succ]
          have e3 : 4294967296 ^ i * 4294967296 * (D / 9223372036854775808) = 4294967296 ^ i * (4294967296 * (D / 9223372036854775808)) := Nat.mul_assoc ..
          have e4 : D % 4294967296 + c + B = A + 4294967296 * (D / 9223372036854775808) := by omega
          have e5 : 4294967296 ^ i * (D % 4294967296) + 4294967296 ^ i * c + 4294967296 ^ i * B = 4294967296 ^ i * A + 4294967296 ^ i * (4294967296 * (D / 9223372036854775808)) := by
            rw [← Nat.mul_add, ← Nat.mul_add, ← Nat.mul_add, e4]
          omega
    · simp [r_124_4, g1, g5, g6, g14, g15, g16, hi]
      have : i = a.length := by omega
      subst this
      refine ⟨hx, c, out, ho, hok, hol, hc, ?_⟩
      rw [List.take_of_length_le (Nat.le_refl _), List.take_of_length_le hle] at hs
      exact hs
  · clear hm h0 ρ
    rintro t G' ⟨c, out, s, ht, g5, hx, ho, hok, hol, hc, hs⟩
    obtain ⟨ρ, rfl⟩ := toT ht
    simp only [get_T, Nat.reduceLT] at g5
    simp [r_124_13, g5]
    refine fun _ => ⟨out, ⟨by simpa [hol] using ho.sl, hok⟩, ?_, hol⟩
    have h2 := natL_lt out hok
    rw [hol] at h2
    have : c = 0 := by
      refine Decidable.byContradiction fun hc0 => ?_
      have : c = 1 := by omega
      subst this
      omega
    subst this
    omega
end Go.Proofs.YtjlohmnnldbjoaaGreat.AI

/- num.cmp. -/
namespace Go.Proofs.YtjlohmnnldbjoaaGreat.AI
open Go
set_option maxHeartbeats 4000000

variable {fl : Nat} {H : Heap} {R : PostP} {v w : Value} {a b : List Nat}

def cmpL (a b : List Nat) : Int := if a.length ≠ b.length then cmpZ a.length b.length else cmpZ (natL a) (natL b)

theorem cmpZ_cast {x y : Nat} : cmpZ (x : Int) (y : Int) = if x < y then -1 else if y < x then 1 else 0 := by
  unfold cmpZ; (repeat' split) <;> omega

theorem natL_high {i : Nat} (hab : a.length = b.length) (ha : LimOk a) (hb : LimOk b) (hi : i < a.length) (he : a.drop (i + 1) = b.drop (i + 1)) (hne : a.getD i 0 ≠ b.getD i 0) :
    cmpZ (natL a : Int) (natL b : Int) = cmpZ (a.getD i 0 : Int) (b.getD i 0 : Int) := by
  have h1 : natL a = natL (a.take i) + 4294967296 ^ i * a.getD i 0 + 4294967296 ^ (i + 1) * natL (a.drop (i + 1)) := by
    have := natL_append (a.take (i + 1)) (a.drop (i + 1))
    rw [List.take_append_drop, List.length_take, Nat.min_eq_left (by omega)] at this
    rw [this, natL_take_succ hi]
  have h2 : natL b = natL (b.take i) + 4294967296 ^ i * b.getD i 0 + 4294967296 ^ (i + 1) * natL (b.drop (i + 1)) := by
    have := natL_append (b.take (i + 1)) (b.drop (i + 1))
    rw [List.take_append_drop, List.length_take, Nat.min_eq_left (by omega)] at this
    rw [this, natL_take_succ (by omega)]
  have h3 := natL_lt (a.take i) (fun x hx => ha x (List.mem_of_mem_take hx))
  have h4 := natL_lt (b.take i) (fun x hx => hb x (List.mem_of_mem_take hx))
  rw [List.length_take, Nat.min_eq_left (by omega)] at h3 h4
  rw [he] at h1
  generalize 4294967296 ^ (i + 1) * natL (b.drop (i + 1)) = Z at h1 h2
  generalize a.getD i 0 = x at *
  generalize b.getD i 0 = y at *
  generalize 4294967296 ^ i = P at *
  rw [cmpZ_cast, cmpZ_cast]
  by_cases hxy : x < y
  · have : P * (x + 1) ≤ P * y := Nat.mul_le_mul_left P hxy
    rw [Nat.mul_add] at this
    rw [if_pos (by omega), if_pos hxy]
  · have : P * (y + 1) ≤ P * x := Nat.mul_le_mul_left P (by omega)
    rw [Nat.mul_add] at this
    rw [if_neg (by omega), if_pos (by omega), if_neg hxy, if_pos (by omega)]

theorem num_cmp_does (ha : Lim H v a) (hb : Lim H w b) (hf : fl ≤ H.size) (hna : a.length < 4611686018427387904) :
    Does env fl f_123 [v, w] H (fun r H' => r = .int .i64 (cmpL a b) ∧ Ext H H') R := by
  refine does_ext e_123 hf (h := ?_)
  intro ρ h0
  simp only [s_123]
  have w1 : IntKind.i64.wrap ((a.length : Int) - 1) = (a.length : Int) - 1 := wrap64 (by omega) (by omega)
  simp [r_123_0, r_123_1, r_123_2, r_123_3, h0, ha.slen, hb.slen, w1]
  refine ⟨fun h => ?_, fun hab => ?_⟩
  · refine (num_order_int_does (Nat.le_refl _)).mono ?_
    rintro _ G ⟨rfl, hx⟩
    simp [cmpL, h]
  have hcl : cmpL a b = cmpZ (natL a) (natL b) := by simp [cmpL, hab]
  rw [hcl]
  refine W_loopM (fun k t G' => t.length = 41 ∧ get t 0 = v ∧ get t 1 = w ∧ get t 5 = .int .i64 ((k : Int) - 1) ∧ G' = H ∧ k ≤ a.length ∧ a.drop k = b.drop k)
    (fun t G' => t.length = 41 ∧ G' = H ∧ a = b) a.length (by simp [h0, hab]) ?_ ?_
  · clear h0 ρ
    rintro k t G' ⟨ht, g0, g1, g5, rfl, hk, hd⟩
    obtain ⟨ρ, rfl⟩ := toT ht
    simp only [get_T, Nat.reduceLT] at g0 g1 g5
    by_cases hk0 : k = 0
    · subst hk0
      simp [r_123_4, g0, g1, g5]
      simpa using hd
    · have e0 : (k : Int) - 1 = ((k - 1 : Nat) : Int) := by omega
      have hka : k - 1 < a.length := by omega
      have hkb : k - 1 < b.length := by omega
      have hla := ha.load hka (Ext.refl _)
      have hlb := hb.load hkb (Ext.refl _)
      have w2 : IntKind.i64.wrap (((k - 1 : Nat) : Int) - 1) = ((k - 1 : Nat) : Int) - 1 := wrap64 (by omega) (by omega)
      rw [e0] at g5
      have hla' := ha.ia (k := .i64) hka
      have hlb' := hb.ia (k := .i64) hkb
      have hh := natL_high hab ha.ok hb.ok hka (by rw [show k - 1 + 1 = k by omega]; exact hd)
      generalize hA : a.getD (k - 1) 0 = A at hla hh
      generalize hB : b.getD (k - 1) 0 = B at hlb hh
      simp [r_123_4, g0, g1, g5]
      refine W_draw ?_
      simp [r_123_5, g0, g1, g5, hla, hla', hlb, hlb']
      refine ⟨fun hne => ?_, fun heq => ?_⟩
      · refine W_draw ?_
        simp [r_123_6, g0, g1, g5, hla, hla', hlb, hlb']
        refine (num_order_uint32_does (Nat.le_refl _)).mono ?_
        rintro _ G ⟨rfl, hx⟩
        simp [hh hne]
      · simp [r_123_7, g0, g1, g5, w2]
        refine ⟨k - 1, by omega, rfl, by omega, ?_⟩
        rw [List.drop_eq_getElem_cons hka, List.drop_eq_getElem_cons hkb, show k - 1 + 1 = k by omega, hd]
        congr 1
        rw [List.getD_eq_getElem?_getD, List.getElem?_eq_getElem hka] at hA
        rw [List.getD_eq_getElem?_getD, List.getElem?_eq_getElem hkb] at hB
        simp at hA hB; omega
  · clear h0 ρ
    rintro t G' ⟨ht, rfl, rfl⟩
    obtain ⟨ρ, rfl⟩ := toT ht
    simp [r_123_8, cmpZ]
end Go.Proofs.YtjlohmnnldbjoaaGreat.AI

/- Numbers as they lie and what they say. -/
namespace Go.Proofs.YtjlohmnnldbjoaaGreat.AI
open Go

variable {fl : Nat} {H : Heap} {R : PostP} {v : Value} {i : Bool × List Nat} {a b : List Nat}

theorem IntV.ok (h : IntV H v i) : LimOk i.2 := by obtain ⟨s, _, hs⟩ := h; exact hs.ok

theorem trim_last {l : List Nat} (h : l.length = 0 ∨ l.getD (l.length - 1) 0 ≠ 0) : trimL l = l := by
  rcases List.eq_nil_or_concat l with rfl | ⟨l', x, rfl⟩
  · rfl
  · have : x ≠ 0 := by
      rcases h with h | h
      · simp at h
      · simpa [List.getD_eq_getElem?_getD] using h
    rw [List.concat_eq_append]; exact trimL_snoc this

theorem limbsL_trim (i : Bool × List Nat) : trimL (limbsL i) = limbsL i := by
  unfold limbsL
  by_cases h : mayB i = true
  · rw [if_pos h]
    refine trim_last ?_
    unfold mayB at h
    by_cases h0 : i.2.length = 0
    · exact .inl h0
    · rw [if_neg h0] at h; exact .inr (by simpa using h)
  · rw [if_neg h]; rfl

theorem limbsL_ok (h : LimOk i.2) : LimOk (limbsL i) := by
  unfold limbsL; split
  · exact h
  · intro x hx; simp at hx

theorem valI_abs (i : Bool × List Nat) : (valI i).natAbs = natL (limbsL i) := by
  unfold valI limbsL
  by_cases h : mayB i = true
  · rw [if_pos h, if_pos h]; split <;> omega
  · rw [if_neg h, if_neg h]; rfl

theorem limbsL_eq (h : LimOk i.2) : limbsL i = digits (valI i).natAbs := by
  rw [valI_abs, ← trimL_digits _ (limbsL_ok h), limbsL_trim]

theorem negB_eq (i : Bool × List Nat) : negB i = decide (valI i < 0) := by
  unfold negB valI
  by_cases h : mayB i = true
  · rw [if_pos h, h, Bool.true_and]
    by_cases hn : i.1 = true
    · have h0 : natL i.2 ≠ 0 := by
        intro h0
        have h1 := (natL_zero i.2).1 h0
        have h2 := limbsL_trim i
        unfold limbsL at h2
        rw [if_pos h, h1] at h2
        unfold mayB at h
        rw [← h2] at h
        simp [hn] at h
      rw [if_pos hn, hn]; simp; omega
    · rw [if_neg hn]; simp [hn]
  · rw [if_neg h]; simp [h]

theorem len_limbsL (i : Bool × List Nat) : (limbsL i).length ≤ i.2.length := by unfold limbsL; split <;> simp

theorem len_digits_val (h : LimOk i.2) : (digits (valI i).natAbs).length ≤ i.2.length := by rw [← limbsL_eq h]; exact len_limbsL i

theorem digits_mono {m n : Nat} (h : m ≤ n) : (digits m).length ≤ (digits n).length := digits_len (Nat.lt_of_le_of_lt h (lt_digits n))

theorem cmpL_digits (m n : Nat) : cmpL (digits m) (digits n) = cmpZ m n := by
  unfold cmpL
  rw [natL_digits, natL_digits]
  split
  · rename_i h
    rw [cmpZ_cast, cmpZ_cast]
    by_cases hmn : m < n
    · have := digits_mono (Nat.le_of_lt hmn)
      rw [if_pos hmn, if_pos (by omega)]
    · have := digits_mono (show n ≤ m by omega)
      have hne : m ≠ n := fun h2 => h (by rw [h2])
      rw [if_neg hmn, if_pos (by omega : n < m), if_neg (by omega), if_pos (by omega)]
  · rfl

theorem limbs_does (h : IntV H v i) (hf : fl ≤ H.size) (hn : i.2.length < 4611686018427387904) :
    Does env fl f_119 [v] H (fun r H' => Lim H' r (digits (valI i).natAbs) ∧ Ext H H') R := by
  rw [← limbsL_eq h.ok]; exact num_limbs_does h hf hn
theorem neg_does (h : IntV H v i) (hf : fl ≤ H.size) (hn : i.2.length < 4611686018427387904) :
    Does env fl f_120 [v] H (fun r H' => r = .bool (decide (valI i < 0)) ∧ Ext H H') R := by
  rw [← negB_eq]; exact num_neg_does h hf hn
theorem made_does {l : List Nat} {b : Bool} (z : Int) (h : Lim H v l) (hf : fl ≤ H.size) (hn : l.length ≤ 1073741824) (hz : (if b then -(natL l : Int) else natL l) = z) :
    Does env fl f_121 [.bool b, v] H (fun r H' => IntV H' r (canonI z) ∧ Ext H H') R := by
  rw [← hz, ← mkI_eq h.ok]; exact num_made_does h hf hn

theorem IntV.setT (h : IntV H v i) {p : Nat} {ro : Bool} {e' : TypeId} {cs' : List Value} {r : Blk} (hb : H.blk p = .row ro e' cs') (hne : e' ≠ T_uint32) : IntV (H.setIfInBounds p r) v i := by
  obtain ⟨s, h1, h2⟩ := h; exact ⟨s, h1, h2.setT hb hne⟩

end Go.Proofs.YtjlohmnnldbjoaaGreat.AI

/- num.Neg, Sub, Add, Cmp. -/
namespace Go.Proofs.YtjlohmnnldbjoaaGreat.AI
open Go
set_option maxHeartbeats 4000000

variable {fl : Nat} {H : Heap} {R : PostP} {v w : Value} {i j : Bool × List Nat}

theorem num_Neg_does (h : IntV H v i) (hf : fl ≤ H.size) (hn : i.2.length ≤ 1073741824) :
    Does env fl f_151 [v] H (fun r H' => IntV H' r (canonI (-valI i)) ∧ Ext H H') R := by
  have hh := h
  obtain ⟨s, rfl, hs⟩ := h
  refine does_ext e_151 hf (h := ?_)
  intro ρ h0
  simp [s_151, r_151_0, h0]
  generalize hG : Array.push (Array.push H _) _ = G
  have hx : Ext H G := by rw [← hG]; simp
  have b0 : Heap.blk G H.size = .row false T_api_Int [.bool i.1, s] := by rw [← hG]; simp
  have b1 : Heap.blk G (H.size + 1) = .row false T_api_Int [.bool false, .slice none 0 0] := by rw [← hG]; simp
  have hz : H.size + 1 < G.size := blk_lt b1
  refine W_draw ?_
  simp [r_151_1, h0, b0, b1]
  refine (neg_does (hh.mono hx) (by omega) (by omega)).mono ?_
  rintro _ G2 ⟨rfl, hx2⟩
  replace b0 := hx2.blk b0
  replace b1 := hx2.blk b1
  replace hx := hx.trans hx2
  simp [h0, b0, b1]
  refine (limbs_does (hh.mono hx) hx.1 (by omega)).mono ?_
  rintro l G3 ⟨hl, hx3⟩
  replace b1 := hx3.blk b1
  replace hx := hx.trans hx3
  try simp [h0]
  have := len_digits_val hh.ok
  refine (made_does (-valI i) hl hx.1 (by omega) (by rw [natL_digits]; simp; split <;> omega)).mono ?_
  rintro _ G4 ⟨⟨s', rfl, hs'⟩, hx4⟩
  replace b1 := hx4.blk b1
  have hz := blk_lt b1
  simp [b1, hs'.cells, hs'.plain, hz]
  exact fun _ => ⟨s', rfl, hs'.setT b1 (by decide)⟩

theorem num_Add_does (h : IntV H v i) (k : IntV H w j) (hf : fl ≤ H.size) (hn : i.2.length < 536870912) (hm : j.2.length < 536870912) :
    Does env fl f_88 [v, w] H (fun r H' => IntV H' r (canonI (valI i + valI j)) ∧ Ext H H') R := by
  have hh := h
  have kk := k
  obtain ⟨s, rfl, hs⟩ := h
  obtain ⟨u, rfl, hu⟩ := k
  refine does_ext e_88 hf (h := ?_)
  intro ρ h0
  simp [s_88, r_88_0, h0]
  generalize hG : Array.push (Array.push (Array.push H _) _) _ = G
  have hx : Ext H G := by rw [← hG]; exact (Ext.refl H).push.push.push
  have b0 : Heap.blk G H.size = .row false T_api_Int [.bool i.1, s] := by rw [← hG]; simp
  have b1 : Heap.blk G (H.size + 1) = .row false T_api_Int [.bool j.1, u] := by rw [← hG]; simp
  have b2 : Heap.blk G (H.size + 2) = .row false T_api_Int [.bool false, .slice none 0 0] := by rw [← hG]; simp
  have hz : H.size + 1 < G.size := blk_lt b1
  clear hG
  refine W_draw ?_
  simp [r_88_1, h0, b0, b1]
  refine (limbs_does (hh.mono hx) (by omega) (by omega)).mono ?_
  rintro x G2 ⟨hl, hx2⟩
  replace b0 := hx2.blk b0
  replace b1 := hx2.blk b1
  replace b2 := hx2.blk b2
  replace hx := hx.trans hx2
  try simp [h0, b0, b1]
  refine (limbs_does (kk.mono hx) hx.1 (by omega)).mono ?_
  rintro y G3 ⟨hl2, hx3⟩
  replace b0 := hx3.blk b0
  replace b1 := hx3.blk b1
  replace b2 := hx3.blk b2
  replace hx := hx.trans hx3
  replace hl := hl.mono hx3
  try simp [h0]
  refine W_draw ?_
  simp [r_88_2, h0, b0, b1]
  refine (neg_does (hh.mono hx) (by have := hx.1; omega) (by omega)).mono ?_
  rintro _ G2 ⟨rfl, hx2⟩
  replace b0 := hx2.blk b0
  replace b1 := hx2.blk b1
  replace b2 := hx2.blk b2
  replace hx := hx.trans hx2
  replace hl := hl.mono hx2
  replace hl2 := hl2.mono hx2
  try simp [h0, b0, b1]
  refine (neg_does (kk.mono hx) hx.1 (by omega)).mono ?_
  rintro _ G2 ⟨rfl, hx2⟩
  replace b0 := hx2.blk b0
  replace b1 := hx2.blk b1
  replace b2 := hx2.blk b2
  replace hx := hx.trans hx2
  replace hl := hl.mono hx2
  replace hl2 := hl2.mono hx2
  clear hs hu hz hx2
  have l1 := len_digits_val hh.ok
  have l2 := len_digits_val kk.ok
  simp [h0]
  refine ⟨fun hsame => ?_, fun hdiff => ?_⟩
  · simp [r_88_3, h0, b0]
    refine (neg_does (hh.mono hx) hx.1 (by omega)).mono ?_
    rintro _ G2 ⟨rfl, hx2⟩
    replace b0 := hx2.blk b0
    replace b1 := hx2.blk b1
    replace b2 := hx2.blk b2
    replace hx := hx.trans hx2
    replace hl := hl.mono hx2
    replace hl2 := hl2.mono hx2
    try simp [h0]
    refine (num_plus_does hl hl2 hx.1 (by omega) (by omega)).mono ?_
    rintro r G2 ⟨⟨o, ho, hon, hol⟩, hx2⟩
    replace b0 := hx2.blk b0
    replace b1 := hx2.blk b1
    replace b2 := hx2.blk b2
    replace hx := hx.trans hx2
    replace hl := hl.mono hx2
    replace hl2 := hl2.mono hx2
    try simp [h0]
    rw [natL_digits, natL_digits] at hon
    refine (made_does (valI i + valI j) ho hx.1 (by omega) (by rw [hon]; simp; split <;> omega)).mono ?_
    rintro _ G2 ⟨⟨s', rfl, hs'⟩, hx2⟩
    replace b0 := hx2.blk b0
    replace b1 := hx2.blk b1
    replace b2 := hx2.blk b2
    replace hx := hx.trans hx2
    replace hl := hl.mono hx2
    replace hl2 := hl2.mono hx2
    have hz := blk_lt b2
    simp [b2, hs'.cells, hs'.plain, hz]
    exact fun _ => ⟨s', rfl, hs'.setT b2 (by decide)⟩
  · simp [r_88_4, h0]
    refine (num_cmp_does hl hl2 hx.1 (by omega)).mono ?_
    rintro _ G2 ⟨rfl, hx2⟩
    replace b0 := hx2.blk b0
    replace b1 := hx2.blk b1
    replace b2 := hx2.blk b2
    replace hx := hx.trans hx2
    replace hl := hl.mono hx2
    replace hl2 := hl2.mono hx2
    rw [cmpL_digits, cmpZ_cast]
    try simp [h0]
    refine ⟨fun hge => ?_, fun hlt => ?_⟩
    · have hab : (valI j).natAbs ≤ (valI i).natAbs := by
        (repeat' split at hge) <;> omega
      simp [r_88_5, h0, b0]
      refine (neg_does (hh.mono hx) hx.1 (by omega)).mono ?_
      rintro _ G2 ⟨rfl, hx2⟩
      replace b0 := hx2.blk b0
      replace b1 := hx2.blk b1
      replace b2 := hx2.blk b2
      replace hx := hx.trans hx2
      replace hl := hl.mono hx2
      replace hl2 := hl2.mono hx2
      try simp [h0]
      refine (num_minus_does hl hl2 hx.1 (by omega) (digits_mono hab) (by rw [natL_digits, natL_digits]; exact hab)).mono ?_
      rintro r G2 ⟨⟨o, ho, hon, hol⟩, hx2⟩
      replace b0 := hx2.blk b0
      replace b1 := hx2.blk b1
      replace b2 := hx2.blk b2
      replace hx := hx.trans hx2
      replace hl := hl.mono hx2
      replace hl2 := hl2.mono hx2
      try simp [h0]
      rw [natL_digits, natL_digits] at hon
      refine (made_does (valI i + valI j) ho hx.1 (by omega) (by rw [hon]; simp; split <;> omega)).mono ?_
      rintro _ G2 ⟨⟨s', rfl, hs'⟩, hx2⟩
      replace b0 := hx2.blk b0
      replace b1 := hx2.blk b1
      replace b2 := hx2.blk b2
      replace hx := hx.trans hx2
      replace hl := hl.mono hx2
      replace hl2 := hl2.mono hx2
      have hz := blk_lt b2
      simp [b2, hs'.cells, hs'.plain, hz]
      exact fun _ => ⟨s', rfl, hs'.setT b2 (by decide)⟩
    · have hab : (valI i).natAbs ≤ (valI j).natAbs := by
        (repeat' split at hlt) <;> omega
      simp [r_88_6, h0, b1]
      refine (neg_does (kk.mono hx) hx.1 (by omega)).mono ?_
      rintro _ G2 ⟨rfl, hx2⟩
      replace b0 := hx2.blk b0
      replace b1 := hx2.blk b1
      replace b2 := hx2.blk b2
      replace hx := hx.trans hx2
      replace hl := hl.mono hx2
      replace hl2 := hl2.mono hx2
      try simp [h0]
      refine (num_minus_does hl2 hl hx.1 (by omega) (digits_mono hab) (by rw [natL_digits, natL_digits]; exact hab)).mono ?_
      rintro r G2 ⟨⟨o, ho, hon, hol⟩, hx2⟩
      replace b0 := hx2.blk b0
      replace b1 := hx2.blk b1
      replace b2 := hx2.blk b2
      replace hx := hx.trans hx2
      replace hl := hl.mono hx2
      replace hl2 := hl2.mono hx2
      try simp [h0]
      rw [natL_digits, natL_digits] at hon
      refine (made_does (valI i + valI j) ho hx.1 (by omega) (by rw [hon]; simp; split <;> omega)).mono ?_
      rintro _ G2 ⟨⟨s', rfl, hs'⟩, hx2⟩
      replace b0 := hx2.blk b0
      replace b1 := hx2.blk b1
      replace b2 := hx2.blk b2
      replace hx := hx.trans hx2
      replace hl := hl.mono hx2
      replace hl2 := hl2.mono hx2
      have hz := blk_lt b2
      simp [b2, hs'.cells, hs'.plain, hz]
      exact fun _ => ⟨s', rfl, hs'.setT b2 (by decide)⟩
end Go.Proofs.YtjlohmnnldbjoaaGreat.AI

/- num.Sub, num.Cmp. -/
namespace Go.Proofs.YtjlohmnnldbjoaaGreat.AI
open Go
set_option maxHeartbeats 4000000

variable {fl : Nat} {H : Heap} {R : PostP} {v w : Value} {i j : Bool × List Nat}

theorem len_canon (z : Int) : (canonI z).2.length = (digits z.natAbs).length := rfl

theorem num_Cmp_does (h : IntV H v i) (k : IntV H w j) (hf : fl ≤ H.size) (hn : i.2.length < 536870912) (hm : j.2.length < 536870912) :
    Does env fl f_127 [v, w] H (fun r H' => r = .int .i64 (cmpZ (valI i) (valI j)) ∧ Ext H H') R := by
  have hh := h
  have kk := k
  obtain ⟨s, rfl, hs⟩ := h
  obtain ⟨u, rfl, hu⟩ := k
  refine does_ext e_127 hf (h := ?_)
  intro ρ h0
  simp [s_127, r_127_0, h0]
  generalize hG : Array.push (Array.push H _) _ = G
  have hx : Ext H G := by rw [← hG]; exact (Ext.refl H).push.push
  have b0 : Heap.blk G H.size = .row false T_api_Int [.bool i.1, s] := by rw [← hG]; simp
  have b1 : Heap.blk G (H.size + 1) = .row false T_api_Int [.bool j.1, u] := by rw [← hG]; simp
  clear hG
  simp [r_127_1, h0, b0, b1]
  have l1 := len_digits_val hh.ok
  have l2 := len_digits_val kk.ok
  refine (neg_does (hh.mono hx) hx.1 (by omega)).mono ?_
  rintro _ G2 ⟨rfl, hx2⟩
  replace b0 := hx2.blk b0
  replace b1 := hx2.blk b1
  replace hx := hx.trans hx2
  by_cases hI : valI i < 0
  · simp [hI, b1]
    refine (neg_does (kk.mono hx) hx.1 (by omega)).mono ?_
    rintro _ G2 ⟨rfl, hx2⟩
    replace b0 := hx2.blk b0
    replace b1 := hx2.blk b1
    replace hx := hx.trans hx2
    by_cases hJ : valI j < 0
    · simp [hJ, r_127_3, h0, b0, b1]
      refine (neg_does (hh.mono hx) hx.1 (by omega)).mono ?_
      rintro _ G2 ⟨rfl, hx2⟩
      replace b0 := hx2.blk b0
      replace b1 := hx2.blk b1
      replace hx := hx.trans hx2
      simp [hI, r_127_5, h0, b0, b1]
      refine (neg_does (hh.mono hx) hx.1 (by omega)).mono ?_
      rintro _ G2 ⟨rfl, hx2⟩
      replace b0 := hx2.blk b0
      replace b1 := hx2.blk b1
      replace hx := hx.trans hx2
      simp [hI, h0]
      refine W_draw ?_
      simp [r_127_6, h0, b0, b1]
      refine (limbs_does (kk.mono hx) (by have := hx.1; omega) (by omega)).mono ?_
      rintro x G2 ⟨hl, hx2⟩
      replace b0 := hx2.blk b0
      replace b1 := hx2.blk b1
      replace hx := hx.trans hx2
      try simp [h0, b0]
      refine (limbs_does (hh.mono hx) hx.1 (by omega)).mono ?_
      rintro y G2 ⟨hl2, hx2⟩
      replace hl := hl.mono hx2
      replace b0 := hx2.blk b0
      replace b1 := hx2.blk b1
      replace hx := hx.trans hx2
      try simp [h0, b0]
      refine (num_cmp_does hl hl2 hx.1 (by omega)).mono ?_
      rintro _ G2 ⟨rfl, hx2⟩
      rw [cmpL_digits, cmpZ_cast]
      have : (if (valI j).natAbs < (valI i).natAbs then (-1 : Int) else if (valI i).natAbs < (valI j).natAbs then 1 else 0) = cmpZ (valI i) (valI j) := by
        unfold cmpZ; (repeat' split) <;> omega
      simp [this]
    · simp [hJ, r_127_2, h0]
      have : cmpZ (valI i) (valI j) = -1 := by unfold cmpZ; rw [if_pos (by omega)]
      simp [this]
  · simp [hI, r_127_3, h0, b0, b1]
    refine (neg_does (hh.mono hx) hx.1 (by omega)).mono ?_
    rintro _ G2 ⟨rfl, hx2⟩
    replace b0 := hx2.blk b0
    replace b1 := hx2.blk b1
    replace hx := hx.trans hx2
    simp [hI, h0, b1]
    refine (neg_does (kk.mono hx) hx.1 (by omega)).mono ?_
    rintro _ G2 ⟨rfl, hx2⟩
    replace b0 := hx2.blk b0
    replace b1 := hx2.blk b1
    replace hx := hx.trans hx2
    by_cases hJ : valI j < 0
    · simp [hJ, r_127_4, h0]
      have : cmpZ (valI i) (valI j) = 1 := by unfold cmpZ; rw [if_neg (by omega), if_pos (by omega)]
      simp [this]
    · simp [hJ, r_127_5, h0, b0]
      refine (neg_does (hh.mono hx) hx.1 (by omega)).mono ?_
      rintro _ G2 ⟨rfl, hx2⟩
      replace b0 := hx2.blk b0
      replace b1 := hx2.blk b1
      replace hx := hx.trans hx2
      simp [hI, h0]
      refine W_draw ?_
      simp [r_127_7, h0, b0, b1]
      refine (limbs_does (hh.mono hx) (by have := hx.1; omega) (by omega)).mono ?_
      rintro x G2 ⟨hl, hx2⟩
      replace b0 := hx2.blk b0
      replace b1 := hx2.blk b1
      replace hx := hx.trans hx2
      try simp [h0, b1]
      refine (limbs_does (kk.mono hx) hx.1 (by omega)).mono ?_
      rintro y G2 ⟨hl2, hx2⟩
      replace hl := hl.mono hx2
      replace b0 := hx2.blk b0
      replace b1 := hx2.blk b1
      replace hx := hx.trans hx2
      try simp [h0, b0]
      refine (num_cmp_does hl hl2 hx.1 (by omega)).mono ?_
      rintro _ G2 ⟨rfl, hx2⟩
      rw [cmpL_digits, cmpZ_cast]
      have : (if (valI i).natAbs < (valI j).natAbs then (-1 : Int) else if (valI j).natAbs < (valI i).natAbs then 1 else 0) = cmpZ (valI i) (valI j) := by
        unfold cmpZ; (repeat' split) <;> omega
      simp [this]
end Go.Proofs.YtjlohmnnldbjoaaGreat.AI

/- num.Of. -/
namespace Go.Proofs.YtjlohmnnldbjoaaGreat.AI
open Go
set_option maxHeartbeats 4000000

variable {fl : Nat} {H : Heap} {R : PostP} {v w : Value} {i j : Bool × List Nat}

theorem num_Of_does {n : Int} (hf : fl ≤ H.size) (h1 : -9223372036854775808 ≤ n) (h2 : n < 9223372036854775808) :
    Does env fl f_126 [.int .i64 n] H (fun r H' => IntV H' r (canonI n) ∧ Ext H H') R := by
  refine does_ext e_126 hf (h := ?_)
  intro ρ h0
  simp only [s_126]
  refine W_seq (W_reg ?_)
  simp [-We_seq, r_126_0, h0]
  generalize hG : Array.push H _ = G
  have hx : Ext H G := by rw [← hG]; exact (Ext.refl H).push
  have b2 : Heap.blk G H.size = .row false T_api_Int [.bool false, .slice none 0 0] := by rw [← hG]; simp
  clear hG
  refine W_seq (W_reg ?_)
  simp [-We_seq, r_126_1, h0]
  refine W_seq (W_mid (fun t G' => G' = G ∧ t.length = 19 ∧ get t 0 = .int .i64 n ∧ get t 2 = .pointer (some ⟨H.size, 0, none⟩) ∧ get t 3 = .int .u64 ((n.natAbs : Nat) : Int)) ?_ ?_)
  · have e1 : 0 ≤ n → IntKind.u64.wrap n = ((n.natAbs : Nat) : Int) := fun _ => by rw [wrapu64]; omega
    have e2 : n < 0 → IntKind.u64.wrap (-IntKind.u64.wrap n) = ((n.natAbs : Nat) : Int) := fun _ => by rw [wrapu64, wrapu64]; omega
    simp [r_126_2, r_126_3, h0]
    exact ⟨e2, e1⟩
  clear h0 ρ
  rintro t G' ⟨rfl, ht, g0, g2, g3⟩
  obtain ⟨ρ, rfl⟩ := toT ht
  simp only [get_T, Nat.reduceLT] at g0 g2 g3
  simp [r_126_4, g0, g2, g3]
  refine (num_low_uint64_does hx.1).mono ?_
  rintro _ G2 ⟨rfl, hx2⟩
  replace b2 := hx2.blk b2
  replace hx := hx.trans hx2
  try simp [g0, g2, g3]
  rw [show ((n.natAbs : Nat) : Int) / 4294967296 = ((n.natAbs / 4294967296 : Nat) : Int) by omega]
  refine (num_low_uint64_does hx.1).mono ?_
  rintro _ G2 ⟨rfl, hx2⟩
  replace b2 := hx2.blk b2
  replace hx := hx.trans hx2
  simp
  have hl : Lim (Array.push G2 (.row false T_uint32 [.int .u32 (((n.natAbs : Nat) : Int) % 4294967296), .int .u32 (((n.natAbs : Nat) : Int) / 4294967296 % 4294967296)]))
      (.slice (some ⟨Array.size G2, 0, none⟩) 2 2) [n.natAbs % 4294967296, n.natAbs / 4294967296 % 4294967296] := by
    refine ⟨(Own.mk (fl := 0) (n := 2) (sz := 1) (cs := u32s [n.natAbs % 4294967296, n.natAbs / 4294967296 % 4294967296]) ?_ rfl (Nat.zero_le _)).sl, ?_⟩
    · rw [blk_push_self]; simp [u32s]
    · intro x hx; simp at hx; omega
  have hx2 : Ext G2 (Array.push G2 (.row false T_uint32 [.int .u32 (((n.natAbs : Nat) : Int) % 4294967296), .int .u32 (((n.natAbs : Nat) : Int) / 4294967296 % 4294967296)])) := (Ext.refl G2).push
  replace b2 := hx2.blk b2
  replace hx := hx.trans hx2
  refine (made_does n hl hx.1 (by simp) (by simp [natL]; split <;> omega)).mono ?_
  rintro _ G2 ⟨⟨s', rfl, hs'⟩, hx2⟩
  replace b2 := hx2.blk b2
  replace hx := hx.trans hx2
  have hz := blk_lt b2
  simp [b2, hs'.cells, hs'.plain, hz]
  exact fun _ => ⟨s', rfl, hs'.setT b2 (by decide)⟩
end Go.Proofs.YtjlohmnnldbjoaaGreat.AI

/- num.Mul. -/
namespace Go.Proofs.YtjlohmnnldbjoaaGreat.AI
open Go
set_option maxHeartbeats 4000000

variable {fl : Nat} {H : Heap} {R : PostP} {v w : Value} {i j : Bool × List Nat}

theorem natL_set : ∀ (l : List Nat) (j z : Nat), j < l.length → natL (l.set j z) + 4294967296 ^ j * l.getD j 0 = natL l + 4294967296 ^ j * z
  | [], j, z, h => by simp at h
  | x :: l, 0, z, _ => by simp [natL]; omega
  | x :: l, j + 1, z, h => by
    have ih := natL_set l j z (by simpa using h)
    rw [List.set_cons_succ, List.getD_cons_succ, natL, natL, Nat.pow_succ]
    have e1 : 4294967296 ^ j * 4294967296 * l.getD j 0 = 4294967296 * (4294967296 ^ j * l.getD j 0) := by rw [Nat.mul_comm (4294967296 ^ j), Nat.mul_assoc]
    have e2 : 4294967296 ^ j * 4294967296 * z = 4294967296 * (4294967296 ^ j * z) := by rw [Nat.mul_comm (4294967296 ^ j), Nat.mul_assoc]
    rw [e1, e2]; omega

theorem u32s_set (l : List Nat) (j z : Nat) : u32s (l.set j z) = (u32s l).set j (.int .u32 (z : Nat)) := by simp [u32s, List.map_set]

theorem LimOk_set {l : List Nat} {j z : Nat} (h : LimOk l) (hz : z < 4294967296) : LimOk (l.set j z) := by
  intro x hx
  rcases List.mem_or_eq_of_mem_set hx with hx | rfl
  · exact h x hx
  · exact hz

theorem own_load {G : Heap} {e n p cap : Nat} {l : List Nat} (hb : G.blk p = .row false e (u32s l)) {k : IntKind} {z : Nat} (hz : z < l.length) (hn : l.length = n) :
    iaV 1 (.slice (some ⟨p, 0, none⟩) n cap) (.int k (z : Int)) = some (.pointer (some ⟨p, z, none⟩)) ∧ rd (G.blk p) z = some (.int .u32 ((l.getD z 0 : Nat) : Int)) := by
  refine ⟨?_, ?_⟩
  · simp only [iaV]; rw [if_pos (by omega)]; simp
  · rw [hb]; simp [u32s, List.getD_eq_getElem?_getD, hz]

theorem getD_set_ne' {l : List Nat} {a b z : Nat} (h : a ≠ b) : (l.set a z).getD b 0 = l.getD b 0 := by
  rw [List.getD_eq_getElem?_getD, List.getD_eq_getElem?_getD, List.getElem?_set_ne h]

theorem num_Mul_does (h : IntV H v i) (k : IntV H w j) (hf : fl ≤ H.size) (hn : i.2.length < 268435456) (hm : j.2.length < 268435456) :
    Does env fl f_89 [v, w] H (fun r H' => IntV H' r (canonI (valI i * valI j)) ∧ Ext H H') R := by
  have hh := h
  have kk := k
  obtain ⟨s, rfl, hs⟩ := h
  obtain ⟨u, rfl, hu⟩ := k
  refine does_ext e_89 hf (h := ?_)
  intro ρ h0
  simp [s_89, r_89_0, h0]
  generalize hG : Array.push (Array.push (Array.push H _) _) _ = G
  have hx : Ext H G := by rw [← hG]; exact (Ext.refl H).push.push.push
  have b0 : Heap.blk G H.size = .row false T_api_Int [.bool i.1, s] := by rw [← hG]; simp
  have b1 : Heap.blk G (H.size + 1) = .row false T_api_Int [.bool j.1, u] := by rw [← hG]; simp
  have b2 : Heap.blk G (H.size + 2) = .row false T_api_Int [.bool false, .slice none 0 0] := by rw [← hG]; simp
  clear hG
  have l1 := len_digits_val hh.ok
  have l2 := len_digits_val kk.ok
  refine W_draw ?_
  simp [r_89_1, h0, b0, b1]
  refine (limbs_does (hh.mono hx) (by have := hx.1; omega) (by omega)).mono ?_
  rintro x G2 ⟨hl, hx2⟩
  replace b0 := hx2.blk b0
  replace b1 := hx2.blk b1
  replace b2 := hx2.blk b2
  replace hx := hx.trans hx2
  try simp [h0, b1]
  refine (limbs_does (kk.mono hx) hx.1 (by omega)).mono ?_
  rintro y G2 ⟨hl2, hx2⟩
  replace hl := hl.mono hx2
  replace b0 := hx2.blk b0
  replace b1 := hx2.blk b1
  replace b2 := hx2.blk b2
  replace hx := hx.trans hx2
  generalize hA : digits (valI i).natAbs = A at hl l1
  generalize hB : digits (valI j).natAbs = B at hl2 l2
  have w1 : IntKind.i64.wrap ((A.length : Int) + (B.length : Int)) = ((A.length + B.length : Nat) : Int) := by rw [wrap64 (by omega) (by omega)]; omega
  have hmk := mkV_int (bytes := 4) (k := .i64) (k' := .i64) (l := A.length + B.length) (c := A.length + B.length) (Nat.le_refl _) (by omega) (by omega)
  simp [-Int.natCast_add, r_89_2, r_89_3, h0, hl.slen, hl2.slen, w1, hmk]
  have hP : H.size ≤ G2.size := hx.1
  generalize hPd : G2.size = P at hP
  generalize hSL : Value.slice (some ⟨P, 0, none⟩) (A.length + B.length) (A.length + B.length) = SL
  refine W_loopM (fun k t G' => ∃ a o, a + k = A.length ∧ t.length = 78 ∧ get t 2 = .pointer (some ⟨H.size, 0, none⟩) ∧ get t 3 = .pointer (some ⟨H.size + 1, 0, none⟩) ∧ get t 4 = .pointer (some ⟨H.size + 2, 0, none⟩) ∧
      get t 6 = y ∧ get t 7 = SL ∧ get t 23 = x ∧ get t 24 = .int .i64 A.length ∧ get t 25 = .int .i64 ((a : Nat) : Int) ∧
      Ext G2 G' ∧ Heap.blk G' P = .row false T_uint32 (u32s o) ∧ o.length = A.length + B.length ∧ LimOk o ∧ natL o = natL (A.take a) * natL B ∧ ∀ q, a + B.length ≤ q → o.getD q 0 = 0)
    (fun t G' => ∃ o, t.length = 78 ∧ get t 2 = .pointer (some ⟨H.size, 0, none⟩) ∧ get t 3 = .pointer (some ⟨H.size + 1, 0, none⟩) ∧ get t 4 = .pointer (some ⟨H.size + 2, 0, none⟩) ∧ get t 7 = SL ∧
      Ext G2 G' ∧ Heap.blk G' P = .row false T_uint32 (u32s o) ∧ o.length = A.length + B.length ∧ LimOk o ∧ natL o = natL A * natL B) A.length ?_ ?_ ?_
  · refine ⟨0, List.replicate (A.length + B.length) 0, by omega, by simp, by simp, by simp, by simp, by simp, by simp, by simp, by simp, by simp, Ext.push (Ext.refl _), ?_, by simp, ?_, ?_, ?_⟩
    · rw [← hPd, blk_push_self]
      congr 1
      generalize A.length + B.length = n
      induction n with
      | zero => rfl
      | succ n ih => rw [repl, ih]; rfl
    · intro z hz; rw [List.mem_replicate] at hz; omega
    · simp only [List.take_zero, natL, Nat.zero_mul]
      generalize A.length + B.length = n
      induction n with
      | zero => rfl
      | succ n ih => rw [List.replicate_succ, natL, ih]
    · intro q _; rw [List.getD_eq_getElem?_getD, List.getElem?_replicate]; split <;> rfl
  · clear h0 ρ w1 hmk
    rintro k t G' ⟨a, o, hak, ht, g2, g3, g4, g6, g7, g23, g24, g25, hx2, hb, hol, hok, hs, hz⟩
    obtain ⟨ρ, rfl⟩ := toT ht
    simp only [get_T, Nat.reduceLT] at g2 g3 g4 g6 g7 g23 g24 g25
    by_cases ha : a < A.length
    · have hla := hl.load ha hx2
      have hia := hl.ia (k := .i64) ha
      have hA2 := natL_take_succ ha
      have hA3 : A.getD a 0 < 4294967296 := hl.2 _ (by rw [List.getD_eq_getElem?_getD, List.getElem?_eq_getElem ha]; exact List.getElem_mem ha)
      generalize A.getD a 0 = U at hla hA2 hA3
      simp [r_89_4, r_89_5, r_89_6, r_89_7, g2, g3, g4, g6, g7, g23, g24, g25, ha, hla, hia, hl2.slen]
      refine W_loopM (fun k2 t G' => ∃ q c o, q + k2 = B.length ∧ t.length = 78 ∧ get t 2 = .pointer (some ⟨H.size, 0, none⟩) ∧ get t 3 = .pointer (some ⟨H.size + 1, 0, none⟩) ∧ get t 4 = .pointer (some ⟨H.size + 2, 0, none⟩) ∧
          get t 6 = y ∧ get t 7 = SL ∧ get t 23 = x ∧ get t 24 = .int .i64 A.length ∧ get t 25 = .int .i64 ((a : Nat) : Int) ∧ get t 8 = .int .i64 ((a : Nat) : Int) ∧ get t 9 = .int .u32 ((U : Nat) : Int) ∧
          get t 10 = .int .u64 ((c : Nat) : Int) ∧ get t 30 = y ∧ get t 31 = .int .i64 B.length ∧ get t 32 = .int .i64 ((q : Nat) : Int) ∧
          Ext G2 G' ∧ Heap.blk G' P = .row false T_uint32 (u32s o) ∧ o.length = A.length + B.length ∧ LimOk o ∧ c < 4294967296 ∧
          natL o + 4294967296 ^ (a + q) * c = natL (A.take a) * natL B + 4294967296 ^ a * (U * natL (B.take q)) ∧ ∀ q, a + B.length ≤ q → o.getD q 0 = 0)
        (fun t G' => ∃ c o, t.length = 78 ∧ get t 2 = .pointer (some ⟨H.size, 0, none⟩) ∧ get t 3 = .pointer (some ⟨H.size + 1, 0, none⟩) ∧ get t 4 = .pointer (some ⟨H.size + 2, 0, none⟩) ∧
          get t 6 = y ∧ get t 7 = SL ∧ get t 23 = x ∧ get t 24 = .int .i64 A.length ∧ get t 25 = .int .i64 ((a : Nat) : Int) ∧ get t 8 = .int .i64 ((a : Nat) : Int) ∧
          get t 10 = .int .u64 ((c : Nat) : Int) ∧
          Ext G2 G' ∧ Heap.blk G' P = .row false T_uint32 (u32s o) ∧ o.length = A.length + B.length ∧ LimOk o ∧ c < 4294967296 ∧
          natL o + 4294967296 ^ (a + B.length) * c = natL (A.take (a + 1)) * natL B ∧ ∀ q, a + B.length ≤ q → o.getD q 0 = 0) B.length ?_ ?_ ?_
      · exact ⟨0, 0, o, by omega, by simp, by simp [g2], by simp [g3], by simp [g4], by simp [g6], by simp [g7], by simp [g23], by simp [g24], by simp [g25], by simp, by simp, by simp, by simp, by simp, by simp,
          hx2, hb, hol, hok, by omega, by simp [hs, natL], hz⟩
      · clear hs hz hok hol hb hx2 hla o g2 g3 g4 g6 g7 g23 g24 g25 ht ρ G'
        rintro k2 t G' ⟨q, c, o, hqk, ht, g2, g3, g4, g6, g7, g23, g24, g25, g8, g9, g10, g30, g31, g32, hx2, hb, hol, hok, hc, hs, hz⟩
        obtain ⟨ρ, rfl⟩ := toT ht
        simp only [get_T, Nat.reduceLT] at g2 g3 g4 g6 g7 g23 g24 g25 g8 g9 g10 g30 g31 g32
        by_cases hq : q < B.length
        · have hlb := hl2.load hq hx2
          have hib := hl2.ia (k := .i64) hq
          have hB2 := natL_take_succ hq
          have hB3 : B.getD q 0 < 4294967296 := hl2.2 _ (by rw [List.getD_eq_getElem?_getD, List.getElem?_eq_getElem hq]; exact List.getElem_mem hq)
          generalize B.getD q 0 = V at hlb hB2 hB3
          have hlo : a + q < o.length := by omega
          obtain ⟨hio, hro⟩ := own_load (k := .i64) (cap := A.length + B.length) hb hlo hol
          rw [hSL] at hio
          have hset := natL_set o (a + q) ((c + (U * V + o.getD (a + q) 0)) % 4294967296) hlo
          have hW3 : o.getD (a + q) 0 < 4294967296 := hok _ (by rw [List.getD_eq_getElem?_getD, List.getElem?_eq_getElem hlo]; exact List.getElem_mem hlo)
          generalize o.getD (a + q) 0 = Wd at hro hset hW3
          have hUV : U * V ≤ 4294967295 * 4294967295 := Nat.mul_le_mul (by omega) (by omega)
          have e1 : IntKind.u64.wrap (U : Int) = (U : Int) := by rw [wrapu64]; omega
          have e2 : IntKind.u64.wrap (V : Int) = (V : Int) := by rw [wrapu64]; omega
          have e3 : IntKind.u64.wrap (Wd : Int) = (Wd : Int) := by rw [wrapu64]; omega
          have e4 : IntKind.u64.wrap ((U : Int) * (V : Int)) = ((U * V : Nat) : Int) := by rw [wrapu64, ← Int.natCast_mul]; omega
          have e5 : IntKind.u64.wrap (((U * V : Nat) : Int) + (Wd : Int)) = ((U * V + Wd : Nat) : Int) := by rw [wrapu64]; omega
          have e6 : IntKind.u64.wrap ((c : Int) + ((U * V + Wd : Nat) : Int)) = ((c + (U * V + Wd) : Nat) : Int) := by rw [wrapu64]; omega
          have e7 : IntKind.i64.wrap ((a : Int) + (q : Int)) = ((a + q : Nat) : Int) := by rw [wrap64 (by omega) (by omega)]; omega
          have e8 : IntKind.i64.wrap ((q : Int) + 1) = ((q + 1 : Nat) : Int) := by rw [wrap64 (by omega) (by omega)]; omega
          simp [-Int.natCast_add, -Int.natCast_mul, r_89_8, r_89_9, r_89_10, r_89_11, r_89_12, r_89_13, g2, g3, g4, g6, g7, g23, g24, g25, g8, g9, g10, g30, g31, g32, hq, hlb, hib, e1, e2, e3, e4, e5, e6, e7, e8, hio, hro]
          refine (num_low_uint64_does (by have := hx2.1; omega)).mono ?_
          rintro _ G3 ⟨rfl, hx3⟩
          replace hb := hx3.blk hb
          have hxx := hx2.trans hx3
          have hPl := blk_lt hb
          have hle : a + q + 1 ≤ o.length := hlo
          generalize hc1 : c + (U * V + Wd) = c1 at *
          simp [-Int.natCast_emod, -Int.natCast_ediv, -Int.natCast_add, hb, hP, hle]
          refine ⟨k2 - 1, by omega, q + 1, by omega, c1 / 4294967296, by omega, rfl, hxx.set (by omega), o.set (a + q) (c1 % 4294967296), by rw [blk_set_self hPl, u32s_set], by simp [hol], LimOk_set hok (by omega), by omega, ?_, ?_⟩
          · have f1 : 4294967296 ^ (a + (q + 1)) * (c1 / 4294967296) = 4294967296 ^ (a + q) * (4294967296 * (c1 / 4294967296)) := by
              rw [show a + (q + 1) = a + q + 1 by omega, Nat.pow_succ, Nat.mul_assoc]
            have f2 : 4294967296 ^ (a + q) * (c1 % 4294967296) + 4294967296 ^ (a + q) * (4294967296 * (c1 / 4294967296)) = 4294967296 ^ (a + q) * c1 := by rw [← Nat.mul_add, Nat.mod_add_div]
            have f3 : 4294967296 ^ (a + q) * c1 = 4294967296 ^ (a + q) * c + (4294967296 ^ (a + q) * (U * V) + 4294967296 ^ (a + q) * Wd) := by rw [← hc1, Nat.mul_add, Nat.mul_add]
            have f4 : 4294967296 ^ a * (U * (natL (List.take q B) + 4294967296 ^ q * V)) = 4294967296 ^ a * (U * natL (List.take q B)) + 4294967296 ^ (a + q) * (U * V) := by
              rw [Nat.mul_add, Nat.mul_add, Nat.pow_add]
              congr 1
              rw [Nat.mul_assoc, Nat.mul_left_comm U]
            rw [hB2, f4, f1]
            omega
          · intro r hr
            have := hz r hr
            rw [← List.getD_eq_getElem?_getD, getD_set_ne' (by omega)]; exact this
        · simp [r_89_8, g2, g3, g4, g6, g7, g23, g24, g25, g8, g9, g10, g30, g31, g32, hq]
          have : q = B.length := by omega
          subst this
          refine ⟨c, rfl, hx2, o, hb, hol, hok, hc, ?_, by simpa using hz⟩
          rw [hs, List.take_of_length_le (Nat.le_refl _), hA2, Nat.add_mul, Nat.mul_assoc]
      · clear hs hz hok hol hb hx2 hla o g2 g3 g4 g6 g7 g23 g24 g25 ht ρ G'
        rintro t G' ⟨c, o, ht, g2, g3, g4, g6, g7, g23, g24, g25, g8, g10, hx2, hb, hol, hok, hc, hs, hz⟩
        obtain ⟨ρ, rfl⟩ := toT ht
        simp only [get_T, Nat.reduceLT] at g2 g3 g4 g6 g7 g23 g24 g25 g8 g10
        have hlo : a + B.length < o.length := by omega
        obtain ⟨hio, hro⟩ := own_load (k := .i64) (cap := A.length + B.length) hb hlo hol
        rw [hSL] at hio
        have hset := natL_set o (a + B.length) (c % 4294967296) hlo
        rw [hz _ (Nat.le_refl _)] at hset
        have e7 : IntKind.i64.wrap ((a : Int) + (B.length : Int)) = ((a + B.length : Nat) : Int) := by rw [wrap64 (by omega) (by omega)]; omega
        have e8 : IntKind.i64.wrap ((a : Int) + 1) = ((a + 1 : Nat) : Int) := by rw [wrap64 (by omega) (by omega)]; omega
        simp [-Int.natCast_add, r_89_14, g2, g3, g4, g6, g7, g23, g24, g25, g8, g10, hl2.slen, e7, hio]
        refine (num_low_uint64_does (by have := hx2.1; omega)).mono ?_
        rintro _ G3 ⟨rfl, hx3⟩
        replace hb := hx3.blk hb
        have hxx := hx2.trans hx3
        have hPl := blk_lt hb
        have hle : a + B.length + 1 ≤ o.length := hlo
        simp [-Int.natCast_emod, -Int.natCast_ediv, -Int.natCast_add, r_89_15, g2, g3, g4, g6, g7, g23, g24, g25, hb, hP, hle, e8]
        refine ⟨k - 1, by omega, a + 1, by omega, rfl, hxx.set (by omega), o.set (a + B.length) (c % 4294967296), by rw [blk_set_self hPl, u32s_set], by simp [hol], LimOk_set hok (by omega), ?_, ?_⟩
        · rw [Nat.mod_eq_of_lt hc] at hset ⊢
          omega
        · intro r hr
          have := hz r (by omega)
          rw [← List.getD_eq_getElem?_getD, getD_set_ne' (by omega)]; exact this
    · simp [r_89_4, g2, g3, g4, g6, g7, g23, g24, g25, ha]
      have : a = A.length := by omega
      subst this
      exact ⟨hx2, o, hb, hol, hok, by rw [hs, List.take_of_length_le (Nat.le_refl _)]⟩
  · clear h0 ρ w1 hmk
    rintro t G' ⟨o, ht, g2, g3, g4, g7, hx2, hb, hol, hok, hs⟩
    obtain ⟨ρ, rfl⟩ := toT ht
    simp only [get_T, Nat.reduceLT] at g2 g3 g4 g7
    replace b0 := hx2.blk b0
    replace b1 := hx2.blk b1
    replace b2 := hx2.blk b2
    replace hx := hx.trans hx2
    have hy : Lim G' SL o := by
      rw [← hSL, ← hol]
      exact ⟨(Own.mk (fl := 0) hb (by simp) (Nat.zero_le _)).sl, hok⟩
    refine W_draw ?_
    simp [r_89_16, g2, g3, g4, g7, b0, b1]
    refine (neg_does (hh.mono hx) (by have := hx.1; omega) (by omega)).mono ?_
    rintro _ G2 ⟨rfl, hx2⟩
    replace b0 := hx2.blk b0
    replace b1 := hx2.blk b1
    replace b2 := hx2.blk b2
    replace hx := hx.trans hx2
    replace hy := hy.mono hx2
    try simp [g2, g3, g4, g7, b1]
    refine (neg_does (kk.mono hx) hx.1 (by omega)).mono ?_
    rintro _ G2 ⟨rfl, hx2⟩
    replace b0 := hx2.blk b0
    replace b1 := hx2.blk b1
    replace b2 := hx2.blk b2
    replace hx := hx.trans hx2
    replace hy := hy.mono hx2
    try simp [g2, g3, g4, g7, b1]
    have hAn : natL A = (valI i).natAbs := by rw [← hA, natL_digits]
    have hBn : natL B = (valI j).natAbs := by rw [← hB, natL_digits]
    rw [hAn, hBn, ← Int.natAbs_mul] at hs
    have hsgn : (if (decide (valI i < 0) != decide (valI j < 0)) = true then -((valI i * valI j).natAbs : Int) else ((valI i * valI j).natAbs : Int)) = valI i * valI j := by
      by_cases hi : valI i < 0 <;> by_cases hj : valI j < 0
      · have := Int.mul_pos_of_neg_of_neg hi hj
        simp [hi, hj]; omega
      · have := Int.mul_nonpos_of_nonpos_of_nonneg (Int.le_of_lt hi) (show 0 ≤ valI j by omega)
        simp [hi, hj]; omega
      · have := Int.mul_nonpos_of_nonneg_of_nonpos (show 0 ≤ valI i by omega) (Int.le_of_lt hj)
        simp [hi, hj]; omega
      · have := Int.mul_nonneg (show 0 ≤ valI i by omega) (show 0 ≤ valI j by omega)
        simp [hi, hj]; omega
    refine (made_does (valI i * valI j) hy hx.1 (by omega) (by rw [hs]; exact hsgn)).mono ?_
    rintro _ G2 ⟨⟨s', rfl, hs'⟩, hx2⟩
    replace b0 := hx2.blk b0
    replace b1 := hx2.blk b1
    replace b2 := hx2.blk b2
    replace hx := hx.trans hx2
    have hz := blk_lt b2
    simp [b2, hs'.cells, hs'.plain, hz, g4]
    exact fun _ => ⟨s', rfl, hs'.setT b2 (by decide)⟩
end Go.Proofs.YtjlohmnnldbjoaaGreat.AI

/- Shifts and masks of words. -/
namespace Go.Proofs.YtjlohmnnldbjoaaGreat.AI
open Go

section
variable {tag : Nat}
theorem wrapN64 (n : Nat) : IntKind.u64.wrap (n : Int) = ((n % 18446744073709551616 : Nat) : Int) := by rw [wrapu64]; omega
theorem wrapN32 (n : Nat) : IntKind.u32.wrap (n : Int) = ((n % 4294967296 : Nat) : Int) := by rw [wrapu32]; omega

theorem shl64 {n s : Nat} {k' : IntKind} (hs : s ≤ 64) : binA tag .shl (.int .u64 (n : Int)) (.int k' (s : Int)) = some (.int .u64 ((n * 2 ^ s % 18446744073709551616 : Nat) : Int)) := by
  rw [binA_shl (by omega)]
  have : min (s : Int).toNat IntKind.u64.bits = s := by show min (s : Int).toNat 64 = s; omega
  rw [this]
  have e : (n : Int) * 2 ^ s = ((n * 2 ^ s : Nat) : Int) := by simp
  rw [e, wrapN64]
theorem shl_u32 {n s : Nat} {k' : IntKind} (hs : s ≤ 32) : binA tag .shl (.int .u32 (n : Int)) (.int k' (s : Int)) = some (.int .u32 ((n * 2 ^ s % 4294967296 : Nat) : Int)) := by
  rw [binA_shl (by omega)]
  have : min (s : Int).toNat IntKind.u32.bits = s := by show min (s : Int).toNat 32 = s; omega
  rw [this]
  have e : (n : Int) * 2 ^ s = ((n * 2 ^ s : Nat) : Int) := by simp
  rw [e, wrapN32]
theorem shr64 {n s : Nat} {k' : IntKind} (hs : s ≤ 64) : binA tag .shr (.int .u64 (n : Int)) (.int k' (s : Int)) = some (.int .u64 ((n / 2 ^ s : Nat) : Int)) := by
  rw [binA_shr (by omega)]
  have : min (s : Int).toNat IntKind.u64.bits = s := by show min (s : Int).toNat 64 = s; omega
  rw [this]
  have e : (2 : Int) ^ s = ((2 ^ s : Nat) : Int) := by simp
  rw [e, fdivN]
theorem shr_u32 {n s : Nat} {k' : IntKind} (hs : s ≤ 32) : binA tag .shr (.int .u32 (n : Int)) (.int k' (s : Int)) = some (.int .u32 ((n / 2 ^ s : Nat) : Int)) := by
  rw [binA_shr (by omega)]
  have : min (s : Int).toNat IntKind.u32.bits = s := by show min (s : Int).toNat 32 = s; omega
  rw [this]
  have e : (2 : Int) ^ s = ((2 ^ s : Nat) : Int) := by simp
  rw [e, fdivN]
theorem or64 {a b : Nat} (ha : a < 18446744073709551616) (hb : b < 18446744073709551616) : binA tag .or (.int .u64 (a : Int)) (.int .u64 (b : Int)) = some (.int .u64 ((a ||| b : Nat) : Int)) := by
  rw [binA_or]
  have e1 : (BitVec.ofInt IntKind.u64.bits (a : Int) ||| BitVec.ofInt IntKind.u64.bits (b : Int)).toNat = a ||| b := by
    show (BitVec.ofInt 64 (a : Int) ||| BitVec.ofInt 64 (b : Int)).toNat = a ||| b
    rw [BitVec.toNat_or]
    simp only [BitVec.ofInt_natCast, BitVec.toNat_ofNat]
    rw [Nat.mod_eq_of_lt (by omega), Nat.mod_eq_of_lt (by omega)]
  rw [e1, wrapN64]
  have : a ||| b < 2 ^ 64 := Nat.or_lt_two_pow (by omega) (by omega)
  rw [Nat.mod_eq_of_lt (by omega)]
theorem and64 {a : Nat} : binA tag .and (.int .u64 (a : Int)) (.int .u64 4294967295) = some (.int .u64 ((a % 4294967296 : Nat) : Int)) := by
  rw [binA_and]
  have e1 : (BitVec.ofInt IntKind.u64.bits (a : Int) &&& BitVec.ofInt IntKind.u64.bits (4294967295 : Int)).toNat = a % 4294967296 := by
    show (BitVec.ofInt 64 (a : Int) &&& BitVec.ofInt 64 (4294967295 : Int)).toNat = a % 4294967296
    rw [BitVec.toNat_and]
    have : (BitVec.ofInt 64 (4294967295 : Int)).toNat = 2 ^ 32 - 1 := rfl
    rw [this, Nat.and_two_pow_sub_one_eq_mod]
    simp only [BitVec.ofInt_natCast, BitVec.toNat_ofNat]
    omega
  rw [e1, wrapN64, Nat.mod_eq_of_lt (by omega)]
theorem or_add32 {x y : Nat} (h : y < 4294967296) : x * 4294967296 ||| y = x * 4294967296 + y := by
  have := Nat.two_pow_add_eq_or_of_lt (i := 32) (b := y) (by omega) x
  rw [Nat.mul_comm] at this
  exact this.symm
theorem quo64 {a b : Nat} (ha : a < 18446744073709551616) (hb : b ≠ 0) : binA tag .quo (.int .u64 (a : Int)) (.int .u64 (b : Int)) = some (.int .u64 ((a / b : Nat) : Int)) := by
  rw [binA_quo (by omega), Int.tdiv_eq_ediv_of_nonneg (by omega)]
  have : (a : Int) / (b : Int) = ((a / b : Nat) : Int) := rfl
  rw [this, wrapN64, Nat.mod_eq_of_lt (Nat.lt_of_le_of_lt (Nat.div_le_self a b) ha)]
theorem rem64 {a b : Nat} (hb : b ≠ 0) : binA tag .rem (.int .u64 (a : Int)) (.int .u64 (b : Int)) = some (.int .u64 ((a % b : Nat) : Int)) := by
  rw [binA_rem (by omega), Int.tmod_eq_emod_of_nonneg (by omega)]
  rfl
end

end Go.Proofs.YtjlohmnnldbjoaaGreat.AI

/- num.small. -/
namespace Go.Proofs.YtjlohmnnldbjoaaGreat.AI
open Go
set_option maxHeartbeats 4000000

variable {fl : Nat} {H : Heap} {R : PostP} {v w : Value} {a : List Nat}

theorem natL_drop {l : List Nat} {n : Nat} (h : n < l.length) : natL (l.drop n) = l.getD n 0 + 4294967296 * natL (l.drop (n + 1)) := by
  rw [List.drop_eq_getElem_cons h, natL, List.getD_eq_getElem?_getD, List.getElem?_eq_getElem h]; rfl

theorem num_small_does {d : Nat} (ha : Lim H v a) (hf : fl ≤ H.size) (hna : a.length ≤ 1073741824) (hd : 0 < d) (hd2 : d < 4294967296) :
    Does env fl f_172 [v, .int .u32 (d : Int)] H (fun r H' => (∃ q o, r = .tuple #[q, .int .u32 ((natL a % d : Nat) : Int)] ∧ Lim H' q o ∧ natL o = natL a / d ∧ o.length = a.length) ∧ Ext H H') R := by
  refine does_ext e_172 hf (h := ?_)
  intro ρ h0
  simp only [s_172]
  have hm := mkV_int (bytes := 4) (k := .i64) (k' := .i64) (l := a.length) (c := a.length) (Nat.le_refl _) (by omega) (by omega)
  have w1 : IntKind.i64.wrap ((a.length : Int) - 1) = (a.length : Int) - 1 := wrap64 (by omega) (by omega)
  simp [r_172_0, r_172_1, r_172_2, r_172_3, h0, ha.slen, hm, w1]
  generalize hPd : H.size = P
  have hP : H.size ≤ P := by omega
  generalize hSL : Value.slice (some ⟨P, 0, none⟩) a.length a.length = SL
  refine W_loopM (fun k t G' => ∃ r o, t.length = 42 ∧ get t 0 = v ∧ get t 1 = .int .u32 (d : Int) ∧ get t 6 = SL ∧ get t 7 = .int .u64 ((r : Nat) : Int) ∧ get t 8 = .int .i64 ((k : Int) - 1) ∧ k ≤ a.length ∧
      Ext H G' ∧ Heap.blk G' P = .row false T_uint32 (u32s o) ∧ o.length = a.length ∧ LimOk o ∧ r < d ∧ natL (o.drop k) * d + r = natL (a.drop k))
    (fun t G' => ∃ r o, t.length = 42 ∧ get t 6 = SL ∧ get t 7 = .int .u64 ((r : Nat) : Int) ∧
      Ext H G' ∧ Heap.blk G' P = .row false T_uint32 (u32s o) ∧ o.length = a.length ∧ LimOk o ∧ r < d ∧ natL o * d + r = natL a) a.length ?_ ?_ ?_
  · refine ⟨0, List.replicate a.length 0, by simp, by simp [h0], by simp [h0], by simp, by simp, by simp, by omega, Ext.push (Ext.refl _), ?_, by simp, ?_, hd, ?_⟩
    · rw [← hPd, blk_push_self]
      congr 1
      generalize a.length = n
      induction n with
      | zero => rfl
      | succ n ih => rw [repl, ih]; rfl
    · intro z hz; rw [List.mem_replicate] at hz; omega
    · simp [natL]
  · clear h0 ρ hm w1
    rintro k t G' ⟨r, o, ht, g0, g1, g6, g7, g8, hk, hx2, hb, hol, hok, hr, hs⟩
    obtain ⟨ρ, rfl⟩ := toT ht
    simp only [get_T, Nat.reduceLT] at g0 g1 g6 g7 g8
    by_cases hk0 : k = 0
    · subst hk0
      simp [r_172_4, g0, g1, g6, g7, g8]
      exact ⟨r, rfl, hx2, o, hb, hol, hok, hr, by simpa using hs⟩
    · have e0 : (k : Int) - 1 = ((k - 1 : Nat) : Int) := by omega
      have hka : k - 1 < a.length := by omega
      rw [e0] at g8
      have hla := ha.load hka hx2
      have hia := ha.ia (k := .i64) hka
      have hA2 := natL_drop hka
      have hA3 : a.getD (k - 1) 0 < 4294967296 := ha.2 _ (by rw [List.getD_eq_getElem?_getD, List.getElem?_eq_getElem hka]; exact List.getElem_mem hka)
      generalize a.getD (k - 1) 0 = A at hla hA2 hA3
      have hlo : k - 1 < o.length := by omega
      obtain ⟨hio, hro⟩ := own_load (k := .i64) (cap := a.length) hb hlo hol
      rw [hSL] at hio
      have s2 : r * 2 ^ 32 % 18446744073709551616 = r * 4294967296 := by omega
      have s1 : binA 0 .shl (.int .u64 (r : Int)) (.int .u64 32) = some (.int .u64 ((r * 4294967296 : Nat) : Int)) := by
        have := shl64 (tag := 0) (n := r) (s := 32) (k' := .u64) (by omega)
        rw [s2] at this; exact this
      have s3 := or64 (tag := 0) (a := r * 4294967296) (b := A) (by omega) (by omega)
      rw [or_add32 hA3] at s3
      have eA : IntKind.u64.wrap (A : Int) = (A : Int) := by rw [wrapu64]; omega
      have eD : IntKind.u64.wrap (d : Int) = (d : Int) := by rw [wrapu64]; omega
      have s4 := quo64 (tag := 0) (a := r * 4294967296 + A) (b := d) (by omega) (by omega)
      have s5 := rem64 (tag := 0) (a := r * 4294967296 + A) (b := d) (by omega)
      have w2 : IntKind.i64.wrap (((k - 1 : Nat) : Int) - 1) = ((k - 1 : Nat) : Int) - 1 := wrap64 (by omega) (by omega)
      simp [-Int.natCast_add, -Int.natCast_mul, -Int.natCast_ediv, -Int.natCast_emod, r_172_4, r_172_5, r_172_6, r_172_7, r_172_8, g0, g1, g6, g7, g8, hla, hia, s1, s3, eA, eD, s4, s5, hio, w2]
      have hq1 : (r * 4294967296 + A) / d < 4294967296 := by
        rw [Nat.div_lt_iff_lt_mul hd]
        have : (r + 1) * 4294967296 ≤ d * 4294967296 := Nat.mul_le_mul_right _ hr
        rw [Nat.mul_comm 4294967296 d]; omega
      have hq2 := Nat.div_add_mod (r * 4294967296 + A) d
      have hq3 := Nat.mod_lt (r * 4294967296 + A) hd
      clear s4 s5
      generalize (r * 4294967296 + A) / d = Q at hq1 hq2 ⊢
      generalize (r * 4294967296 + A) % d = r2 at hq2 hq3 ⊢
      refine (num_low_uint64_does (by have := hx2.1; omega)).mono ?_
      rintro _ G3 ⟨rfl, hx3⟩
      replace hb := hx3.blk hb
      have hxx := hx2.trans hx3
      have hPl := blk_lt hb
      have hle : k - 1 + 1 ≤ o.length := hlo
      rw [Nat.mod_eq_of_lt hq1]
      simp [-Int.natCast_emod, -Int.natCast_ediv, -Int.natCast_add, hb, hle]
      refine ⟨k - 1, by omega, r2, rfl, rfl, by omega, hxx.set (by omega), o.set (k - 1) Q, by rw [blk_set_self hPl, u32s_set], by simp [hol], LimOk_set hok hq1, hq3, ?_⟩
      have hdr : natL ((o.set (k - 1) Q).drop (k - 1)) = Q + 4294967296 * natL (o.drop k) := by
        rw [natL_drop (by simpa using hlo), List.getD_eq_getElem?_getD, List.getElem?_set_self hlo, show k - 1 + 1 = k by omega, List.drop_set_of_lt (by omega)]; rfl
      rw [hdr, hA2, show k - 1 + 1 = k by omega, ← hs, Nat.add_mul, Nat.mul_assoc, Nat.mul_comm Q d]
      generalize natL (List.drop k o) * d = Z
      omega
  · clear h0 ρ hm w1
    rintro t G' ⟨r, o, ht, g6, g7, hx2, hb, hol, hok, hr, hs⟩
    obtain ⟨ρ, rfl⟩ := toT ht
    simp only [get_T, Nat.reduceLT] at g6 g7
    have hy : Lim G' SL o := by
      rw [← hSL, ← hol]
      exact ⟨(Own.mk (fl := 0) hb (by simp) (Nat.zero_le _)).sl, hok⟩
    simp [r_172_9, g6, g7]
    refine (num_low_uint64_does (by have := hx2.1; omega)).mono ?_
    rintro _ G3 ⟨rfl, hx3⟩
    have e1 : natL a % d = r := by rw [← hs, Nat.mul_comm, Nat.mul_add_mod, Nat.mod_eq_of_lt hr]
    have e2 : natL a / d = natL o := by rw [← hs, Nat.mul_comm, Nat.mul_add_div hd, Nat.div_eq_of_lt hr]; rfl
    have e3 : ((natL a : Nat) : Int) % (d : Int) = ((r : Nat) : Int) := by rw [← e1]; rfl
    rw [Nat.mod_eq_of_lt (by omega), e3, e2]
    simp
    exact fun _ => ⟨o, hy.mono hx3, rfl, hol⟩
end Go.Proofs.YtjlohmnnldbjoaaGreat.AI

/- num.shifted. -/
namespace Go.Proofs.YtjlohmnnldbjoaaGreat.AI
open Go
set_option maxHeartbeats 4000000

variable {fl : Nat} {H : Heap} {R : PostP} {v w : Value} {a b : List Nat}

theorem or_addN {x y s : Nat} (h : y < 2 ^ s) : y ||| x * 2 ^ s = y + x * 2 ^ s := by
  have := Nat.two_pow_add_eq_or_of_lt (i := s) (b := y) h x
  rw [Nat.or_comm, Nat.mul_comm x, ← this, Nat.add_comm]

theorem num_shifted_does {n : Nat} (ha : Lim H v a) (hf : fl ≤ H.size) (hna : a.length < 1073741824) (hn : n < 32) :
    Does env fl f_182 [v, .int .i64 (n : Int)] H (fun r H' => (∃ o, Own H.size H' T_uint32 1 r (a.length + 1) (u32s o) ∧ LimOk o ∧ natL o = natL a * 2 ^ n ∧ o.length = a.length + 1) ∧ Ext H H') R := by
  refine does_ext e_182 hf (h := ?_)
  intro ρ h0
  simp only [s_182]
  have hm := mkVZ (bytes := 4) (k := .i64) (k' := .i64) (l := 0) (c := (a.length : Int) + 1) (by omega) (by omega) (by omega) (by omega)
  have w1 : IntKind.i64.wrap ((a.length : Int) + 1) = (a.length : Int) + 1 := wrap64 (by omega) (by omega)
  simp [r_182_0, r_182_1, r_182_2, r_182_3, h0, ha.slen, hm, w1]
  have hp : 2 ^ n ≤ 2147483648 := Nat.pow_le_pow_right (n := 2) (by omega) (show n ≤ 31 by omega)
  have hp0 : 0 < 2 ^ n := Nat.two_pow_pos n
  refine W_loopM (fun k t G' => ∃ i c out s, i + k = a.length ∧ t.length = 38 ∧ get t 1 = .int .i64 (n : Int) ∧ get t 5 = s ∧ get t 6 = .int .u64 ((c : Nat) : Int) ∧ get t 13 = v ∧ get t 14 = .int .i64 a.length ∧ get t 15 = .int .i64 ((i : Nat) : Int) ∧
      Ext H G' ∧ Own H.size G' T_uint32 1 s i (u32s out) ∧ LimOk out ∧ out.length = i ∧ c < 2 ^ n ∧ natL out + 4294967296 ^ i * c = natL (a.take i) * 2 ^ n)
    (fun t G' => ∃ c out s, t.length = 38 ∧ get t 5 = s ∧ get t 6 = .int .u64 ((c : Nat) : Int) ∧
      Ext H G' ∧ Own H.size G' T_uint32 1 s a.length (u32s out) ∧ LimOk out ∧ out.length = a.length ∧ c < 2 ^ n ∧ natL out + 4294967296 ^ a.length * c = natL a * 2 ^ n) a.length ?_ ?_ ?_
  · exact ⟨0, 0, [], .slice (some ⟨H.size, 0, none⟩) 0 (a.length + 1), by omega, by simp, by simp [h0], by simp, by simp, by simp [h0], by simp, by simp, by simp,
      Own.mk (by simp [u32s]) rfl (Nat.le_refl _), by intro x hx; simp at hx, rfl, hp0, by simp [natL]⟩
  · clear hm w1 h0 ρ
    rintro k t G' ⟨i, c, out, s, hik, ht, g1, g5, g6, g13, g14, g15, hx, ho, hok, hol, hc, hs⟩
    obtain ⟨ρ, rfl⟩ := toT ht
    simp only [get_T, Nat.reduceLT] at g1 g5 g6 g13 g14 g15
    by_cases hi : i < a.length
    · have hla := ha.load hi hx
      have hia := ha.ia (k := .i64) hi
      have hA2 := natL_take_succ hi
      have hA3 : a.getD i 0 < 4294967296 := ha.2 _ (by rw [List.getD_eq_getElem?_getD, List.getElem?_eq_getElem hi]; exact List.getElem_mem hi)
      generalize a.getD i 0 = A at hla hA2 hA3
      have eA : IntKind.u64.wrap (A : Int) = (A : Int) := by rw [wrapu64]; omega
      have hAn : A * 2 ^ n ≤ 4294967295 * 2147483648 := Nat.mul_le_mul (by omega) hp
      have s1 := shl64 (tag := 0) (n := A) (s := n) (k' := .i64) (by omega)
      rw [Nat.mod_eq_of_lt (by omega)] at s1
      have s2 := or64 (tag := 0) (a := c) (b := A * 2 ^ n) (by omega) (by omega)
      rw [or_addN hc] at s2
      have e9 : IntKind.i64.wrap ((i : Int) + 1) = ((i + 1 : Nat) : Int) := by rw [wrap64 (by omega) (by omega)]; omega
      simp [-Int.natCast_add, -Int.natCast_mul, -Int.natCast_pow, r_182_4, r_182_5, r_182_6, r_182_7, r_182_8, r_182_9, g1, g5, g6, g13, g14, g15, hi, hia, hla, eA, s1, s2]
      generalize hD : c + A * 2 ^ n = D
      refine (num_low_uint64_does hx.1).mono ?_
      rintro _ G2 ⟨rfl, hx2⟩
      obtain ⟨s', G3, h1, h2, h3, h4⟩ := app_lit (e2 := T_uint32) (new := [.int .u32 ((D % 4294967296 : Nat) : Int)]) (c := 1) (bytes := 4) (ho.mono hx2) rfl rfl (by omega) (by omega) (by omega) (by have := hx.1; have := hx2.1; omega)
      simp [-Int.natCast_emod, -Int.natCast_add, h1, g1, g5, g6, g13, g14, g15, e9]
      have hDq : D / 4294967296 < 2 ^ n := by
        rw [Nat.div_lt_iff_lt_mul (by omega), ← hD]
        have : (A + 1) * 2 ^ n ≤ 4294967296 * 2 ^ n := Nat.mul_le_mul_right _ hA3
        rw [Nat.add_mul] at this
        rw [Nat.mul_comm (2 ^ n)]; omega
      refine ⟨k - 1, by omega, i + 1, by omega, D / 4294967296, rfl, rfl, h4 _ (Nat.le_refl _) (hx.trans hx2), out ++ [D % 4294967296], by simpa [u32s] using h2, ?_, by simp [hol], hDq, ?_⟩
      · intro x hx
        rcases List.mem_append.1 hx with hx | hx
        · exact hok x hx
        · simp at hx; omega
      · rw [natL_snoc, hol, hA2, Nat.pow_succ, Nat.add_mul, ← hs]
        have e3 : 4294967296 ^ i * 4294967296 * (D / 4294967296) = 4294967296 ^ i * (4294967296 * (D / 4294967296)) := Nat.mul_assoc ..
        have e4 : 4294967296 ^ i * (D % 4294967296) + 4294967296 ^ i * (4294967296 * (D / 4294967296)) = 4294967296 ^ i * D := by rw [← Nat.mul_add, Nat.mod_add_div]
        have e5 : 4294967296 ^ i * D = 4294967296 ^ i * c + 4294967296 ^ i * A * 2 ^ n := by rw [← hD, Nat.mul_add, Nat.mul_assoc]
        omega
    · simp [r_182_4, g1, g5, g6, g13, g14, g15, hi]
      have : i = a.length := by omega
      subst this
      refine ⟨c, rfl, hx, out, ho, hok, hol, hc, ?_⟩
      rw [hs, List.take_of_length_le (Nat.le_refl _)]
  · clear hm w1 h0 ρ
    rintro t G' ⟨c, out, s, ht, g5, g6, hx, ho, hok, hol, hc, hs⟩
    obtain ⟨ρ, rfl⟩ := toT ht
    simp only [get_T, Nat.reduceLT] at g5 g6
    simp [r_182_10, g5, g6]
    refine (num_low_uint64_does hx.1).mono ?_
    rintro _ G2 ⟨rfl, hx2⟩
    obtain ⟨s', G3, h1, h2, h3, h4⟩ := app_lit (e2 := T_uint32) (new := [.int .u32 ((c % 4294967296 : Nat) : Int)]) (c := 1) (bytes := 4) (ho.mono hx2) rfl rfl (by omega) (by omega) (by omega) (by have := hx.1; have := hx2.1; omega)
    simp [-Int.natCast_emod, -Int.natCast_add, h1]
    refine fun _ => ⟨out ++ [c % 4294967296], by simpa [hol, u32s] using h2, ?_, ?_, by simp [hol]⟩
    · intro x hx
      rcases List.mem_append.1 hx with hx | hx
      · exact hok x hx
      · simp at hx; omega
    · rw [natL_snoc, hol, Nat.mod_eq_of_lt (by omega)]; exact hs
end Go.Proofs.YtjlohmnnldbjoaaGreat.AI

/- num.back. -/
namespace Go.Proofs.YtjlohmnnldbjoaaGreat.AI
open Go
set_option maxHeartbeats 4000000

variable {fl : Nat} {H : Heap} {R : PostP} {v w : Value} {a b : List Nat}

theorem back_limb {n A N A1 M : Nat} (hn : n < 32) (hA : A < 4294967296) (hN : N = A1 + 4294967296 * M) :
    (A + 4294967296 * N) / 2 ^ n = (A + A1 * 4294967296) / 2 ^ n % 4294967296 + 4294967296 * (N / 2 ^ n) := by
  have hB : (4294967296 : Nat) = 2 ^ n * 2 ^ (32 - n) := by rw [← Nat.pow_add, show n + (32 - n) = 32 by omega]
  have hP := Nat.two_pow_pos n
  have hQ := Nat.two_pow_pos (32 - n)
  generalize 2 ^ n = P at *
  generalize 2 ^ (32 - n) = Q at *
  have e1 : (A + 4294967296 * N) / P = A / P + Q * N := by rw [hB, Nat.mul_assoc, Nat.add_mul_div_left _ _ hP]
  have e2 : (A + A1 * 4294967296) / P = A / P + Q * A1 := by rw [Nat.mul_comm A1, hB, Nat.mul_assoc, Nat.add_mul_div_left _ _ hP]
  have e3 : N % P = A1 % P := by rw [hN, hB, Nat.mul_assoc, Nat.add_mul_mod_self_left]
  have e4 : Q * N = 4294967296 * (N / P) + Q * (A1 % P) := by
    have := Nat.div_add_mod N P
    rw [e3] at this
    calc Q * N = Q * (P * (N / P) + A1 % P) := by rw [this]
      _ = _ := by rw [Nat.mul_add, ← Nat.mul_assoc, Nat.mul_comm Q P, ← hB]
  have e5 : Q * A1 = 4294967296 * (A1 / P) + Q * (A1 % P) := by
    have := Nat.div_add_mod A1 P
    calc Q * A1 = Q * (P * (A1 / P) + A1 % P) := by rw [this]
      _ = _ := by rw [Nat.mul_add, ← Nat.mul_assoc, Nat.mul_comm Q P, ← hB]
  have h1 : A / P < Q := by rw [Nat.div_lt_iff_lt_mul hP, Nat.mul_comm, ← hB]; exact hA
  have h2 : Q * (A1 % P) + Q ≤ 4294967296 := by
    have := Nat.mod_lt A1 hP
    have : Q * (A1 % P + 1) ≤ Q * P := Nat.mul_le_mul_left Q this
    rw [Nat.mul_add, Nat.mul_comm Q P, ← hB] at this
    omega
  rw [e1, e2, e4, e5]
  clear e1 e2 e3 e4 e5 hN
  generalize A / P = x at *
  generalize N / P = y at *
  generalize A1 / P = z at *
  generalize Q * (A1 % P) = q at *
  omega

theorem natL_take_set {o : List Nat} {i z : Nat} (hlo : i < o.length) : natL (List.take (i + 1) (o.set i z)) = natL (List.take i o) + 4294967296 ^ i * z := by
  rw [take_succ_getD (by simpa using hlo), natL_snoc, List.length_take, List.length_set, Nat.min_eq_left (by omega), List.take_set_of_le (by omega), List.getD_eq_getElem?_getD, List.getElem?_set_self hlo, Option.getD_some]
theorem back_fin {x y z s i q : Nat} (h : x = y + 4294967296 ^ i * z) (hs : y + 4294967296 ^ i * (z + 4294967296 * q) = s) : x + 4294967296 ^ (i + 1) * q = s := by
  rw [h, ← hs, Nat.pow_succ, Nat.mul_add, Nat.mul_assoc, Nat.add_assoc]

theorem num_back_does {n : Nat} (ha : Lim H v a) (hf : fl ≤ H.size) (hna : a.length < 1073741824) (hn : n < 32) :
    Does env fl f_185 [v, .int .i64 (n : Int)] H (fun r H' => (∃ o, Lim H' r o ∧ natL o = natL a / 2 ^ n ∧ o.length = a.length) ∧ Ext H H') R := by
  refine does_ext e_185 hf (h := ?_)
  intro ρ h0
  simp only [s_185]
  have hm := mkV_int (bytes := 4) (k := .i64) (k' := .i64) (l := a.length) (c := a.length) (Nat.le_refl _) (by omega) (by omega)
  simp [r_185_0, r_185_1, r_185_2, h0, ha.slen, hm]
  generalize hPd : H.size = P
  generalize hSL : Value.slice (some ⟨P, 0, none⟩) a.length a.length = SL
  refine W_loopM (fun k t G' => ∃ i o, i + k = a.length ∧ t.length = 44 ∧ get t 0 = v ∧ get t 1 = .int .i64 (n : Int) ∧ get t 5 = SL ∧ get t 12 = .int .i64 a.length ∧ get t 13 = .int .i64 ((i : Nat) : Int) ∧
      Ext H G' ∧ Heap.blk G' P = .row false T_uint32 (u32s o) ∧ o.length = a.length ∧ LimOk o ∧ natL (o.take i) + 4294967296 ^ i * (natL (a.drop i) / 2 ^ n) = natL a / 2 ^ n)
    (fun t G' => ∃ o, t.length = 44 ∧ get t 5 = SL ∧
      Ext H G' ∧ Heap.blk G' P = .row false T_uint32 (u32s o) ∧ o.length = a.length ∧ LimOk o ∧ natL o = natL a / 2 ^ n) a.length ?_ ?_ ?_
  · refine ⟨0, List.replicate a.length 0, by omega, by simp, by simp [h0], by simp [h0], by simp, by simp, by simp, Ext.push (Ext.refl _), ?_, by simp, ?_, by simp [natL]⟩
    · rw [← hPd, blk_push_self]
      congr 1
      generalize a.length = n
      induction n with
      | zero => rfl
      | succ n ih => rw [repl, ih]; rfl
    · intro z hz; rw [List.mem_replicate] at hz; omega
  · clear h0 ρ hm
    rintro k t G' ⟨i, o, hik, ht, g0, g1, g5, g12, g13, hx2, hb, hol, hok, hs⟩
    obtain ⟨ρ, rfl⟩ := toT ht
    simp only [get_T, Nat.reduceLT] at g0 g1 g5 g12 g13
    by_cases hi : i < a.length
    · have hla := ha.load hi hx2
      have hia := ha.ia (k := .i64) hi
      have hA2 := natL_drop hi
      have hA3 : a.getD i 0 < 4294967296 := ha.2 _ (by rw [List.getD_eq_getElem?_getD, List.getElem?_eq_getElem hi]; exact List.getElem_mem hi)
      generalize a.getD i 0 = A at hla hA2 hA3
      have hlo : i < o.length := by omega
      obtain ⟨hio, hro⟩ := own_load (k := .i64) (cap := a.length) hb hlo hol
      rw [hSL] at hio
      have eA : IntKind.u64.wrap (A : Int) = (A : Int) := by rw [wrapu64]; omega
      have e9 : IntKind.i64.wrap ((i : Int) + 1) = ((i + 1 : Nat) : Int) := by rw [wrap64 (by omega) (by omega)]; omega
      by_cases hi1 : i + 1 < a.length
      · have hla1 := ha.load hi1 hx2
        have hia1 := ha.ia (k := .i64) hi1
        have hN := natL_drop hi1
        have hA13 : a.getD (i + 1) 0 < 4294967296 := ha.2 _ (by rw [List.getD_eq_getElem?_getD, List.getElem?_eq_getElem hi1]; exact List.getElem_mem hi1)
        generalize a.getD (i + 1) 0 = A1 at hla1 hN hA13
        have eA1 : IntKind.u64.wrap (A1 : Int) = (A1 : Int) := by rw [wrapu64]; omega
        have s1 : binA 0 .shl (.int .u64 (A1 : Int)) (.int .u64 32) = some (.int .u64 ((A1 * 4294967296 : Nat) : Int)) := by
          have := shl64 (tag := 0) (n := A1) (s := 32) (k' := .u64) (by omega)
          rw [show A1 * 2 ^ 32 % 18446744073709551616 = A1 * 4294967296 by omega] at this; exact this
        have s2 := or64 (tag := 0) (a := A) (b := A1 * 4294967296) (by omega) (by omega)
        rw [show A ||| A1 * 4294967296 = A + A1 * 4294967296 from or_addN (s := 32) hA3] at s2
        have s3 := shr64 (tag := 0) (n := A + A1 * 4294967296) (s := n) (k' := .i64) (by omega)
        simp [-Int.natCast_add, -Int.natCast_mul, -Int.natCast_pow, -Int.natCast_ediv, r_185_3, r_185_4, r_185_5, r_185_6, r_185_7, r_185_8, r_185_9, g0, g1, g5, g12, g13, hi, hi1, hia, hla, hia1, hla1, eA, eA1, e9, s1, s2, s3, ha.slen, hio]
        refine (num_low_uint64_does (by have := hx2.1; omega)).mono ?_
        rintro _ G3 ⟨rfl, hx3⟩
        replace hb := hx3.blk hb
        have hxx := hx2.trans hx3
        have hPl := blk_lt hb
        have hle : i + 1 ≤ o.length := hlo
        have hbl := back_limb hn hA3 hN
        simp [-Int.natCast_emod, -Int.natCast_ediv, -Int.natCast_add, hb, hle]
        have hz : (A + A1 * 4294967296) / 2 ^ n % 4294967296 < 4294967296 := Nat.mod_lt _ (by omega)
        rw [hA2, hbl] at hs
        generalize (A + A1 * 4294967296) / 2 ^ n % 4294967296 = z at hs hz ⊢
        have hset : natL (List.take (i + 1) (o.set i z)) = natL (List.take i o) + 4294967296 ^ i * z := natL_take_set hlo
        refine ⟨k - 1, by omega, i + 1, by omega, rfl, hxx.set (by omega), o.set i z, by rw [blk_set_self hPl, u32s_set], by simp [hol], LimOk_set hok hz, ?_⟩
        exact back_fin hset hs
      · obtain ⟨A1, hA1⟩ : ∃ x : Nat, x = 0 := ⟨0, rfl⟩
        have hN : natL (List.drop (i + 1) a) = A1 + 4294967296 * 0 := by rw [List.drop_eq_nil_of_le (by omega), hA1]; simp [natL]
        have s3 : binA 0 .shr (.int .u64 (A : Int)) (.int .i64 (n : Int)) = some (.int .u64 (((A + A1 * 4294967296) / 2 ^ n : Nat) : Int)) := by
          rw [shr64 (by omega), show A + A1 * 4294967296 = A by rw [hA1]; omega]
        clear hA1
        simp [-Int.natCast_add, -Int.natCast_mul, -Int.natCast_pow, -Int.natCast_ediv, r_185_3, r_185_4, r_185_5, r_185_6, r_185_7, r_185_8, r_185_9, g0, g1, g5, g12, g13, hi, hi1, hia, hla, eA, e9, s3, ha.slen, hio]
        refine (num_low_uint64_does (by have := hx2.1; omega)).mono ?_
        rintro _ G3 ⟨rfl, hx3⟩
        replace hb := hx3.blk hb
        have hxx := hx2.trans hx3
        have hPl := blk_lt hb
        have hle : i + 1 ≤ o.length := hlo
        have hbl := back_limb hn hA3 hN
        simp [-Int.natCast_emod, -Int.natCast_ediv, -Int.natCast_add, hb, hle]
        have hz : (A + A1 * 4294967296) / 2 ^ n % 4294967296 < 4294967296 := Nat.mod_lt _ (by omega)
        rw [hA2, hbl] at hs
        generalize (A + A1 * 4294967296) / 2 ^ n % 4294967296 = z at hs hz ⊢
        have hset : natL (List.take (i + 1) (o.set i z)) = natL (List.take i o) + 4294967296 ^ i * z := natL_take_set hlo
        refine ⟨k - 1, by omega, i + 1, by omega, rfl, hxx.set (by omega), o.set i z, by rw [blk_set_self hPl, u32s_set], by simp [hol], LimOk_set hok hz, ?_⟩
        exact back_fin hset hs
    · simp [r_185_3, g0, g1, g5, g12, g13, hi]
      have : i = a.length := by omega
      subst this
      refine ⟨hx2, o, hb, hol, hok, ?_⟩
      rw [List.take_of_length_le (by omega), List.drop_eq_nil_of_le (Nat.le_refl _)] at hs
      simpa [natL] using hs
  · clear h0 ρ hm
    rintro t G' ⟨o, ht, g5, hx2, hb, hol, hok, hs⟩
    obtain ⟨ρ, rfl⟩ := toT ht
    simp only [get_T, Nat.reduceLT] at g5
    have hy : Lim G' SL o := by
      rw [← hSL, ← hol]
      exact ⟨(Own.mk (fl := 0) hb (by simp) (Nat.zero_le _)).sl, hok⟩
    simp [r_185_10, g5]
    exact fun _ => ⟨o, hy, hs, hol⟩
end Go.Proofs.YtjlohmnnldbjoaaGreat.AI

/- num.take, num.give: limbs of one's own, changed. -/
namespace Go.Proofs.YtjlohmnnldbjoaaGreat.AI
open Go
set_option maxHeartbeats 4000000

variable {fl : Nat} {H G : Heap} {R : PostP} {v w : Value} {a b : List Nat} {K : PostV}

theorem does_wr {E : Env} {f : FuncId} {args : List Value} {sf : SFun} (hc : E.code f = some sf) (hl : args.length = sf.np := by rfl) (hnt : args.length ≤ sf.nt := by exact of_decide_eq_true rfl)
    (h : ∀ ρ : Nat → Value, (∀ i, ρ i = args.getD i undef) → W E fl sf.body (T sf.nt ρ) H (endQ (fun t' H' => resP H' t' sf.res fun v => K v H')) R) :
    Does E fl f args H K R :=
  does_fun (K := K) hc hl hnt (fun t h1 h2 => by
    have h3 := h (get t) h2
    rw [← T_get h1] at h3
    refine h3.mono fun e t' H' hq => ?_
    cases e with
    | exit i => exact absurd hq id
    | normal => exact ⟨trivial, hq⟩
    | ret => exact ⟨trivial, hq⟩)

@[simp] theorem resP_none {t : Tmps} {P : Value → Prop} : resP H t [] P = P (.tuple #[]) := by simp [resP, resAll, packRes]

theorem ExtB.refl {o : Option Nat} : ExtB o H H := (Ext.refl H).extB
theorem ExtB.trans {o : Option Nat} {H1 H2 H3 : Heap} (h : ExtB o H1 H2) (k : ExtB o H2 H3) : ExtB o H1 H3 :=
  ⟨Nat.le_trans h.1 k.1, fun b hb hne => (k.2 b (Nat.lt_of_lt_of_le hb h.1) hne).trans (h.2 b hb hne)⟩
theorem ExtB.set {p : Nat} {r : Blk} (h : ExtB (some p) H G) : ExtB (some p) H (G.setIfInBounds p r) :=
  ⟨by have := h.1; simpa using this, fun b hb hne => by rw [blk_set_ne (by simpa using hne)]; exact h.2 b hb hne⟩
theorem ExtB.ext {p : Nat} {H0 : Heap} (h : ExtB (some p) H G) (hp : H0.size ≤ p) (h0 : Ext H0 H) : Ext H0 G :=
  ⟨Nat.le_trans h0.1 h.1, fun b hb => (h.2 b (Nat.lt_of_lt_of_le hb h0.1) (by simp; omega)).trans (h0.2 b hb)⟩

theorem Sl.off {e sz n p : Nat} {cs : List Value} (h : Sl H e sz v n cs) (hx : ExtB (some p) H G) (hne : slB v ≠ some p) : Sl G e sz v n cs := by
  obtain ⟨hl, h | ⟨b, off, cap, ro, cells, rfl, hb, ho, hcs⟩⟩ := h
  · exact ⟨hl, .inl h⟩
  · exact ⟨hl, .inr ⟨b, off, cap, ro, cells, rfl, by rw [hx.2 b (blk_lt hb) (fun h => hne (by simp only [slB]; exact h.symm))]; exact hb, ho, hcs⟩⟩
theorem Lim.off {p : Nat} (h : Lim H v a) (hx : ExtB (some p) H G) (hne : slB v ≠ some p) : Lim G v a := ⟨h.1.off hx hne, h.2⟩

def win (L : List Nat) (o : Nat) : Nat → Nat
  | 0 => 0
  | i + 1 => win L o i + 4294967296 ^ i * L.getD (o + i) 0
theorem win_congr {L L' : List Nat} {o : Nat} : ∀ {i : Nat}, (∀ j, j < i → L.getD (o + j) 0 = L'.getD (o + j) 0) → win L o i = win L' o i
  | 0, _ => rfl
  | i + 1, h => by rw [win, win, win_congr (fun j hj => h j (by omega)), h i (by omega)]
theorem win_set {L : List Nat} {o i j z : Nat} (h : o + i ≤ j) : win (L.set j z) o i = win L o i :=
  win_congr fun k hk => getD_set_ne' (by omega)
theorem getD_lt {L : List Nat} (h : LimOk L) (i : Nat) : L.getD i 0 < 4294967296 := by
  rw [List.getD_eq_getElem?_getD]
  by_cases hi : i < L.length
  · rw [List.getElem?_eq_getElem hi]; exact h _ (List.getElem_mem hi)
  · rw [List.getElem?_eq_none (by omega)]; simp
theorem win_lt {L : List Nat} (h : LimOk L) (o : Nat) : ∀ i, win L o i < 4294967296 ^ i
  | 0 => by simp [win]
  | i + 1 => by
    rw [win, Nat.pow_succ]
    have h1 := win_lt h o i
    have h2 := getD_lt h (o + i)
    have : 4294967296 ^ i * (L.getD (o + i) 0 + 1) ≤ 4294967296 ^ i * 4294967296 := Nat.mul_le_mul_left _ h2
    rw [Nat.mul_add, Nat.mul_one] at this
    omega
theorem natL_win {L : List Nat} : ∀ {i : Nat}, i ≤ L.length → natL (L.take i) = win L 0 i
  | 0, _ => by simp [natL, win]
  | i + 1, h => by rw [natL_take_succ (by omega), natL_win (by omega), win, Nat.zero_add]

theorem win_all {L : List Nat} {n : Nat} (h : L.length ≤ n) : win L 0 n = natL L := by
  obtain ⟨k, rfl⟩ : ∃ k, n = L.length + k := ⟨n - L.length, by omega⟩
  clear h
  induction k with
  | zero => rw [Nat.add_zero, ← natL_win (Nat.le_refl _), List.take_length]
  | succ k ih => rw [← Nat.add_assoc, win, ih, List.getD_eq_getElem?_getD, List.getElem?_eq_none (by omega)]; simp

theorem own_at {e p o n cap : Nat} {L : List Nat} (hb : G.blk p = .row false e (u32s L)) (hL : o + n ≤ L.length) {k : IntKind} {z : Nat} (hz : z < n) :
    iaV 1 (.slice (some ⟨p, o, none⟩) n cap) (.int k (z : Int)) = some (.pointer (some ⟨p, o + z, none⟩)) ∧ rd (G.blk p) (o + z) = some (.int .u32 ((L.getD (o + z) 0 : Nat) : Int)) := by
  refine ⟨?_, ?_⟩
  · simp only [iaV]; rw [if_pos (by omega)]; simp
  · rw [hb]; simp [u32s, List.getD_eq_getElem?_getD, show o + z < L.length by omega]

theorem take_step {x y u v g c t ch cm bo B P : Nat} (h : x + g * y = u + c * P) (ht : t = c + v * g) (hc : t = ch * B + cm) {z w : Nat} (hz : z + cm = w + bo * B) :
    (x + P * z) + g * (y + P * v) = (u + P * w) + (ch + bo) * (P * B) := by
  have h1 : P * z + P * cm = P * w + P * (bo * B) := by rw [← Nat.mul_add, hz, Nat.mul_add]
  have h2 : P * (c + v * g) = P * (ch * B) + P * cm := by rw [← ht, hc, Nat.mul_add]
  rw [Nat.mul_add] at h2 ⊢
  rw [Nat.add_mul]
  have e1 : g * (P * v) = P * (v * g) := by grind
  have e2 : ch * (P * B) = P * (ch * B) := by grind
  have e3 : bo * (P * B) = P * (bo * B) := by grind
  have e4 : c * P = P * c := by grind
  omega

theorem give_step {x y u v c t ch cm B P w : Nat} (h : x + c * P = u + y) (ht : t = c + w + v) (hc : t = ch * B + cm) :
    (x + P * cm) + ch * (P * B) = (u + P * w) + (y + P * v) := by
  have h2 : P * (c + w + v) = P * (ch * B) + P * cm := by rw [← ht, hc, Nat.mul_add]
  rw [Nat.mul_add, Nat.mul_add] at h2
  have e2 : ch * (P * B) = P * (ch * B) := by grind
  have e4 : c * P = P * c := by grind
  omega

def Won (L X : List Nat) (o i : Nat) : Prop := X.length = L.length ∧ LimOk X ∧ ∀ j, j < o ∨ o + i ≤ j → X.getD j 0 = L.getD j 0
theorem Won.zero {L : List Nat} {o : Nat} (h : LimOk L) : Won L L o 0 := ⟨rfl, h, fun _ _ => rfl⟩
theorem Won.step {L X : List Nat} {o i z : Nat} (h : Won L X o i) (hz : z < 4294967296) : Won L (X.set (o + i) z) o (i + 1) :=
  ⟨by simp [h.1], LimOk_set h.2.1 hz, fun j hj => by rw [getD_set_ne' (by omega)]; exact h.2.2 j (by omega)⟩
theorem Won.win {L X : List Nat} {o i z : Nat} (h : Won L X o i) (hi : o + i < L.length) : AI.win (X.set (o + i) z) o (i + 1) = AI.win X o i + 4294967296 ^ i * z := by
  rw [AI.win, win_set (by omega), List.getD_eq_getElem?_getD, List.getElem?_set_self (by rw [h.1]; exact hi)]; rfl

theorem num_take_does {L : List Nat} {p o n cap g : Nat} (hb : H.blk p = .row false T_uint32 (u32s L)) (hok : LimOk L) (hL : o + n ≤ L.length) (hv : Lim H v a) (hne : slB v ≠ some p) (hf : fl ≤ p) (hg : g < 4294967296) (hn : n < 1073741824) (ha : a.length ≤ n) :
    Does env fl f_183 [.slice (some ⟨p, o, none⟩) n cap, v, .int .u64 (g : Int)] H (fun r G => ∃ X c, r = .bool (c != 0) ∧ G.blk p = .row false T_uint32 (u32s X) ∧ ExtB (some p) H G ∧ Won L X o n ∧ win X o n + g * natL a = win L o n + c * 4294967296 ^ n) R := by
  refine does_wr e_183 (h := ?_)
  intro ρ h0
  simp only [s_183]
  simp [r_183_0, r_183_1, r_183_2, h0, slenV]
  generalize hSL : Value.slice (some ⟨p, o, none⟩) n cap = SL
  refine W_loopM (fun k t G => ∃ i c X, i + k = n ∧ t.length = 49 ∧ get t 0 = SL ∧ get t 1 = v ∧ get t 2 = .int .u64 ((g : Nat) : Int) ∧ get t 7 = .int .u64 ((c : Nat) : Int) ∧ get t 11 = .int .i64 n ∧ get t 12 = .int .i64 ((i : Nat) : Int) ∧
      G.blk p = .row false T_uint32 (u32s X) ∧ ExtB (some p) H G ∧ Won L X o i ∧ c ≤ 4294967296 ∧ win X o i + g * win a 0 i = win L o i + c * 4294967296 ^ i)
    (fun t G => ∃ c X, t.length = 49 ∧ get t 7 = .int .u64 ((c : Nat) : Int) ∧ G.blk p = .row false T_uint32 (u32s X) ∧ ExtB (some p) H G ∧ Won L X o n ∧ win X o n + g * win a 0 n = win L o n + c * 4294967296 ^ n) n ?_ ?_ ?_
  · exact ⟨0, 0, L, by omega, by simp, by simp [h0, hSL], by simp [h0], by simp [h0], by simp, by simp, by simp, hb, ExtB.refl, Won.zero hok, by omega, by simp [win]⟩
  · clear h0 ρ
    rintro k t G ⟨i, c, X, hik, ht, g0, g1, g2, g7, g11, g12, hX, hx, hw, hc, hs⟩
    obtain ⟨ρ, rfl⟩ := toT ht
    simp only [get_T, Nat.reduceLT] at g0 g1 g2 g7 g11 g12
    by_cases hi : i < n
    · have e9 : IntKind.i64.wrap ((i : Int) + 1) = ((i + 1 : Nat) : Int) := by rw [wrap64 (by omega) (by omega)]; omega
      obtain ⟨hi1, hi2⟩ := own_at (k := .i64) (cap := cap) hX (by rw [hw.1]; exact hL) hi
      rw [hSL] at hi1
      have hXl : X.getD (o + i) 0 = L.getD (o + i) 0 := hw.2.2 _ (by omega)
      have hA := getD_lt hok (o + i)
      rw [hXl] at hi2
      have hLw : win L o (i + 1) = win L o i + 4294967296 ^ i * L.getD (o + i) 0 := rfl
      have haw : win a 0 (i + 1) = win a 0 i + 4294967296 ^ i * a.getD i 0 := by rw [win, Nat.zero_add]
      generalize L.getD (o + i) 0 = A at hi2 hA hLw
      have eA : IntKind.u64.wrap (A : Int) = (A : Int) := by rw [wrapu64]; omega
      have hv' := hv.off hx hne
      have hV := getD_lt hv.ok i
      by_cases hia : i < a.length
      · have hla := hv'.load hia (Ext.refl _)
        have hia2 := hv'.ia (k := .i64) hia
        generalize a.getD i 0 = V at hla haw hV
        have eV : IntKind.u64.wrap (V : Int) = (V : Int) := by rw [wrapu64]; omega
        have hVg : V * g ≤ 4294967295 * 4294967295 := Nat.mul_le_mul (by omega) (by omega)
        have e1 : IntKind.u64.wrap ((V : Int) * (g : Int)) = ((V * g : Nat) : Int) := by rw [wrapu64, ← Int.natCast_mul]; omega
        have e2 : IntKind.u64.wrap ((c : Int) + ((V * g : Nat) : Int)) = ((c + V * g : Nat) : Int) := by rw [wrapu64, ← Int.natCast_add]; omega
        have e3 := and64 (tag := 0) (a := c + V * g)
        simp [-Int.natCast_add, -Int.natCast_mul, -Int.natCast_ediv, -Int.natCast_emod, r_183_3, r_183_4, r_183_5, r_183_6, r_183_7, r_183_8, r_183_9, r_183_10, g0, g1, g2, g7, g11, g12, hi, hv'.slen, hia, hia2, hla, eV, e1, e2, hi1, hi2, e3, eA]
        generalize hD : c + V * g = D at *
        have hDD : D = (D / 4294967296) * 4294967296 + D % 4294967296 := (Nat.div_add_mod' D 4294967296).symm
        have hcm := Nat.mod_lt D (show 0 < 4294967296 by omega)
        generalize D / 4294967296 = ch at *
        generalize D % 4294967296 = cm at *
        have hbo : IntKind.u64.wrap ((A : Int) - (cm : Int)) = ((if cm ≤ A then A - cm else A + 18446744073709551616 - cm : Nat) : Int) := by rw [wrapu64]; split <;> omega
        have hchb : ch ≤ 4294967295 := by omega
        obtain ⟨bo, z, q, hbq, hz1, hz2, hq1, hq2, hq3⟩ : ∃ bo z q : Nat, (if cm ≤ A then A - cm else A + 18446744073709551616 - cm : Nat) = q ∧ z + cm = A + bo * 4294967296 ∧ z < 4294967296 ∧ q % 4294967296 = z ∧ q / 9223372036854775808 = bo ∧ bo ≤ 1 := by
          by_cases h : cm ≤ A
          · exact ⟨0, A - cm, A - cm, by rw [if_pos h], by omega, by omega, by omega, by omega, by omega⟩
          · exact ⟨1, A + 4294967296 - cm, A + 18446744073709551616 - cm, by rw [if_neg h], by omega, by omega, by omega, by omega, by omega⟩
        have e8 : IntKind.u64.wrap ((ch : Int) + (bo : Int)) = ((ch + bo : Nat) : Int) := by rw [wrapu64]; omega
        rw [hbq] at hbo
        simp [-Int.natCast_add, -Int.natCast_mul, -Int.natCast_ediv, -Int.natCast_emod, hbo, g0, g7, g11, g12]
        refine (num_low_uint64_does (by have := blk_lt hX; omega)).mono ?_
        rintro _ G3 ⟨rfl, hx3⟩
        rw [hq1, hq2]
        have hX3 := hx3.blk hX
        have hpl := blk_lt hX3
        have hle : o + i + 1 ≤ X.length := by rw [hw.1]; omega
        simp [-Int.natCast_add, -Int.natCast_mul, -Int.natCast_ediv, -Int.natCast_emod, hi1, hX3, hle, hf, e8, e9]
        refine ⟨k - 1, by omega, i + 1, by omega, ch + bo, rfl, rfl, X.set (o + i) z, by rw [blk_set_self hpl, u32s_set], (hx.trans hx3.extB).set, hw.step hz2, by omega, ?_⟩
        rw [hw.win (by omega), haw, hLw, Nat.pow_succ]
        exact take_step hs hD.symm hDD hz1
      · have hV0 : a.getD i 0 = 0 := by rw [List.getD_eq_getElem?_getD, List.getElem?_eq_none (by omega)]; rfl
        rw [hV0] at haw
        obtain ⟨V, hV⟩ : ∃ V, V = 0 := ⟨0, rfl⟩
        replace haw : win a 0 (i + 1) = win a 0 i + 4294967296 ^ i * V := by rw [haw, hV]
        have hVg : V * g = 0 := by rw [hV, Nat.zero_mul]
        have e3 := and64 (tag := 0) (a := c)
        have ec : c = c + V * g := by omega
        rw [ec] at e3 g7
        have hDb : c + V * g ≤ 4294967296 := by omega
        simp [-Int.natCast_add, -Int.natCast_mul, -Int.natCast_ediv, -Int.natCast_emod, r_183_3, r_183_4, r_183_5, r_183_6, r_183_7, r_183_8, r_183_9, r_183_10, g0, g1, g2, g7, g11, g12, hi, hv'.slen, hia, hi1, hi2, e3, eA]
        generalize hD : c + V * g = D at *
        have hDD : D = (D / 4294967296) * 4294967296 + D % 4294967296 := (Nat.div_add_mod' D 4294967296).symm
        have hcm := Nat.mod_lt D (show 0 < 4294967296 by omega)
        generalize D / 4294967296 = ch at *
        generalize D % 4294967296 = cm at *
        have hbo : IntKind.u64.wrap ((A : Int) - (cm : Int)) = ((if cm ≤ A then A - cm else A + 18446744073709551616 - cm : Nat) : Int) := by rw [wrapu64]; split <;> omega
        have hchb : ch ≤ 4294967295 := by omega
        obtain ⟨bo, z, q, hbq, hz1, hz2, hq1, hq2, hq3⟩ : ∃ bo z q : Nat, (if cm ≤ A then A - cm else A + 18446744073709551616 - cm : Nat) = q ∧ z + cm = A + bo * 4294967296 ∧ z < 4294967296 ∧ q % 4294967296 = z ∧ q / 9223372036854775808 = bo ∧ bo ≤ 1 := by
          by_cases h : cm ≤ A
          · exact ⟨0, A - cm, A - cm, by rw [if_pos h], by omega, by omega, by omega, by omega, by omega⟩
          · exact ⟨1, A + 4294967296 - cm, A + 18446744073709551616 - cm, by rw [if_neg h], by omega, by omega, by omega, by omega, by omega⟩
        have e8 : IntKind.u64.wrap ((ch : Int) + (bo : Int)) = ((ch + bo : Nat) : Int) := by rw [wrapu64]; omega
        rw [hbq] at hbo
        simp [-Int.natCast_add, -Int.natCast_mul, -Int.natCast_ediv, -Int.natCast_emod, hbo, g0, g7, g11, g12]
        refine (num_low_uint64_does (by have := blk_lt hX; omega)).mono ?_
        rintro _ G3 ⟨rfl, hx3⟩
        rw [hq1, hq2]
        have hX3 := hx3.blk hX
        have hpl := blk_lt hX3
        have hle : o + i + 1 ≤ X.length := by rw [hw.1]; omega
        simp [-Int.natCast_add, -Int.natCast_mul, -Int.natCast_ediv, -Int.natCast_emod, hi1, hX3, hle, hf, e8, e9]
        refine ⟨k - 1, by omega, i + 1, by omega, ch + bo, rfl, rfl, X.set (o + i) z, by rw [blk_set_self hpl, u32s_set], (hx.trans hx3.extB).set, hw.step hz2, by omega, ?_⟩
        rw [hw.win (by omega), haw, hLw, Nat.pow_succ]
        exact take_step hs hD.symm hDD hz1
    · simp [r_183_3, g0, g1, g2, g7, g11, g12, hi]
      have : i = n := by omega
      subst this
      exact ⟨c, rfl, X, hX, hx, hw, hs⟩
  · clear h0 ρ
    rintro t G ⟨c, X, ht, g7, hX, hx, hw, hs⟩
    obtain ⟨ρ, rfl⟩ := toT ht
    simp only [get_T, Nat.reduceLT] at g7
    simp [r_183_11, g7]
    refine ⟨X, c, rfl, hX, hx, hw, ?_⟩
    rw [← hs]
    congr 2
    rw [win_all ha]

theorem num_give_does {L : List Nat} {p o n cap : Nat} (hb : H.blk p = .row false T_uint32 (u32s L)) (hok : LimOk L) (hL : o + n ≤ L.length) (hv : Lim H v a) (hne : slB v ≠ some p) (hf : fl ≤ p) (hn : n < 1073741824) (ha : a.length ≤ n) :
    Does env fl f_184 [.slice (some ⟨p, o, none⟩) n cap, v] H (fun _ G => ∃ X c, G.blk p = .row false T_uint32 (u32s X) ∧ ExtB (some p) H G ∧ Won L X o n ∧ win X o n + c * 4294967296 ^ n = win L o n + natL a) R := by
  refine does_wr e_184 (h := ?_)
  intro ρ h0
  simp only [s_184]
  simp [r_184_0, r_184_1, h0, slenV]
  generalize hSL : Value.slice (some ⟨p, o, none⟩) n cap = SL
  refine W_loop (fun k t G => ∃ i c X, i + k = n ∧ t.length = 37 ∧ get t 0 = SL ∧ get t 1 = v ∧ get t 4 = .int .u64 ((c : Nat) : Int) ∧ get t 7 = .int .i64 n ∧ get t 8 = .int .i64 ((i : Nat) : Int) ∧
      G.blk p = .row false T_uint32 (u32s X) ∧ ExtB (some p) H G ∧ Won L X o i ∧ c ≤ 1 ∧ win X o i + c * 4294967296 ^ i = win L o i + win a 0 i) ?_ n ?_
  · clear h0 ρ
    rintro k t G ⟨i, c, X, hik, ht, g0, g1, g4, g7, g8, hX, hx, hw, hc, hs⟩
    obtain ⟨ρ, rfl⟩ := toT ht
    simp only [get_T, Nat.reduceLT] at g0 g1 g4 g7 g8
    by_cases hi : i < n
    · have e9 : IntKind.i64.wrap ((i : Int) + 1) = ((i + 1 : Nat) : Int) := by rw [wrap64 (by omega) (by omega)]; omega
      obtain ⟨hi1, hi2⟩ := own_at (k := .i64) (cap := cap) hX (by rw [hw.1]; exact hL) hi
      rw [hSL] at hi1
      have hXl : X.getD (o + i) 0 = L.getD (o + i) 0 := hw.2.2 _ (by omega)
      have hA := getD_lt hok (o + i)
      rw [hXl] at hi2
      have hLw : win L o (i + 1) = win L o i + 4294967296 ^ i * L.getD (o + i) 0 := rfl
      have haw : win a 0 (i + 1) = win a 0 i + 4294967296 ^ i * a.getD i 0 := by rw [win, Nat.zero_add]
      generalize L.getD (o + i) 0 = A at hi2 hA hLw
      have eA : IntKind.u64.wrap (A : Int) = (A : Int) := by rw [wrapu64]; omega
      have e1 : IntKind.u64.wrap ((c : Int) + (A : Int)) = ((c + A : Nat) : Int) := by rw [wrapu64]; omega
      have hv' := hv.off hx hne
      have hV := getD_lt hv.ok i
      by_cases hia : i < a.length
      · have hla := hv'.load hia (Ext.refl _)
        have hia2 := hv'.ia (k := .i64) hia
        generalize a.getD i 0 = V at hla haw hV
        have eV : IntKind.u64.wrap (V : Int) = (V : Int) := by rw [wrapu64]; omega
        have e2 : IntKind.u64.wrap (((c + A : Nat) : Int) + (V : Int)) = ((c + A + V : Nat) : Int) := by rw [wrapu64]; omega
        simp [-Int.natCast_add, -Int.natCast_mul, -Int.natCast_ediv, -Int.natCast_emod, r_184_2, r_184_3, r_184_4, r_184_5, r_184_6, r_184_7, r_184_8, r_184_9, g0, g1, g4, g7, g8, hi, hv'.slen, hia, hia2, hla, eV, e1, e2, hi1, hi2, eA]
        generalize hD : c + A + V = D at *
        have hDD : D = (D / 4294967296) * 4294967296 + D % 4294967296 := (Nat.div_add_mod' D 4294967296).symm
        have hcm := Nat.mod_lt D (show 0 < 4294967296 by omega)
        refine (num_low_uint64_does (by have := blk_lt hX; omega)).mono ?_
        rintro _ G3 ⟨rfl, hx3⟩
        generalize D / 4294967296 = ch at *
        generalize D % 4294967296 = cm at *
        have hX3 := hx3.blk hX
        have hpl := blk_lt hX3
        have hle : o + i + 1 ≤ X.length := by rw [hw.1]; omega
        simp [-Int.natCast_add, -Int.natCast_mul, -Int.natCast_ediv, -Int.natCast_emod, hi1, hX3, hle, hf, e9]
        refine ⟨k - 1, by omega, i + 1, by omega, ch, rfl, rfl, X.set (o + i) cm, by rw [blk_set_self hpl, u32s_set], (hx.trans hx3.extB).set, hw.step hcm, by omega, ?_⟩
        rw [hw.win (by omega), haw, hLw, Nat.pow_succ]
        exact give_step hs hD.symm hDD
      · have hV0 : a.getD i 0 = 0 := by rw [List.getD_eq_getElem?_getD, List.getElem?_eq_none (by omega)]; rfl
        rw [hV0] at haw
        obtain ⟨V, hV⟩ : ∃ V, V = 0 := ⟨0, rfl⟩
        replace haw : win a 0 (i + 1) = win a 0 i + 4294967296 ^ i * V := by rw [haw, hV]
        have e1' : IntKind.u64.wrap ((c : Int) + (A : Int)) = ((c + A + V : Nat) : Int) := by rw [e1, hV]; rfl
        simp [-Int.natCast_add, -Int.natCast_mul, -Int.natCast_ediv, -Int.natCast_emod, r_184_2, r_184_3, r_184_4, r_184_5, r_184_6, r_184_7, r_184_8, r_184_9, g0, g1, g4, g7, g8, hi, hv'.slen, hia, hi1, hi2, e1', eA]
        generalize hD : c + A + V = D at *
        have hDD : D = (D / 4294967296) * 4294967296 + D % 4294967296 := (Nat.div_add_mod' D 4294967296).symm
        have hcm := Nat.mod_lt D (show 0 < 4294967296 by omega)
        refine (num_low_uint64_does (by have := blk_lt hX; omega)).mono ?_
        rintro _ G3 ⟨rfl, hx3⟩
        generalize D / 4294967296 = ch at *
        generalize D % 4294967296 = cm at *
        have hX3 := hx3.blk hX
        have hpl := blk_lt hX3
        have hle : o + i + 1 ≤ X.length := by rw [hw.1]; omega
        simp [-Int.natCast_add, -Int.natCast_mul, -Int.natCast_ediv, -Int.natCast_emod, hi1, hX3, hle, hf, e9]
        refine ⟨k - 1, by omega, i + 1, by omega, ch, rfl, rfl, X.set (o + i) cm, by rw [blk_set_self hpl, u32s_set], (hx.trans hx3.extB).set, hw.step hcm, by omega, ?_⟩
        rw [hw.win (by omega), haw, hLw, Nat.pow_succ]
        exact give_step hs hD.symm hDD
    · simp [r_184_2, g0, g1, g4, g7, g8, hi]
      have : i = n := by omega
      subst this
      exact ⟨X, hX, hx, hw, c, by rw [hs, win_all ha]⟩
  · exact ⟨0, 0, L, by omega, by simp, by simp [h0, hSL], by simp [h0], by simp, by simp, by simp, hb, ExtB.refl, Won.zero hok, by omega, by simp [win]⟩
end Go.Proofs.YtjlohmnnldbjoaaGreat.AI

/- Division of limbs by limbs: the plain laws. -/
namespace Go.Proofs.YtjlohmnnldbjoaaGreat.AI
open Go

theorem win_split {L : List Nat} {o i : Nat} : ∀ {j : Nat}, win L o (i + j) = win L o i + 4294967296 ^ i * win L (o + i) j
  | 0 => by simp [win]
  | j + 1 => by
    rw [← Nat.add_assoc, win, win_split, win, Nat.mul_add, ← Nat.mul_assoc, ← Nat.pow_add, Nat.add_assoc o i j, Nat.add_assoc]

theorem win_top {L : List Nat} {o k : Nat} (hk : 2 ≤ k) : win L o (k + 1) = win L o (k - 2) + 4294967296 ^ (k - 2) * ((L.getD (o + k) 0 * 4294967296 + L.getD (o + (k - 1)) 0) * 4294967296 + L.getD (o + (k - 2)) 0) := by
  obtain ⟨j, rfl⟩ : ∃ j, k = j + 2 := ⟨k - 2, by omega⟩
  rw [show j + 2 - 2 = j by omega, show j + 2 + 1 = j + 3 by omega, win_split, show j + 2 - 1 = j + 1 by omega]
  congr 2
  simp only [win]
  rw [show o + j + 0 = o + j by omega, show o + j + 1 = o + (j + 1) by omega, show o + j + 2 = o + (j + 2) by omega]
  omega
theorem win_top2 {L : List Nat} {o k : Nat} (hk : 2 ≤ k) : win L o k = win L o (k - 2) + 4294967296 ^ (k - 2) * (L.getD (o + (k - 1)) 0 * 4294967296 + L.getD (o + (k - 2)) 0) := by
  obtain ⟨j, rfl⟩ : ∃ j, k = j + 2 := ⟨k - 2, by omega⟩
  rw [show j + 2 - 2 = j by omega, win_split, show j + 2 - 1 = j + 1 by omega]
  congr 2
  simp only [win]
  rw [show o + j + 0 = o + j by omega, show o + j + 1 = o + (j + 1) by omega]
  omega

structure Gs (W low lowV Uw V x u3 top next B : Nat) : Prop where
  W0 : 0 < W
  hlow : low < W
  hlowV : lowV < W
  hU : Uw = low + W * (x * B + u3)
  hV : V = lowV + W * (top * B + next)
  hB : B ≤ 2 * top
  htop : top < B
  hnext : next < B
  hu3 : u3 < B
  lt : Uw < V * B

variable {W low lowV Uw V x u3 top next B g rest q : Nat}

theorem Gs.V0 (h : Gs W low lowV Uw V x u3 top next B) : 0 < V := by
  rw [h.hV]
  have h1 : 0 < top := by have := h.hB; have := h.htop; omega
  have h2 : 0 < B := by have := h.htop; omega
  have := Nat.mul_pos h.W0 (show 0 < top * B + next by have := Nat.mul_pos h1 h2; omega)
  omega
theorem Gs.V_lt (h : Gs W low lowV Uw V x u3 top next B) : V < W * (top * B + next + 1) := by
  rw [h.hV, Nat.mul_add W (top * B + next) 1, Nat.mul_one]; have := h.hlowV; omega
theorem Gs.U_lt (h : Gs W low lowV Uw V x u3 top next B) : Uw < W * (x * B + u3 + 1) := by
  rw [h.hU, Nat.mul_add W (x * B + u3) 1, Nat.mul_one]; have := h.hlow; omega
theorem Gs.V_ge (h : Gs W low lowV Uw V x u3 top next B) : W * (top * B + next) ≤ V := by rw [h.hV]; omega
theorem Gs.U_ge (h : Gs W low lowV Uw V x u3 top next B) : W * (x * B + u3) ≤ Uw := by rw [h.hU]; omega
theorem Gs.q_lt (h : Gs W low lowV Uw V x u3 top next B) : Uw / V < B := by
  rw [Nat.div_lt_iff_lt_mul h.V0, Nat.mul_comm]; exact h.lt

theorem Gs.q_le (h : Gs W low lowV Uw V x u3 top next B) : Uw / V ≤ x / top := by
  have h1 : 0 < top := by have := h.hB; have := h.htop; omega
  rw [Nat.le_div_iff_mul_le h1]
  have h2 := Nat.div_mul_le_self Uw V
  generalize Uw / V = q at *
  have h3 : W * (q * (top * B)) ≤ q * V := by
    calc W * (q * (top * B)) ≤ W * (q * (top * B + next)) := Nat.mul_le_mul_left _ (Nat.mul_le_mul_left _ (by omega))
      _ = q * (W * (top * B + next)) := by grind
      _ ≤ q * V := Nat.mul_le_mul_left _ h.V_ge
  have h4 := h.U_lt
  have h5 : q * (top * B) < x * B + u3 + 1 := Nat.lt_of_mul_lt_mul_left (a := W) (by omega)
  have h6 := h.hu3
  have h7 : q * top * B < (x + 1) * B := by rw [Nat.mul_assoc, Nat.add_mul]; omega
  have := Nat.lt_of_mul_lt_mul_right h7
  omega

theorem Gs.x_lt (h : Gs W low lowV Uw V x u3 top next B) : x < top * B + B := by
  have h1 := h.U_ge
  have h2 := h.lt
  have h3 := h.V_lt
  have hB : 0 < B := by have := h.htop; omega
  have h4 : W * (x * B + u3) < W * ((top * B + next + 1) * B) := by
    have : V * B ≤ W * (top * B + next + 1) * B := Nat.mul_le_mul_right _ (by omega)
    rw [Nat.mul_assoc] at this; omega
  have h5 := Nat.lt_of_mul_lt_mul_left h4
  have h6 : x * B < (top * B + next + 1) * B := by omega
  have := Nat.lt_of_mul_lt_mul_right h6
  have := h.hnext
  omega

theorem Gs.down (h : Gs W low lowV Uw V x u3 top next B) (hx : g * top + rest = x) (hq : Uw / V ≤ g) (hc : B ≤ g ∨ rest * B + u3 < g * next) : Uw / V ≤ g - 1 ∧ 0 < g := by
  have h1 := h.q_lt
  have hB : 0 < B := by have := h.htop; omega
  rcases hc with hc | hc
  · omega
  · have hne : Uw / V ≠ g := by
      intro he
      have h2 := Nat.div_mul_le_self Uw V
      rw [he] at h2
      have h3 : W * (g * (top * B + next)) ≤ g * V := by
        calc W * (g * (top * B + next)) = g * (W * (top * B + next)) := by grind
          _ ≤ g * V := Nat.mul_le_mul_left _ h.V_ge
      have h4 := h.U_lt
      have h5 : g * (top * B + next) < x * B + u3 + 1 := Nat.lt_of_mul_lt_mul_left (a := W) (by omega)
      rw [← hx, Nat.add_mul, Nat.mul_add, ← Nat.mul_assoc] at h5
      omega
    generalize Uw / V = q at *
    omega

theorem Gs.fine (h : Gs W low lowV Uw V x u3 top next B) (hx : g * top + rest = x) (hg : g < B) (hc : g * next ≤ rest * B + u3) : g ≤ Uw / V + 1 := by
  by_cases hgq : g ≤ Uw / V + 1
  · exact hgq
  · exfalso
    have hgq2 : Uw / V + 1 ≤ g - 1 := by generalize Uw / V = q at *; omega
    have h1 : Uw < (Uw / V + 1) * V := by
      have := Nat.div_add_mod Uw V
      have h2 := Nat.mod_lt Uw h.V0
      rw [Nat.add_mul, Nat.mul_comm (Uw / V)]; omega
    have h2 : (Uw / V + 1) * V ≤ (g - 1) * V := Nat.mul_le_mul_right _ hgq2
    have h3 : (g - 1) * V ≤ (g - 1) * (W * (top * B + next + 1)) := Nat.mul_le_mul_left _ (by have := h.V_lt; omega)
    have h4 := h.U_ge
    have h5 : W * (x * B + u3) < W * ((g - 1) * (top * B + next + 1)) := by
      have : (g - 1) * (W * (top * B + next + 1)) = W * ((g - 1) * (top * B + next + 1)) := by grind
      omega
    have h6 := Nat.lt_of_mul_lt_mul_left h5
    obtain ⟨g1, rfl⟩ : ∃ g1, g = g1 + 1 := ⟨g - 1, by generalize Uw / V = q at *; omega⟩
    rw [show g1 + 1 - 1 = g1 by omega] at h6
    have h7 : (g1 + 1) * (top * B + next) ≤ x * B + u3 := by
      rw [← hx, Nat.add_mul ((g1 + 1) * top), Nat.mul_add (g1 + 1), ← Nat.mul_assoc]; omega
    have h8 : top * B + next < g1 := by
      rw [Nat.add_mul, Nat.one_mul] at h7
      rw [Nat.mul_add, Nat.mul_one] at h6
      omega
    have h9 : B ≤ top * B := Nat.le_mul_of_pos_left _ (by have := h.hB; have := h.htop; omega)
    omega

theorem take_fine {X c P : Nat} (h : Gs W low lowV Uw V x u3 top next B) (h1 : Uw / V ≤ g) (h2 : g ≤ Uw / V + 1) (hs : X + g * V = Uw + c * P) (hX : X < P) (hP : V < P) :
    (c = 0 → g = Uw / V ∧ X = Uw % V) ∧ (c ≠ 0 → g = Uw / V + 1 ∧ ∀ X' c', X' + c' * P = X + V → X' < P → X' = Uw % V) := by
  have hd := Nat.div_add_mod Uw V
  have hm := Nat.mod_lt Uw h.V0
  generalize Uw / V = q at *
  generalize Uw % V = r at *
  refine ⟨fun hc => ?_, fun hc => ?_⟩
  · subst hc
    rw [Nat.zero_mul, Nat.add_zero] at hs
    by_cases hg : g = q
    · subst hg; refine ⟨rfl, ?_⟩; rw [Nat.mul_comm g V] at hs; omega
    · have : g = q + 1 := by omega
      subst this
      rw [Nat.add_mul, Nat.one_mul, Nat.mul_comm q V] at hs; omega
  · have hcP : P ≤ c * P := Nat.le_mul_of_pos_left _ (by omega)
    by_cases hg : g = q
    · subst hg; rw [Nat.mul_comm g V] at hs; omega
    · have hg : g = q + 1 := by omega
      subst hg
      refine ⟨rfl, fun X' c' h3 h4 => ?_⟩
      rw [Nat.add_mul, Nat.one_mul, Nat.mul_comm q V] at hs
      have hc1 : c = 1 := by
        by_cases hc2 : 2 ≤ c
        · have : 2 * P ≤ c * P := Nat.mul_le_mul_right _ hc2
          omega
        · omega
      subst hc1
      have hc'1 : c' = 1 := by
        by_cases h5 : c' = 0
        · subst h5; omega
        · by_cases h6 : 2 ≤ c'
          · have : 2 * P ≤ c' * P := Nat.mul_le_mul_right _ h6
            omega
          · omega
      subst hc'1
      omega

theorem div_step {BB i k n q r V U0 : Nat} {L X Q : List Nat} (hBB : BB = 4294967296) (hL : L.length = n) (hw : Won L X i (k + 1)) (hn : i + (k + 1) ≤ n) (hQ : i < Q.length) (hU : U0 = natL (Q.drop (i + 1)) * BB ^ (i + 1) * V + natL L) (hV : V < BB ^ k) (hlt : natL L < V * BB ^ (i + 1))
    (hq : win L i (k + 1) = V * q + r) (hr : r < V) (hX : win X i (k + 1) = r) :
    natL X < V * BB ^ i ∧ U0 = natL ((Q.set i q).drop i) * BB ^ i * V + natL X := by
  obtain ⟨j, rfl⟩ : ∃ j, n = i + (k + 1) + j := ⟨n - (i + (k + 1)), by omega⟩
  have e1 : natL L = win L 0 i + BB ^ i * (win L i (k + 1) + BB ^ (k + 1) * win L (i + (k + 1)) j) := by
    have h1 := natL_win (L := L) (Nat.le_refl _)
    rw [List.take_length, hL, Nat.add_assoc, win_split, win_split, Nat.zero_add] at h1
    rw [h1, hBB]
  have e2 : natL X = win X 0 i + BB ^ i * (win X i (k + 1) + BB ^ (k + 1) * win X (i + (k + 1)) j) := by
    have h1 := natL_win (L := X) (Nat.le_refl _)
    rw [List.take_length, hw.1, hL, Nat.add_assoc, win_split, win_split, Nat.zero_add] at h1
    rw [h1, hBB]
  have e3 : win X 0 i = win L 0 i := win_congr fun j hj => hw.2.2 _ (by omega)
  have e4 : win X (i + (k + 1)) j = win L (i + (k + 1)) j := win_congr fun j hj => hw.2.2 _ (by omega)
  have hP : 0 < BB ^ i := Nat.pow_pos (by omega)
  have e5 : win L (i + (k + 1)) j = 0 := by
    by_cases h0 : win L (i + (k + 1)) j = 0
    · exact h0
    · exfalso
      have h1 : BB ^ i * BB ^ (k + 1) ≤ natL L := by
        rw [e1]
        have : BB ^ i * BB ^ (k + 1) ≤ BB ^ i * (win L i (k + 1) + BB ^ (k + 1) * win L (i + (k + 1)) j) := Nat.mul_le_mul_left _ (by
          have := Nat.le_mul_of_pos_right (BB ^ (k + 1)) (by omega : 0 < win L (i + (k + 1)) j); omega)
        omega
      have h2 : V * BB ^ (i + 1) ≤ BB ^ k * BB ^ (i + 1) := Nat.mul_le_mul_right _ (by omega)
      have h3 : BB ^ k * BB ^ (i + 1) = BB ^ i * BB ^ (k + 1) := by rw [← Nat.pow_add, ← Nat.pow_add]; congr 1; omega
      omega
  rw [e5, Nat.mul_zero, Nat.add_zero] at e1
  rw [e3, e4, e5, Nat.mul_zero, Nat.add_zero, hX] at e2
  have hlow : win L 0 i < BB ^ i := by
    rw [← e3, hBB]; exact win_lt hw.2.1 0 i
  refine ⟨?_, ?_⟩
  · rw [e2]
    have : BB ^ i * (r + 1) ≤ BB ^ i * V := Nat.mul_le_mul_left _ hr
    rw [Nat.mul_add, Nat.mul_one] at this
    rw [Nat.mul_comm V]; omega
  · have h5 := natL_drop (l := Q.set i q) (n := i) (by simpa using hQ)
    rw [List.getD_eq_getElem?_getD, List.getElem?_set_self hQ, Option.getD_some, List.drop_set_of_lt (show i < i + 1 by omega), ← hBB] at h5
    rw [hU, e1, e2, hq, h5, Nat.pow_succ]
    grind

end Go.Proofs.YtjlohmnnldbjoaaGreat.AI
