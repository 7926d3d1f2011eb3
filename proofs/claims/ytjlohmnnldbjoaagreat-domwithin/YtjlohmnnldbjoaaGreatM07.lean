/- Part 8 of the proof: AiNum17, AiCall, AiRat1, AiMath3, AiRat2, AiRat3, AiExt1, AiFor, AiVec1, AiDom1. -/
import Derived.Test.YtjlohmnnldbjoaaGreatM06
set_option linter.unusedVariables false
set_option linter.unusedSimpArgs false
set_option linter.unusedSectionVars false

/- num.Gcd. -/
namespace Go.Proofs.YtjlohmnnldbjoaaGreat.AI
open Go
set_option maxHeartbeats 4000000

variable {fl : Nat} {H : Heap} {R : PostP} {v w : Value} {i j : Bool × List Nat}

/-- two new blocks, laid and filled. -/
theorem new2 {G : Heap} {z1 z2 r1 r2 : Blk} : Ext G (Array.setIfInBounds (Array.setIfInBounds (Array.push (Array.push G z1) z2) G.size r1) (G.size + 1) r2) ∧
    Heap.blk (Array.setIfInBounds (Array.setIfInBounds (Array.push (Array.push G z1) z2) G.size r1) (G.size + 1) r2) G.size = r1 ∧
    Heap.blk (Array.setIfInBounds (Array.setIfInBounds (Array.push (Array.push G z1) z2) G.size r1) (G.size + 1) r2) (G.size + 1) = r2 := by
  refine ⟨(((Ext.refl G).push.push).set (by omega)).set (by omega), ?_, ?_⟩
  · rw [blk_set_ne (by omega), blk_set_self (by simp)]
  · rw [blk_set_self (by simp)]
theorem canon_neg_nat (n : Nat) : (canonI (n : Int)) = (false, digits n) := by unfold canonI; simp
theorem val_canon' {z : Int} : valI (decide (z < 0), digits z.natAbs) = z := val_canon z

theorem num_Gcd_does (h : IntV H v i) (k : IntV H w j) (hf : fl ≤ H.size) (hn : i.2.length < 536870912) (hm : j.2.length < 536870912) :
    Does env fl f_133 [v, w] H (fun r H' => IntV H' r (canonI (Int.gcd (valI i) (valI j))) ∧ Ext H H') R := by
  have k0 := h
  have k1 := k
  obtain ⟨s, rfl, hs⟩ := h
  obtain ⟨u, rfl, hu⟩ := k
  refine does_ext e_133 hf (h := ?_)
  intro ρ h0
  simp [s_133, r_133_0, h0]
  generalize hG : Array.push (Array.push (Array.push H _) _) _ = G
  have hx : Ext H G := by rw [← hG]; exact (Ext.refl H).push.push.push
  have b0 : Heap.blk G H.size = .row false T_api_Int [.bool i.1, s] := by rw [← hG]; simp
  have b1 : Heap.blk G (H.size + 1) = .row false T_api_Int [.bool j.1, u] := by rw [← hG]; simp
  have b2 : Heap.blk G (H.size + 2) = .row false T_api_Int [.bool false, .slice none 0 0] := by rw [← hG]; simp
  have hz : H.size + 2 < G.size := blk_lt b2
  clear hG
  replace k0 := k0.mono hx
  replace k1 := k1.mono hx
  have l1 := len_digits_val k0.ok
  have l2 := len_digits_val k1.ok
  refine W_draw ?_
  simp [r_133_1, h0, b0, b1]
  refine (limbs_does k0 (by omega) (by omega)).mono ?_
  rintro x G2 ⟨k2, hx2⟩
  (try replace b0 := hx2.blk b0); (try replace b1 := hx2.blk b1); (try replace b2 := hx2.blk b2); (try replace b3 := hx2.blk b3); (try replace b4 := hx2.blk b4); (try replace b5 := hx2.blk b5); (try replace b6 := hx2.blk b6); (try replace hx := hx.trans hx2); (try replace k0 := k0.mono hx2); (try replace k1 := k1.mono hx2); (try replace k2 := k2.mono hx2); (try replace k3 := k3.mono hx2); (try replace k5 := k5.mono hx2); (try replace k6 := k6.mono hx2); (try replace k7 := k7.mono hx2); (try replace k8 := k8.mono hx2)
  try simp [h0]
  refine (made_does (((valI i).natAbs : Nat) : Int) k2 (by have := hx.1; omega) (by omega) (by simp [natL_digits])).mono ?_
  rintro x G2 ⟨k2, hx2⟩
  (try replace b0 := hx2.blk b0); (try replace b1 := hx2.blk b1); (try replace b2 := hx2.blk b2); (try replace b3 := hx2.blk b3); (try replace b4 := hx2.blk b4); (try replace b5 := hx2.blk b5); (try replace b6 := hx2.blk b6); (try replace hx := hx.trans hx2); (try replace k0 := k0.mono hx2); (try replace k1 := k1.mono hx2); (try replace k2 := k2.mono hx2); (try replace k3 := k3.mono hx2); (try replace k5 := k5.mono hx2); (try replace k6 := k6.mono hx2); (try replace k7 := k7.mono hx2); (try replace k8 := k8.mono hx2)
  try simp [h0, b1]
  refine (limbs_does k1 (by have := hx.1; omega) (by omega)).mono ?_
  rintro y G2 ⟨k3, hx2⟩
  (try replace b0 := hx2.blk b0); (try replace b1 := hx2.blk b1); (try replace b2 := hx2.blk b2); (try replace b3 := hx2.blk b3); (try replace b4 := hx2.blk b4); (try replace b5 := hx2.blk b5); (try replace b6 := hx2.blk b6); (try replace hx := hx.trans hx2); (try replace k0 := k0.mono hx2); (try replace k1 := k1.mono hx2); (try replace k2 := k2.mono hx2); (try replace k3 := k3.mono hx2); (try replace k5 := k5.mono hx2); (try replace k6 := k6.mono hx2); (try replace k7 := k7.mono hx2); (try replace k8 := k8.mono hx2)
  try simp [h0]
  refine (made_does (((valI j).natAbs : Nat) : Int) k3 (by have := hx.1; omega) (by omega) (by simp [natL_digits])).mono ?_
  rintro y G2 ⟨k3, hx2⟩
  (try replace b0 := hx2.blk b0); (try replace b1 := hx2.blk b1); (try replace b2 := hx2.blk b2); (try replace b3 := hx2.blk b3); (try replace b4 := hx2.blk b4); (try replace b5 := hx2.blk b5); (try replace b6 := hx2.blk b6); (try replace hx := hx.trans hx2); (try replace k0 := k0.mono hx2); (try replace k1 := k1.mono hx2); (try replace k2 := k2.mono hx2); (try replace k3 := k3.mono hx2); (try replace k5 := k5.mono hx2); (try replace k6 := k6.mono hx2); (try replace k7 := k7.mono hx2); (try replace k8 := k8.mono hx2)
  obtain ⟨s2, hxe, k2⟩ := k2
  obtain ⟨s3, hye, k3⟩ := k3
  have hsz := hx.1
  have hsz1 : H.size ≤ G2.size + 1 := by omega
  have hc0 := blk_lt b2
  simp [h0, hsz1, hxe, hye, k2.cells, k3.cells, k2.plain, k3.plain, hsz]
  rw [canon_neg_nat] at k2 k3
  obtain ⟨hx2, b3, b4⟩ := new2 (G := G2) (z1 := .row false T_api_Int [.bool false, .slice none 0 0]) (z2 := .row false T_api_Int [.bool false, .slice none 0 0]) (r1 := .row false T_api_Int [.bool false, s2]) (r2 := .row false T_api_Int [.bool false, s3])
  replace k2 := k2.mono hx2
  replace k3 := k3.mono hx2
  replace b2 := hx2.blk b2
  replace hx := hx.trans hx2
  simp only [canon_neg_nat]
  generalize Array.setIfInBounds _ _ _ = G3 at *
  generalize hP : G2.size = P at *
  refine W_loopM (fun c t G => ∃ (a b : Nat) (s5 s6 : Value), c = b ∧ t.length = 30 ∧ get t 4 = .pointer (some ⟨H.size + 2, 0, none⟩) ∧ get t 5 = .pointer (some ⟨P, 0, none⟩) ∧ get t 6 = .pointer (some ⟨P + 1, 0, none⟩) ∧
      Ext H G ∧ Heap.blk G (H.size + 2) = .row false T_api_Int [.bool false, .slice none 0 0] ∧ Heap.blk G P = .row false T_api_Int [.bool false, s5] ∧ Heap.blk G (P + 1) = .row false T_api_Int [.bool false, s6] ∧ Lim G s5 (digits a) ∧ Lim G s6 (digits b) ∧
      (digits a).length < 536870912 ∧ (digits b).length < 536870912 ∧ Nat.gcd a b = Int.gcd (valI i) (valI j))
    (fun t G => ∃ (a : Nat) (s5 : Value), t.length = 30 ∧ get t 4 = .pointer (some ⟨H.size + 2, 0, none⟩) ∧ get t 5 = .pointer (some ⟨P, 0, none⟩) ∧
      Ext H G ∧ Heap.blk G (H.size + 2) = .row false T_api_Int [.bool false, .slice none 0 0] ∧ Heap.blk G P = .row false T_api_Int [.bool false, s5] ∧ Lim G s5 (digits a) ∧ a = Int.gcd (valI i) (valI j)) (valI j).natAbs ?_ ?_ ?_
  · exact ⟨(valI i).natAbs, (valI j).natAbs, s2, s3, rfl, by simp, by simp, by simp, by simp, hx, b2, b3, b4, k2, k3, by omega, by omega, rfl⟩
  · clear h0 ρ k0 k1 k2 k3 b0 b1 b2 hx
    rintro c t G ⟨a, b, s5, s6, rfl, ht, g4, g5, g6, hx, b2, b3, b4, k5, k6, la, lb, hg⟩
    obtain ⟨ρ, rfl⟩ := toT ht
    simp only [get_T, Nat.reduceLT] at g4 g5 g6
    by_cases hb : c = 0
    · subst hb
      rw [digits_zero] at k6
      simp [r_133_2, g4, g5, g6, b2, b3, b4, k6.slen]
      rw [Nat.gcd_zero_right] at hg
      exact ⟨hx, by rw [← hg]; exact k5⟩
    · have hdl : 0 < (digits c).length := List.length_pos_iff.2 (by rw [Ne, digits_eq_nil]; exact hb)
      have hdl' : (0 : Int) < ((digits c).length : Int) := by omega
      have hnil : digits c ≠ [] := by rw [Ne, digits_eq_nil]; exact hb
      simp [r_133_2, r_133_3, g4, g5, g6, b2, b3, b4, k6.slen, hdl, hdl', hnil]
      have k0 : IntV G (.agg #[.bool false, s5]) (canonI (a : Int)) := ⟨s5, by rw [canon_neg_nat], by rw [canon_neg_nat]; exact k5⟩
      have k1 : IntV G (.agg #[.bool false, s6]) (canonI (c : Int)) := ⟨s6, by rw [canon_neg_nat], by rw [canon_neg_nat]; exact k6⟩
      refine (num_Div_does k0 k1 hx.1 (by rw [canon_neg_nat]; exact la) (by rw [canon_neg_nat]; exact lb) (by rw [val_canon]; omega)).mono ?_
      rintro _ G2 ⟨⟨q, m, rfl, k7, k8⟩, hx2⟩
      (try replace b0 := hx2.blk b0); (try replace b1 := hx2.blk b1); (try replace b2 := hx2.blk b2); (try replace b3 := hx2.blk b3); (try replace b4 := hx2.blk b4); (try replace b5 := hx2.blk b5); (try replace b6 := hx2.blk b6); (try replace hx := hx.trans hx2); (try replace k0 := k0.mono hx2); (try replace k1 := k1.mono hx2); (try replace k2 := k2.mono hx2); (try replace k3 := k3.mono hx2); (try replace k5 := k5.mono hx2); (try replace k6 := k6.mono hx2); (try replace k7 := k7.mono hx2); (try replace k8 := k8.mono hx2)
      rw [val_canon, val_canon] at k7 k8
      have hmod : ((a : Int).tmod (c : Int)) = ((a % c : Nat) : Int) := by rw [Int.tmod_eq_emod_of_nonneg (by omega)]; rfl
      rw [hmod, canon_neg_nat] at k8
      obtain ⟨s7, rfl, k7⟩ := k7
      obtain ⟨s8, rfl, k8⟩ := k8
      have hsz := hx.1
      have hsz1 : H.size ≤ G2.size + 1 := by omega
      have hc1 := blk_lt b4
      simp [g4, g5, g6, b3, b4, k7.cells, k8.cells, k7.plain, k8.plain, hsz, hsz1]
      obtain ⟨hx2, b5, b6⟩ := new2 (G := G2) (z1 := .row false T_api_Int [.bool false, .slice none 0 0]) (z2 := .row false T_api_Int [.bool false, .slice none 0 0]) (r1 := .row false T_api_Int [.bool (canonI (↑a / ↑c)).1, s7]) (r2 := .row false T_api_Int [.bool false, s8])
      (try replace b0 := hx2.blk b0); (try replace b1 := hx2.blk b1); (try replace b2 := hx2.blk b2); (try replace b3 := hx2.blk b3); (try replace b4 := hx2.blk b4); (try replace b5 := hx2.blk b5); (try replace b6 := hx2.blk b6); (try replace hx := hx.trans hx2); (try replace k0 := k0.mono hx2); (try replace k1 := k1.mono hx2); (try replace k2 := k2.mono hx2); (try replace k3 := k3.mono hx2); (try replace k5 := k5.mono hx2); (try replace k6 := k6.mono hx2); (try replace k7 := k7.mono hx2); (try replace k8 := k8.mono hx2)
      generalize Array.setIfInBounds (Array.setIfInBounds _ _ _) _ _ = G3 at *
      have hl1 := blk_lt b3
      have hl2 := blk_lt b4
      have hHP : H.size ≤ P := by omega
      have hHP1 : H.size ≤ P + 1 := by omega
      have hne : P + 1 ≠ P := by omega
      have hne2 : P ≠ G2.size + 1 := by omega
      have hne3 : G2.size + 1 ≠ P := by omega
      refine W_drawL ?_
      simp [r_133_4, g4, g5, g6, b4, b6, b3, k6.cells, k8.cells, k6.plain, k8.plain, hHP, hHP1, hne, hne2, hne3]
      have hmc : a % c < c := Nat.mod_lt _ (by omega)
      refine ⟨a % c, hmc, (hx.set hHP).set hHP1, by rw [blk_set_ne (by omega), blk_set_ne (by omega)]; exact b2, c, s6, by rw [blk_set_self hl1], s8, by rw [blk_set_self (by simpa using hl2)], ?_, ?_, lb, Nat.lt_of_le_of_lt (digits_mono (Nat.le_of_lt hmc)) lb, by rw [Nat.gcd_comm, ← Nat.gcd_rec, Nat.gcd_comm, hg]⟩
      · exact (k6.setT b3 (by decide)).setT (by rw [blk_set_ne (by omega)]; exact b4) (by decide)
      · exact (k8.setT b3 (by decide)).setT (by rw [blk_set_ne (by omega)]; exact b4) (by decide)
  · clear h0 ρ k0 k1 k2 k3 b0 b1 b2 hx
    rintro t G ⟨a, s5, ht, g4, g5, hx, b2, b3, k5, hg⟩
    obtain ⟨ρ, rfl⟩ := toT ht
    simp only [get_T, Nat.reduceLT] at g4 g5
    have hl1 := blk_lt b2
    have hl2 := blk_lt b3
    subst hg
    simp [r_133_5, g4, g5, b2, b3, k5.cells, k5.plain, hl1]
    exact fun _ => ⟨s5, rfl, k5.setT b2 (by decide)⟩
end Go.Proofs.YtjlohmnnldbjoaaGreat.AI

/- Calls, from here on: simp goes into no continuation. -/
namespace Go.Proofs.YtjlohmnnldbjoaaGreat.AI
open Go

/-- a call, and what is to be done behind it: simp goes into no continuation. -/
def DoesK (E : Env) (fl fl' : Nat) (f : FuncId) (args : List Value) (H : Heap) (d : Option Nat) (r : List SOper) (t : Tmps) (Z : Tmps → Heap → Prop) (R : PostP) : Prop :=
  Does E fl' f args H (fun v H' => WR E fl r (put t d v) H' Z R) R
@[simp ↓ high] theorem WS_callK {E : Env} {fl : Nat} {t : Tmps} {H : Heap} {R : PostP} {d : Option Nat} {r : List SOper} {Z : Tmps → Heap → Prop} {f : FuncId} {as : List Opd} {lone : Bool} :
    WS E fl t H (.call f as lone) (fun v H' => WR E fl r (put t d v) H' Z R) R = DoesK E fl (if lone then fl else max fl H.size) f (as.map (ev t)) H d r t Z R := nr rfl
def CallvK (E : Env) (fl fl' : Nat) (x : Value) (args : List Value) (H : Heap) (d : Option Nat) (r : List SOper) (t : Tmps) (Z : Tmps → Heap → Prop) (R : PostP) : Prop :=
  match x with
  | .func (.func f) p q => DoesK E fl fl' f (p.toList ++ args ++ q.toList) H d r t Z R
  | _ => False
@[simp ↓ high] theorem WS_callvK {E : Env} {fl : Nat} {t : Tmps} {H : Heap} {R : PostP} {d : Option Nat} {r : List SOper} {Z : Tmps → Heap → Prop} {x : Opd} {as : List Opd} {lone : Bool} :
    WS E fl t H (.callv x as lone) (fun v H' => WR E fl r (put t d v) H' Z R) R = CallvK E fl (if lone then fl else max fl H.size) (ev t x) (as.map (ev t)) H d r t Z R := by
  simp only [WS, opA, CallvK]; generalize ev t x = y
  cases y <;> try rfl
  rename_i g _ _; cases g <;> rfl
@[simp] theorem CallvK_fn {E : Env} {fl fl' : Nat} {t : Tmps} {H : Heap} {R : PostP} {d : Option Nat} {r : List SOper} {Z : Tmps → Heap → Prop} {f : FuncId} {p q : Array Value} {as : List Value} :
    CallvK E fl fl' (.func (.func f) p q) as H d r t Z R = DoesK E fl fl' f (p.toList ++ as ++ q.toList) H d r t Z R := nr rfl
theorem DoesK_congr {E : Env} {fl fl' fl2 : Nat} {t t' : Tmps} {H : Heap} {R : PostP} {d : Option Nat} {r : List SOper} {Z : Tmps → Heap → Prop} {f : FuncId} {as as' : List Value} (h : as = as') (ht : t = t') (hf : fl' = fl2) :
    DoesK E fl fl' f as H d r t Z R = DoesK E fl fl2 f as' H d r t' Z R := by rw [h, ht, hf]
attribute [congr] DoesK_congr
section
variable {E : Env} {fl : Nat} {t : Tmps} {H : Heap} {Z : Tmps → Heap → Log → Prop} {lg : Log} {d : Option Nat} {r : List SOper}
def DoesL (E : Env) (fl fl' : Nat) (f : FuncId) (args : List Value) (H : Heap) (d : Option Nat) (r : List SOper) (t : Tmps) (lg : Log) (Z : Tmps → Heap → Log → Prop) : Prop :=
  Does E fl' f args H (fun v H' => WRL E fl r (put t d v) H' lg Z) (fun _ => False)
@[simp ↓ high] theorem WS_callL {f : FuncId} {as : List Opd} {lone : Bool} :
    WS E fl t H (.call f as lone) (fun v H' => WRL E fl r (put t d v) H' lg Z) (fun _ => False) = DoesL E fl (if lone then fl else max fl H.size) f (as.map (ev t)) H d r t lg Z := nr rfl
end

/-! ### heaps with one store more -/
section
variable {H G G3 : Heap} {q p : Nat} {X r0 : Blk} {ro : Bool} {e : TypeId} {cs : List Value}
theorem set_keep (hS : Array.setIfInBounds G q X = G3) (hb : Heap.blk G p = r0) (h : q ≠ p) : Heap.blk G3 p = r0 := by rw [← hS, blk_set_ne h]; exact hb
theorem set_new (hS : Array.setIfInBounds G q X = G3) (hb : Heap.blk G q = .row ro e cs) : Heap.blk G3 q = X := by rw [← hS, blk_set_self (blk_lt hb)]
theorem set_ext (hS : Array.setIfInBounds G q X = G3) (hx : Ext H G) (h : H.size ≤ q) : Ext H G3 := by rw [← hS]; exact hx.set h
theorem Lim.setS {v : Value} {l : List Nat} (k : Lim G v l) (hS : Array.setIfInBounds G q X = G3) (hb : Heap.blk G q = .row ro e cs) (hne : e ≠ T_uint32) : Lim G3 v l := by rw [← hS]; exact k.setT hb hne
theorem IntV.setS {v : Value} {i : Bool × List Nat} (k : IntV G v i) (hS : Array.setIfInBounds G q X = G3) (hb : Heap.blk G q = .row ro e cs) (hne : e ≠ T_uint32) : IntV G3 v i := by rw [← hS]; exact k.setT hb hne
theorem new1 {z r : Blk} (hN : Array.setIfInBounds (Array.push G z) G.size r = G3) : Ext G G3 ∧ Heap.blk G3 G.size = r := by
  rw [← hN]; exact ⟨((Ext.refl G).push).set (by omega), by rw [blk_set_self (by simp)]⟩
theorem new0 {z : Blk} (hN : Array.push G z = G3) : Ext G G3 ∧ Heap.blk G3 G.size = z := by
  rw [← hN]; exact ⟨(Ext.refl G).push, blk_push_self⟩
end

/-- so many limbs has a whole number. -/
def lz (z : Int) : Nat := (digits z.natAbs).length
theorem lz_le {z : Int} {k : Nat} (h : z.natAbs < 4294967296 ^ k) : lz z ≤ k := digits_len h
theorem lt_lz (z : Int) : z.natAbs < 4294967296 ^ lz z := lt_digits _
theorem lz_mono {x y : Int} (h : x.natAbs ≤ y.natAbs) : lz x ≤ lz y := digits_mono h
theorem lz_mul (x y : Int) : lz (x * y) ≤ lz x + lz y := by
  refine lz_le ?_
  rw [Int.natAbs_mul, Nat.pow_add]
  exact Nat.mul_lt_mul'' (lt_lz x) (lt_lz y)
theorem lz_add (x y : Int) : lz (x + y) ≤ max (lz x) (lz y) + 1 := by
  refine lz_le ?_
  have h1 := lt_lz x
  have h2 := lt_lz y
  have h3 : (4294967296 : Nat) ^ lz x ≤ 4294967296 ^ max (lz x) (lz y) := Nat.pow_le_pow_right (by omega) (by omega)
  have h4 : (4294967296 : Nat) ^ lz y ≤ 4294967296 ^ max (lz x) (lz y) := Nat.pow_le_pow_right (by omega) (by omega)
  have := Int.natAbs_add_le x y
  rw [Nat.pow_succ]
  omega
theorem lz_neg (x : Int) : lz (-x) = lz x := by unfold lz; rw [Int.natAbs_neg]
theorem lz_one : lz 1 = 1 := by unfold lz; rw [digits_pos (by decide), show (1 : Int).natAbs / 4294967296 = 0 from rfl, digits_zero]; rfl
theorem lz_zero : lz 0 = 0 := by unfold lz; rw [show (0 : Int).natAbs = 0 from rfl, digits_zero]; rfl
theorem len_canonI (z : Int) : (canonI z).2.length = lz z := rfl
theorem lz_val {i : Bool × List Nat} (h : LimOk i.2) : lz (valI i) ≤ i.2.length := len_digits_val h


end Go.Proofs.YtjlohmnnldbjoaaGreat.AI

/- rat: zero, none, one, May, right. -/
namespace Go.Proofs.YtjlohmnnldbjoaaGreat.AI
open Go
set_option maxHeartbeats 4000000

variable {fl : Nat} {H : Heap} {R : PostP} {v w : Value} {i j : Bool × List Nat}

/-- a quotient as it lies. -/
abbrev RawR := (Bool × List Nat) × (Bool × List Nat)
def RatV (H : Heap) (v : Value) (a : RawR) : Prop := ∃ s u, v = .agg #[.bool a.1.1, s, .bool a.2.1, u] ∧ Lim H s a.1.2 ∧ Lim H u a.2.2
variable {a b : RawR}
theorem RatV.mono {G : Heap} (h : RatV H v a) (hx : Ext H G) : RatV G v a := by obtain ⟨s, u, h1, h2, h3⟩ := h; exact ⟨s, u, h1, h2.mono hx, h3.mono hx⟩
theorem RatV.setT (h : RatV H v a) {p : Nat} {ro : Bool} {e' : TypeId} {cs' : List Value} {r : Blk} (hb : H.blk p = .row ro e' cs') (hne : e' ≠ T_uint32) : RatV (H.setIfInBounds p r) v a := by
  obtain ⟨s, u, h1, h2, h3⟩ := h; exact ⟨s, u, h1, h2.setT hb hne, h3.setT hb hne⟩
theorem RatV.setS {G3 : Heap} {q : Nat} {X : Blk} {ro : Bool} {e : TypeId} {cs : List Value} (k : RatV H v a) (hS : Array.setIfInBounds H q X = G3) (hb : Heap.blk H q = .row ro e cs) (hne : e ≠ T_uint32) : RatV G3 v a := by rw [← hS]; exact k.setT hb hne
/-- so many limbs at most. -/
def lenR (a : RawR) : Nat := max a.1.2.length a.2.2.length

def zeroR (a : RawR) : Bool := !a.1.1 && a.1.2.length == 0 && !a.2.1 && a.2.2.length == 0
def mayR (a : RawR) : Bool := zeroR a || (mayB a.1 && mayB a.2 && !a.2.1 && valI a.2 != 0 && Int.gcd (valI a.1) (valI a.2) == 1)
/-- what a quotient says. -/
def valR (a : RawR) : Rat := if zeroR a then 0 else if mayR a then Rat.divInt (valI a.1) (valI a.2) else 0
/-- a quotient as it is told. -/
def canonR (x : Rat) : RawR := (canonI x.num, canonI x.den)

theorem zeroR_iff (a : RawR) : zeroR a = true ↔ a = ((false, []), (false, [])) := by
  obtain ⟨⟨b1, l1⟩, ⟨b2, l2⟩⟩ := a
  unfold zeroR; cases b1 <;> cases b2 <;> simp

theorem valR_parts (hz : zeroR a = false) (hm : mayR a = true) : canonR (valR a) = (canonI (valI a.1), canonI (valI a.2)) := by
  unfold valR
  rw [hz, hm]
  unfold mayR at hm
  rw [hz, Bool.false_or] at hm
  simp only [Bool.and_eq_true, Bool.not_eq_true', bne_iff_ne, ne_eq, beq_iff_eq] at hm
  obtain ⟨⟨⟨⟨h1, h2⟩, h3⟩, h4⟩, h5⟩ := hm
  have hq : 0 < valI a.2 := by
    unfold valI at h4 ⊢; rw [h2, h3] at h4 ⊢; simp at h4 ⊢; omega
  have hd : ((valI a.2).toNat : Int) = valI a.2 := Int.toNat_of_nonneg (by omega)
  have h6 : Rat.divInt (valI a.1) (valI a.2) = ⟨valI a.1, (valI a.2).toNat, by omega, by rw [Nat.Coprime, ← h5, Int.gcd]; congr 1; omega⟩ := by
    rw [Rat.mk_eq_divInt, hd]
  simp only [Bool.false_eq_true, if_false, if_true]
  rw [h6]; unfold canonR; simp only [hd]

theorem canonR_zero : canonR 0 = ((false, []), canonI 1) := by
  show (canonI 0, canonI 1) = _; rw [canon_zero]

theorem zeroR_canon (x : Rat) : zeroR (canonR x) = false := by
  have := x.den_nz
  unfold zeroR canonR
  have h : digits (x.den : Int).natAbs ≠ [] := by rw [Ne, digits_eq_nil]; omega
  have h2 : (digits x.den).length ≠ 0 := by intro h3; exact h (List.length_eq_zero_iff.1 h3)
  simp [canonI]; intro _ _; simpa using h2
theorem mayR_canon (x : Rat) : mayR (canonR x) = true := by
  have h1 := x.den_nz
  have h2 := x.reduced
  unfold mayR
  rw [zeroR_canon, Bool.false_or]
  unfold canonR
  simp only [may_canon, val_canon, Bool.and_eq_true, Bool.not_eq_true', bne_iff_ne, beq_iff_eq]
  refine ⟨⟨⟨⟨trivial, trivial⟩, by simp [canonI]⟩, by omega⟩, ?_⟩
  rw [Int.gcd, Int.natAbs_natCast]; exact h2
theorem valR_canon (x : Rat) : valR (canonR x) = x := by
  unfold valR
  rw [zeroR_canon, mayR_canon]
  simp only [Bool.false_eq_true, if_false, if_true]
  unfold canonR
  rw [val_canon, val_canon, Rat.num_divInt_den]

theorem rat_zero_does (h : RatV H v a) (hf : fl ≤ H.size) : Does env fl f_116 [v] H (fun r H' => r = .bool (zeroR a) ∧ Ext H H') R := by
  obtain ⟨s, u, rfl, hs, hu⟩ := h
  refine does_ext e_116 hf (h := ?_)
  intro ρ h0
  simp [s_116, r_116_0, h0]
  have hsl := hs.slen
  have hul := hu.slen
  cases h1 : a.1.1
  · by_cases h2 : a.1.2 = []
    · cases h3 : a.2.1
      · simp [r_116_1, h0, h1, h2, h3, hsl, hul, zeroR]
      · simp [r_116_1, h0, h1, h2, h3, hsl, hul, zeroR]
    · simp [r_116_1, h0, h1, h2, hsl, hul, zeroR]
  · simp [r_116_1, h0, h1, hsl, hul, zeroR]

theorem rat_none_does (h : IntV H v i) (hf : fl ≤ H.size) (hn : i.2.length < 536870912) : Does env fl f_132 [v] H (fun r H' => r = .bool (valI i == 0) ∧ Ext H H') R := by
  have k0 := h
  obtain ⟨s, rfl, hs⟩ := h
  refine does_ext e_132 hf (h := ?_)
  intro ρ h0
  simp [s_132, r_132_0, r_132_1, h0]
  refine (num_Cmp_does (k0.mono (by simp)) (j := (false, [])) ⟨_, rfl, Lim.nil⟩ (by simp) hn (by simp)).mono ?_
  rintro _ G2 ⟨rfl, hx2⟩
  have : valI (false, []) = 0 := by unfold valI mayB; simp [natL]
  rw [this]
  simp [cmpZ]
  intro _
  by_cases h1 : valI i < 0
  · simp [h1]; omega
  · by_cases h2 : 0 < valI i
    · simp [h1, h2]; omega
    · simp [h1, h2]; omega

theorem rat_one_does (hf : fl ≤ H.size) : Does env fl f_117 [] H (fun r H' => IntV H' r (canonI 1) ∧ Ext H H') R := by
  refine does_ext e_117 hf (h := ?_)
  intro ρ h0
  simp [s_117, r_117_0, r_117_1, h0]
  refine (num_Of_does (by simp) (by omega) (by omega)).mono ?_
  rintro _ G2 ⟨⟨s, rfl, hs⟩, hx2⟩
  have b0 := hx2.blk blk_push_self
  have hz := blk_lt b0
  simp [b0, hs.cells, hs.plain, hz]
  exact fun _ => ⟨s, rfl, hs.setT b0 (by decide)⟩

theorem rat_May_does (h : RatV H v a) (hf : fl ≤ H.size) (hn : lenR a < 536870912) : Does env fl f_97 [v] H (fun r H' => r = .bool (mayR a) ∧ Ext H H') R := by
  have k0 := h
  have hn1 : a.1.2.length < 536870912 := by unfold lenR at hn; omega
  have hn2 : a.2.2.length < 536870912 := by unfold lenR at hn; omega
  obtain ⟨s, u, rfl, hs, hu⟩ := h
  have k1 : IntV H (.agg #[.bool a.1.1, s]) a.1 := ⟨s, rfl, hs⟩
  have k2 : IntV H (.agg #[.bool a.2.1, u]) a.2 := ⟨u, rfl, hu⟩
  refine does_ext e_97 hf (h := ?_)
  intro ρ h0
  simp [s_97, r_97_0, h0]
  generalize hG : Array.push H _ = G
  have hx2 : Ext H G := by rw [← hG]; simp
  have b0 : Heap.blk G H.size = .row false T_api_Rat [.bool a.1.1, s, .bool a.2.1, u] := by rw [← hG]; simp
  have hx := Ext.refl H
  clear hG
  (try replace b0 := hx2.blk b0); (try replace hx := hx.trans hx2); (try replace k0 := k0.mono hx2); (try replace k1 := k1.mono hx2); (try replace k2 := k2.mono hx2); (try replace k3 := k3.mono hx2); (try replace k4 := k4.mono hx2)
  simp [r_97_1, h0, b0]
  refine (rat_zero_does k0 hx.1).mono ?_
  rintro _ G2 ⟨rfl, hx2⟩
  (try replace b0 := hx2.blk b0); (try replace hx := hx.trans hx2); (try replace k0 := k0.mono hx2); (try replace k1 := k1.mono hx2); (try replace k2 := k2.mono hx2); (try replace k3 := k3.mono hx2); (try replace k4 := k4.mono hx2)
  unfold mayR
  cases hz : zeroR a
  case true => simp [r_97_2]
  simp [r_97_3, h0, b0]
  refine (num_May_does k1 hx.1 (by omega)).mono ?_
  rintro _ G2 ⟨rfl, hx2⟩
  (try replace b0 := hx2.blk b0); (try replace hx := hx.trans hx2); (try replace k0 := k0.mono hx2); (try replace k1 := k1.mono hx2); (try replace k2 := k2.mono hx2); (try replace k3 := k3.mono hx2); (try replace k4 := k4.mono hx2)
  cases h1 : mayB a.1
  case false => simp
  simp [h0, b0]
  refine (num_May_does k2 hx.1 (by omega)).mono ?_
  rintro _ G2 ⟨rfl, hx2⟩
  (try replace b0 := hx2.blk b0); (try replace hx := hx.trans hx2); (try replace k0 := k0.mono hx2); (try replace k1 := k1.mono hx2); (try replace k2 := k2.mono hx2); (try replace k3 := k3.mono hx2); (try replace k4 := k4.mono hx2)
  cases h2 : mayB a.2
  case false => simp
  cases h3 : a.2.1
  case true => simp [h0, b0, h3]
  simp [h0, b0, h3]
  rw [← h3]
  refine (rat_none_does k2 hx.1 hn2).mono ?_
  rintro _ G2 ⟨rfl, hx2⟩
  (try replace b0 := hx2.blk b0); (try replace hx := hx.trans hx2); (try replace k0 := k0.mono hx2); (try replace k1 := k1.mono hx2); (try replace k2 := k2.mono hx2); (try replace k3 := k3.mono hx2); (try replace k4 := k4.mono hx2)
  by_cases h4 : valI a.2 = 0
  · simp [h4]
    exact fun _ => h3
  have h4' : (valI a.2 == 0) = false := by simp [h4]
  simp [h0, b0, h4, h4', h3]
  rw [← h3]
  refine (num_Gcd_does k1 k2 hx.1 hn1 hn2).mono ?_
  rintro x G2 ⟨k3, hx2⟩
  (try replace b0 := hx2.blk b0); (try replace hx := hx.trans hx2); (try replace k0 := k0.mono hx2); (try replace k1 := k1.mono hx2); (try replace k2 := k2.mono hx2); (try replace k3 := k3.mono hx2); (try replace k4 := k4.mono hx2)
  try simp [h0]
  refine (rat_one_does hx.1).mono ?_
  rintro y G2 ⟨k4, hx2⟩
  (try replace b0 := hx2.blk b0); (try replace hx := hx.trans hx2); (try replace k0 := k0.mono hx2); (try replace k1 := k1.mono hx2); (try replace k2 := k2.mono hx2); (try replace k3 := k3.mono hx2); (try replace k4 := k4.mono hx2)
  try simp [h0]
  have hgl : (canonI ((Int.gcd (valI a.1) (valI a.2) : Nat) : Int)).2.length < 536870912 := by
    rw [canon_neg_nat]
    show (digits _).length < _
    have h5 : Int.gcd (valI a.1) (valI a.2) ≤ (valI a.2).natAbs := Int.gcd_le_natAbs_right _ h4
    have := digits_mono h5
    have := len_digits_val k2.ok
    omega
  refine (num_Cmp_does k3 k4 hx.1 hgl (by rw [len_canonI, lz_one]; decide)).mono ?_
  rintro _ G2 ⟨rfl, hx2⟩
  rw [val_canon, val_canon]
  simp
  intro _
  generalize Int.gcd (valI a.1) (valI a.2) = g
  have h6 : (cmpZ (g : Int) 1 == 0) = (g == 1) := by
    unfold cmpZ
    by_cases hg : g = 1
    · subst hg; rfl
    · have e : (g == 1) = false := by simp [hg]
      rw [e]; split
      · rfl
      · rename_i h7; split
        · rfl
        · omega
  simp [h3, h4, h6]

theorem rat_right_does (h : RatV H v a) (hf : fl ≤ H.size) (hn : lenR a < 536870912) : Does env fl f_85 [v] H (fun r H' => RatV H' r (canonR (valR a)) ∧ Ext H H') R := by
  have k0 := h
  have hn1 : a.1.2.length < 536870912 := by unfold lenR at hn; omega
  have hn2 : a.2.2.length < 536870912 := by unfold lenR at hn; omega
  obtain ⟨s, u, rfl, hs, hu⟩ := h
  have k1 : IntV H (.agg #[.bool a.1.1, s]) a.1 := ⟨s, rfl, hs⟩
  have k2 : IntV H (.agg #[.bool a.2.1, u]) a.2 := ⟨u, rfl, hu⟩
  refine does_ext e_85 hf (h := ?_)
  intro ρ h0
  simp [s_85, r_85_0, h0]
  generalize hG : Array.push (Array.push H _) _ = G
  have hx2 : Ext H G := by rw [← hG]; simp
  have b0 : Heap.blk G H.size = .row false T_api_Rat [.bool a.1.1, s, .bool a.2.1, u] := by rw [← hG]; simp
  have b1 : Heap.blk G (H.size + 1) = .row false T_api_Rat [.bool false, .slice none 0 0, .bool false, .slice none 0 0] := by rw [← hG]; simp
  have hx := Ext.refl H
  clear hG
  (try replace b0 := hx2.blk b0); (try replace b1 := hx2.blk b1); (try replace hx := hx.trans hx2); (try replace k0 := k0.mono hx2); (try replace k1 := k1.mono hx2); (try replace k2 := k2.mono hx2); (try replace k3 := k3.mono hx2); (try replace k4 := k4.mono hx2)
  simp [r_85_1, h0, b0]
  refine (rat_zero_does k0 hx.1).mono ?_
  rintro _ G2 ⟨rfl, hx2⟩
  (try replace b0 := hx2.blk b0); (try replace b1 := hx2.blk b1); (try replace hx := hx.trans hx2); (try replace k0 := k0.mono hx2); (try replace k1 := k1.mono hx2); (try replace k2 := k2.mono hx2); (try replace k3 := k3.mono hx2); (try replace k4 := k4.mono hx2)
  cases hz0 : zeroR a
  case true =>
    have hval : valR a = 0 := by unfold valR; rw [hz0]; rfl
    simp [r_85_2, h0]
    refine (rat_one_does hx.1).mono ?_
    rintro _ G2 ⟨⟨s1, rfl, hs1⟩, hx2⟩
    (try replace b0 := hx2.blk b0); (try replace b1 := hx2.blk b1); (try replace hx := hx.trans hx2); (try replace k0 := k0.mono hx2); (try replace k1 := k1.mono hx2); (try replace k2 := k2.mono hx2); (try replace k3 := k3.mono hx2); (try replace k4 := k4.mono hx2)
    have hz := blk_lt b1
    simp [h0, b1, hs1.cells, hs1.plain, hz]
    refine fun _ => ?_
    rw [hval, canonR_zero]
    exact ⟨_, s1, rfl, Lim.nil, hs1.setT b1 (by decide)⟩
  simp [h0, b0]
  refine (rat_May_does k0 hx.1 hn).mono ?_
  rintro _ G2 ⟨rfl, hx2⟩
  (try replace b0 := hx2.blk b0); (try replace b1 := hx2.blk b1); (try replace hx := hx.trans hx2); (try replace k0 := k0.mono hx2); (try replace k1 := k1.mono hx2); (try replace k2 := k2.mono hx2); (try replace k3 := k3.mono hx2); (try replace k4 := k4.mono hx2)
  cases hm : mayR a
  case false =>
    have hval : valR a = 0 := by unfold valR; rw [hz0, hm]; rfl
    simp [r_85_2, h0]
    refine (rat_one_does hx.1).mono ?_
    rintro _ G2 ⟨⟨s1, rfl, hs1⟩, hx2⟩
    (try replace b0 := hx2.blk b0); (try replace b1 := hx2.blk b1); (try replace hx := hx.trans hx2); (try replace k0 := k0.mono hx2); (try replace k1 := k1.mono hx2); (try replace k2 := k2.mono hx2); (try replace k3 := k3.mono hx2); (try replace k4 := k4.mono hx2)
    have hz := blk_lt b1
    simp [h0, b1, hs1.cells, hs1.plain, hz]
    refine fun _ => ?_
    rw [hval, canonR_zero]
    exact ⟨_, s1, rfl, Lim.nil, hs1.setT b1 (by decide)⟩
  rw [valR_parts hz0 hm]
  simp [h0]
  refine W_draw ?_
  simp [r_85_3, h0, b0]
  have hv0 : valI (false, []) = 0 := by unfold valI mayB; simp [natL]
  refine (num_Add_does k1 (j := (false, [])) ⟨_, rfl, Lim.nil⟩ (by have := hx.1; omega) hn1 (by simp)).mono ?_
  rintro _ G2 ⟨⟨s1, rfl, k3⟩, hx2⟩
  (try replace b0 := hx2.blk b0); (try replace b1 := hx2.blk b1); (try replace hx := hx.trans hx2); (try replace k0 := k0.mono hx2); (try replace k1 := k1.mono hx2); (try replace k2 := k2.mono hx2); (try replace k3 := k3.mono hx2); (try replace k4 := k4.mono hx2)
  rw [hv0, Int.add_zero] at k3 ⊢
  try simp [h0, b0]
  refine (num_Add_does k2 (j := (false, [])) ⟨_, rfl, Lim.nil⟩ hx.1 hn2 (by simp)).mono ?_
  rintro _ G2 ⟨⟨s2, rfl, k4⟩, hx2⟩
  (try replace b0 := hx2.blk b0); (try replace b1 := hx2.blk b1); (try replace hx := hx.trans hx2); (try replace k0 := k0.mono hx2); (try replace k1 := k1.mono hx2); (try replace k2 := k2.mono hx2); (try replace k3 := k3.mono hx2); (try replace k4 := k4.mono hx2)
  rw [hv0, Int.add_zero] at k4 ⊢
  have hz := blk_lt b1
  simp [h0, b1, k3.cells, k3.plain, k4.cells, k4.plain, hz]
  exact fun _ => ⟨s1, s2, rfl, k3.setT b1 (by decide), k4.setT b1 (by decide)⟩
end Go.Proofs.YtjlohmnnldbjoaaGreat.AI

/- Quotients: plain laws. -/
namespace Go.Proofs.YtjlohmnnldbjoaaGreat.AI
open Go

/-- so many limbs at most has a quotient. -/
def szR (x : Rat) : Nat := max (lz x.num) (lz x.den)
theorem lenR_canon (x : Rat) : lenR (canonR x) = szR x := rfl
theorem szR_pos (x : Rat) : 1 ≤ szR x := by
  unfold szR
  have : lz x.den ≠ 0 := by
    unfold lz
    intro h
    have := digits_eq_nil.1 (List.length_eq_zero_iff.1 h)
    have := x.den_nz
    omega
  omega
theorem szR_zero : szR 0 = 1 := by show max (lz 0) (lz 1) = 1; rw [lz_zero, lz_one]; rfl
theorem szR_one : szR 1 = 1 := by show max (lz 1) (lz 1) = 1; rw [lz_one]; rfl
theorem szR_int (z : Int) : szR (z : Rat) = max (lz z) 1 := by
  unfold szR; rw [Rat.num_intCast, Rat.den_intCast]; show max (lz z) (lz 1) = _; rw [lz_one]

theorem szR_divInt (p q : Int) : szR (Rat.divInt p q) ≤ max (max (lz p) (lz q)) 1 := by
  unfold szR
  rw [Rat.num_divInt, Rat.den_divInt]
  have h1 : lz (q.sign * p / ↑(q.gcd p)) ≤ lz p := by
    refine lz_mono ?_
    rw [Int.natAbs_ediv_of_dvd]
    · refine Nat.le_trans (Nat.div_le_self _ _) ?_
      rw [Int.natAbs_mul]
      have : q.sign.natAbs ≤ 1 := by rcases Int.lt_trichotomy q 0 with h | h | h
                                     · rw [Int.sign_eq_neg_one_of_neg h]; decide
                                     · rw [h]; decide
                                     · rw [Int.sign_eq_one_of_pos h]; decide
      calc _ ≤ 1 * p.natAbs := Nat.mul_le_mul_right _ this
        _ = _ := Nat.one_mul _
    · exact Int.dvd_mul_of_dvd_right (Int.gcd_dvd_right ..)
  have h2 : lz ((if q = 0 then 1 else q.natAbs / q.gcd p : Nat) : Int) ≤ max (lz q) 1 := by
    split
    · show lz 1 ≤ _; rw [lz_one]; omega
    · have : lz ((q.natAbs / q.gcd p : Nat) : Int) ≤ lz q := lz_mono (by rw [Int.natAbs_natCast]; exact Nat.div_le_self _ _)
      omega
  omega

theorem mkRat_divInt (n : Int) (d : Nat) : mkRat n d = Rat.divInt n d := rfl
theorem add_divInt (x y : Rat) : x + y = Rat.divInt (x.num * y.den + y.num * x.den) (x.den * y.den) := by rw [Rat.add_def', mkRat_divInt, Int.natCast_mul]
theorem mul_divInt (x y : Rat) : x * y = Rat.divInt (x.num * y.num) (x.den * y.den) := by rw [Rat.mul_def', mkRat_divInt, Int.natCast_mul]
theorem div_divInt (x y : Rat) : x / y = Rat.divInt (x.num * y.den) (x.den * y.num) := by
  rw [Rat.div_def, Rat.inv_def]
  conv => lhs; lhs; rw [← Rat.num_divInt_den x]
  rw [Rat.divInt_mul_divInt]

theorem szR_add (x y : Rat) : szR (x + y) ≤ szR x + szR y + 1 := by
  rw [add_divInt]
  refine Nat.le_trans (szR_divInt _ _) ?_
  have h1 := lz_add (x.num * y.den) (y.num * x.den)
  have h2 := lz_mul x.num y.den
  have h3 := lz_mul y.num x.den
  have h4 := lz_mul (x.den : Int) y.den
  unfold szR; omega
theorem szR_mul (x y : Rat) : szR (x * y) ≤ szR x + szR y := by
  rw [mul_divInt]
  refine Nat.le_trans (szR_divInt _ _) ?_
  have h2 := lz_mul x.num y.num
  have h4 := lz_mul (x.den : Int) y.den
  have := szR_pos x
  unfold szR at *; omega
theorem szR_neg (x : Rat) : szR (-x) = szR x := by unfold szR; rw [Rat.neg_num, Rat.neg_den, lz_neg]
theorem szR_div (x y : Rat) : szR (x / y) ≤ szR x + szR y := by
  rw [div_divInt]
  refine Nat.le_trans (szR_divInt _ _) ?_
  have h2 := lz_mul x.num y.den
  have h4 := lz_mul (x.den : Int) y.num
  have := szR_pos x
  unfold szR at *; omega
theorem szR_val {a : RawR} (h1 : LimOk a.1.2) (h2 : LimOk a.2.2) : szR (valR a) ≤ max (lenR a) 1 := by
  by_cases hz : zeroR a = true
  · have : valR a = 0 := by unfold valR; rw [hz]; rfl
    rw [this, szR_zero]; omega
  · by_cases hm : mayR a = true
    · have h3 := valR_parts (by simpa using hz) hm
      have h4 := lenR_canon (valR a)
      rw [h3] at h4
      rw [← h4]
      have := lz_val h1
      have := lz_val h2
      unfold lenR; simp only [len_canonI]; omega
    · have : valR a = 0 := by unfold valR; simp [hz, hm]
      rw [this, szR_zero]; omega

/-- a quotient in its least form. -/
theorem quo_canon {p q g : Int} (hq : q ≠ 0) (hg : g = if q < 0 then -(Int.gcd p q : Int) else (Int.gcd p q : Int)) : canonR (Rat.divInt p q) = (canonI (p.tdiv g), canonI (q.tdiv g)) ∧ g ≠ 0 := by
  have hgp : 0 < Int.gcd p q := Int.gcd_pos_of_ne_zero_right _ hq
  have hg0 : g ≠ 0 := by rw [hg]; split <;> omega
  refine ⟨?_, hg0⟩
  have hdp : g ∣ p := by rw [hg]; split
                         · exact Int.neg_dvd.2 (Int.gcd_dvd_left ..)
                         · exact Int.gcd_dvd_left ..
  have hdq : g ∣ q := by rw [hg]; split
                         · exact Int.neg_dvd.2 (Int.gcd_dvd_right ..)
                         · exact Int.gcd_dvd_right ..
  have hna : g.natAbs = Int.gcd p q := by rw [hg]; split <;> simp
  have e1 := Int.tdiv_mul_cancel hdp
  have e2 := Int.tdiv_mul_cancel hdq
  have hcop : Int.gcd (p.tdiv g) (q.tdiv g) = 1 := by
    have h1 : Int.gcd (p.tdiv g * g) (q.tdiv g * g) = Int.gcd (p.tdiv g) (q.tdiv g) * g.natAbs := Int.gcd_mul_right ..
    rw [e1, e2, hna] at h1
    have h2 : 1 * Int.gcd p q = Int.gcd (p.tdiv g) (q.tdiv g) * Int.gcd p q := by rw [Nat.one_mul]; exact h1
    exact (Nat.eq_of_mul_eq_mul_right hgp h2).symm
  have hpos : 0 < q.tdiv g := by
    by_cases hq0 : q < 0
    · have : g < 0 := by rw [hg, if_pos hq0]; omega
      by_cases h : 0 < q.tdiv g
      · exact h
      · have := Int.mul_nonneg_of_nonpos_of_nonpos (a := q.tdiv g) (b := g) (by omega) (by omega); omega
    · have : 0 < g := by rw [hg, if_neg hq0]; omega
      by_cases h : 0 < q.tdiv g
      · exact h
      · have := Int.mul_nonpos_of_nonpos_of_nonneg (a := q.tdiv g) (b := g) (by omega) (by omega); omega
  have h3 : Rat.divInt p q = Rat.divInt (p.tdiv g) (q.tdiv g) := by
    have h := Rat.divInt_mul_right (n := p.tdiv g) (d := q.tdiv g) hg0
    rw [e1, e2] at h; exact h
  generalize p.tdiv g = x at *
  generalize q.tdiv g = y at *
  have hd : ((y.toNat : Nat) : Int) = y := Int.toNat_of_nonneg (by omega)
  have h6 : Rat.divInt x y = ⟨x, y.toNat, by omega, by rw [Nat.Coprime, ← hcop, Int.gcd]; congr 1; omega⟩ := by
    rw [Rat.mk_eq_divInt, hd]
  rw [h3, h6]; unfold canonR; simp only [hd]

/-- the order of two quotients. -/
def cmpR (x y : Rat) : Int := if x < y then -1 else if y < x then 1 else 0
theorem cmp_num (x y : Rat) : cmpZ (x.num * y.den) (y.num * x.den) = cmpR x y := by
  unfold cmpZ cmpR
  simp only [Rat.lt_iff, gt_iff_lt]
theorem cmpR_lt {x y : Rat} : cmpR x y < 0 ↔ x < y := by
  unfold cmpR; split
  · simp_all
  · split <;> simp_all
theorem cmpR_gt {x y : Rat} : 0 < cmpR x y ↔ y < x := by
  unfold cmpR; split
  · rename_i h; simp; exact Rat.not_lt.2 (Rat.le_of_lt h)
  · split <;> simp_all
theorem cmpR_eq {x y : Rat} : cmpR x y = 0 ↔ x = y := by
  unfold cmpR; split
  · rename_i h; simp; intro h2; subst h2; exact absurd h Rat.lt_irrefl
  · rename_i h1; split
    · rename_i h; simp; intro h2; subst h2; exact absurd h Rat.lt_irrefl
    · rename_i h2; simp; exact Rat.le_antisymm (Rat.not_lt.1 h2) (Rat.not_lt.1 h1)

end Go.Proofs.YtjlohmnnldbjoaaGreat.AI

/- rat: Quo, least, fold, Add, Mul, Cmp, Of. -/
namespace Go.Proofs.YtjlohmnnldbjoaaGreat.AI
open Go
set_option maxHeartbeats 4000000

variable {fl : Nat} {H : Heap} {R : PostP} {v w : Value} {i j : Bool × List Nat} {a b : RawR}

theorem IntV.cells {i : Bool × List Nat} (h : IntV H v i) : (cellsL v).length = 2 ∧ (cellsL v).all plainCell = true := by
  obtain ⟨s, rfl, hs⟩ := h; simp [hs.plain]

theorem rat_Quo_does (h : IntV H v i) (k : IntV H w j) (hf : fl ≤ H.size) (hn : i.2.length < 536870912) (hm : j.2.length < 536870912) (hj0 : valI j ≠ 0) :
    Does env fl f_118 [v, w] H (fun r H' => (∃ q, r = .tuple #[q, .int .i64 0] ∧ RatV H' q (canonR (Rat.divInt (valI i) (valI j)))) ∧ Ext H H') R := by
  have k0 := h
  have k1 := k
  obtain ⟨s, rfl, hs⟩ := h
  obtain ⟨u, rfl, hu⟩ := k
  refine does_ext e_118 hf (h := ?_)
  intro ρ h0
  simp [s_118, r_118_0, h0]
  generalize hG : Array.push (Array.push (Array.push H _) _) _ = G
  have hx : Ext H G := by rw [← hG]; exact (Ext.refl H).push.push.push
  have b0 : Heap.blk G H.size = .row false T_api_Int [.bool i.1, s] := by rw [← hG]; simp
  have b1 : Heap.blk G (H.size + 1) = .row false T_api_Int [.bool j.1, u] := by rw [← hG]; simp
  have b2 : Heap.blk G (H.size + 2) = .row false T_api_Rat [.bool false, .slice none 0 0, .bool false, .slice none 0 0] := by rw [← hG]; simp
  clear hG
  replace k0 := k0.mono hx
  replace k1 := k1.mono hx
  have l1 := len_digits_val k0.ok
  have l2 := len_digits_val k1.ok
  simp [r_118_1, h0, b1]
  refine (rat_none_does k1 hx.1 hm).mono ?_
  rintro _ G2 ⟨rfl, hx2⟩
  (try replace b0 := hx2.blk b0); (try replace b1 := hx2.blk b1); (try replace b2 := hx2.blk b2); (try replace b3 := hx2.blk b3); (try replace hx := hx.trans hx2); (try replace k0 := k0.mono hx2); (try replace k1 := k1.mono hx2); (try replace k2 := k2.mono hx2); (try replace k3 := k3.mono hx2); (try replace k4 := k4.mono hx2); (try replace k5 := k5.mono hx2); (try replace k6 := k6.mono hx2)
  have hj0' : (valI j == 0) = false := by simp [hj0]
  simp [hj0', hj0, r_118_3, h0, b0, b1]
  refine (num_Gcd_does k0 k1 hx.1 hn hm).mono ?_
  rintro x G2 ⟨⟨s1, rfl, k2⟩, hx2⟩
  (try replace b0 := hx2.blk b0); (try replace b1 := hx2.blk b1); (try replace b2 := hx2.blk b2); (try replace b3 := hx2.blk b3); (try replace hx := hx.trans hx2); (try replace k0 := k0.mono hx2); (try replace k1 := k1.mono hx2); (try replace k2 := k2.mono hx2); (try replace k3 := k3.mono hx2); (try replace k4 := k4.mono hx2); (try replace k5 := k5.mono hx2); (try replace k6 := k6.mono hx2)
  have hsz := hx.1
  simp [h0, k2.cells, k2.plain, hsz]
  generalize hN : Array.setIfInBounds (Array.push _ _) _ _ = G3
  obtain ⟨hx2, b3⟩ := new1 hN
  have hb2l := blk_lt b2
  (try replace b0 := hx2.blk b0); (try replace b1 := hx2.blk b1); (try replace b2 := hx2.blk b2); (try replace b3 := hx2.blk b3); (try replace hx := hx.trans hx2); (try replace k0 := k0.mono hx2); (try replace k1 := k1.mono hx2); (try replace k2 := k2.mono hx2); (try replace k3 := k3.mono hx2); (try replace k4 := k4.mono hx2); (try replace k5 := k5.mono hx2); (try replace k6 := k6.mono hx2)
  clear hN
  obtain ⟨P, hP⟩ : ∃ P, P = G2.size := ⟨_, rfl⟩
  rw [← hP] at b3 hsz hb2l ⊢
  have hgl : lz (Int.gcd (valI i) (valI j) : Int) < 536870912 := by
    have h5 : Int.gcd (valI i) (valI j) ≤ (valI j).natAbs := Int.gcd_le_natAbs_right _ hj0
    have : lz (Int.gcd (valI i) (valI j) : Int) ≤ (digits (valI j).natAbs).length := digits_mono (by simpa using h5)
    omega
  simp [r_118_4, h0, b1]
  refine (num_Cmp_does k1 (j := (false, [])) ⟨_, rfl, Lim.nil⟩ hx.1 hm (by simp)).mono ?_
  rintro _ G2 ⟨rfl, hx2⟩
  (try replace b0 := hx2.blk b0); (try replace b1 := hx2.blk b1); (try replace b2 := hx2.blk b2); (try replace b3 := hx2.blk b3); (try replace hx := hx.trans hx2); (try replace k0 := k0.mono hx2); (try replace k1 := k1.mono hx2); (try replace k2 := k2.mono hx2); (try replace k3 := k3.mono hx2); (try replace k4 := k4.mono hx2); (try replace k5 := k5.mono hx2); (try replace k6 := k6.mono hx2)
  have hv0 : valI (false, []) = 0 := by unfold valI mayB; simp [natL]
  rw [hv0]
  obtain ⟨g, hg⟩ : ∃ g, g = if valI j < 0 then -(Int.gcd (valI i) (valI j) : Int) else (Int.gcd (valI i) (valI j) : Int) := ⟨_, rfl⟩
  obtain ⟨hq, hg0⟩ := quo_canon (p := valI i) hj0 hg
  rw [hq]
  have hgl2 : lz g < 536870912 := by rw [hg]; split; rw [lz_neg]; exact hgl; exact hgl
  by_cases hneg : valI j < 0
  · have hcz : cmpZ (valI j) 0 < 0 := by unfold cmpZ; rw [if_pos hneg]; omega
    simp [hcz, r_118_5, h0, b3]
    refine (num_Neg_does (i := canonI (Int.gcd (valI i) (valI j))) ⟨s1, rfl, k2⟩ hx.1 (by rw [len_canonI]; omega)).mono ?_
    rintro _ G2 ⟨⟨s2, rfl, k6⟩, hx2⟩
    (try replace b0 := hx2.blk b0); (try replace b1 := hx2.blk b1); (try replace b2 := hx2.blk b2); (try replace b3 := hx2.blk b3); (try replace hx := hx.trans hx2); (try replace k0 := k0.mono hx2); (try replace k1 := k1.mono hx2); (try replace k2 := k2.mono hx2); (try replace k3 := k3.mono hx2); (try replace k4 := k4.mono hx2); (try replace k5 := k5.mono hx2); (try replace k6 := k6.mono hx2)
    rw [val_canon] at k6 ⊢
    rw [if_pos hneg] at hg
    rw [← hg] at k6 ⊢
    have hz := blk_lt b3
    simp [h0, b3, k6.cells, k6.plain, hsz]
    generalize hS : Array.setIfInBounds _ _ _ = G3
    have hsz := hx.1; (try replace k0 := k0.setS hS b3 (by decide)); (try replace k1 := k1.setS hS b3 (by decide)); (try replace k2 := k2.setS hS b3 (by decide)); (try replace k3 := k3.setS hS b3 (by decide)); (try replace k4 := k4.setS hS b3 (by decide)); (try replace k5 := k5.setS hS b3 (by decide)); (try replace k6 := k6.setS hS b3 (by decide)); (try replace b0 := set_keep hS b0 (by omega)); (try replace b1 := set_keep hS b1 (by omega)); (try replace b2 := set_keep hS b2 (by omega)); (try replace hx := set_ext hS hx (by omega)); replace b3 := set_new hS b3; clear hS hsz
    clear k2
    have k2 := k6
    clear k6
    obtain ⟨s1, rfl⟩ : ∃ s1, s1 = s2 := ⟨_, rfl⟩
    simp [r_118_6, h0, b0, b3]
    refine (num_Div_does k0 ⟨s1, rfl, k2⟩ hx.1 hn (by rw [len_canonI]; exact hgl2) (by rw [val_canon]; exact hg0)).mono ?_
    rintro _ G2 ⟨⟨_, _, rfl, ⟨s3, rfl, k3⟩, k4⟩, hx2⟩
    (try replace b0 := hx2.blk b0); (try replace b1 := hx2.blk b1); (try replace b2 := hx2.blk b2); (try replace b3 := hx2.blk b3); (try replace hx := hx.trans hx2); (try replace k0 := k0.mono hx2); (try replace k1 := k1.mono hx2); (try replace k2 := k2.mono hx2); (try replace k3 := k3.mono hx2); (try replace k4 := k4.mono hx2); (try replace k5 := k5.mono hx2); (try replace k6 := k6.mono hx2)
    rw [val_canon] at k3 ⊢
    have hz := blk_lt b0
    simp [h0, b0, k3.cells, k3.plain, hz]
    generalize hS : Array.setIfInBounds _ _ _ = G3
    have hsz := hx.1; (try replace k0 := k0.setS hS b0 (by decide)); (try replace k1 := k1.setS hS b0 (by decide)); (try replace k2 := k2.setS hS b0 (by decide)); (try replace k3 := k3.setS hS b0 (by decide)); (try replace k4 := k4.setS hS b0 (by decide)); (try replace k5 := k5.setS hS b0 (by decide)); (try replace k6 := k6.setS hS b0 (by decide)); (try replace b1 := set_keep hS b1 (by omega)); (try replace b2 := set_keep hS b2 (by omega)); (try replace b3 := set_keep hS b3 (by omega)); (try replace hx := set_ext hS hx (by omega)); replace b0 := set_new hS b0; clear hS hsz
    simp [r_118_7, h0, b1, b3]
    refine (num_Div_does k1 ⟨s1, rfl, k2⟩ hx.1 hm (by rw [len_canonI]; exact hgl2) (by rw [val_canon]; exact hg0)).mono ?_
    rintro _ G2 ⟨⟨_, _, rfl, ⟨s4, rfl, k4⟩, k5⟩, hx2⟩
    (try replace b0 := hx2.blk b0); (try replace b1 := hx2.blk b1); (try replace b2 := hx2.blk b2); (try replace b3 := hx2.blk b3); (try replace hx := hx.trans hx2); (try replace k0 := k0.mono hx2); (try replace k1 := k1.mono hx2); (try replace k2 := k2.mono hx2); (try replace k3 := k3.mono hx2); (try replace k4 := k4.mono hx2); (try replace k5 := k5.mono hx2); (try replace k6 := k6.mono hx2)
    rw [val_canon] at k4 ⊢
    have hz := blk_lt b1
    simp [h0, b1, k4.cells, k4.plain, hz]
    generalize hS : Array.setIfInBounds _ _ _ = G3
    have hsz := hx.1; (try replace k0 := k0.setS hS b1 (by decide)); (try replace k1 := k1.setS hS b1 (by decide)); (try replace k2 := k2.setS hS b1 (by decide)); (try replace k3 := k3.setS hS b1 (by decide)); (try replace k4 := k4.setS hS b1 (by decide)); (try replace k5 := k5.setS hS b1 (by decide)); (try replace k6 := k6.setS hS b1 (by decide)); (try replace b0 := set_keep hS b0 (by omega)); (try replace b2 := set_keep hS b2 (by omega)); (try replace b3 := set_keep hS b3 (by omega)); (try replace hx := set_ext hS hx (by omega)); replace b1 := set_new hS b1; clear hS hsz
    have hz := blk_lt b2
    simp [r_118_8, h0, b0, b1, b2, k3.cells, k3.plain, k4.cells, k4.plain, hz]
    exact fun _ => ⟨s3, s4, rfl, k3.setT b2 (by decide), k4.setT b2 (by decide)⟩
  · have hcz : ¬ cmpZ (valI j) 0 < 0 := by unfold cmpZ; rw [if_neg hneg]; split <;> omega
    rw [if_neg hneg] at hg
    rw [← hg] at k2 b3
    simp [hcz]
    simp [r_118_6, h0, b0, b3]
    refine (num_Div_does k0 ⟨s1, rfl, k2⟩ hx.1 hn (by rw [len_canonI]; exact hgl2) (by rw [val_canon]; exact hg0)).mono ?_
    rintro _ G2 ⟨⟨_, _, rfl, ⟨s3, rfl, k3⟩, k4⟩, hx2⟩
    (try replace b0 := hx2.blk b0); (try replace b1 := hx2.blk b1); (try replace b2 := hx2.blk b2); (try replace b3 := hx2.blk b3); (try replace hx := hx.trans hx2); (try replace k0 := k0.mono hx2); (try replace k1 := k1.mono hx2); (try replace k2 := k2.mono hx2); (try replace k3 := k3.mono hx2); (try replace k4 := k4.mono hx2); (try replace k5 := k5.mono hx2); (try replace k6 := k6.mono hx2)
    rw [val_canon] at k3 ⊢
    have hz := blk_lt b0
    simp [h0, b0, k3.cells, k3.plain, hz]
    generalize hS : Array.setIfInBounds _ _ _ = G3
    have hsz := hx.1; (try replace k0 := k0.setS hS b0 (by decide)); (try replace k1 := k1.setS hS b0 (by decide)); (try replace k2 := k2.setS hS b0 (by decide)); (try replace k3 := k3.setS hS b0 (by decide)); (try replace k4 := k4.setS hS b0 (by decide)); (try replace k5 := k5.setS hS b0 (by decide)); (try replace k6 := k6.setS hS b0 (by decide)); (try replace b1 := set_keep hS b1 (by omega)); (try replace b2 := set_keep hS b2 (by omega)); (try replace b3 := set_keep hS b3 (by omega)); (try replace hx := set_ext hS hx (by omega)); replace b0 := set_new hS b0; clear hS hsz
    simp [r_118_7, h0, b1, b3]
    refine (num_Div_does k1 ⟨s1, rfl, k2⟩ hx.1 hm (by rw [len_canonI]; exact hgl2) (by rw [val_canon]; exact hg0)).mono ?_
    rintro _ G2 ⟨⟨_, _, rfl, ⟨s4, rfl, k4⟩, k5⟩, hx2⟩
    (try replace b0 := hx2.blk b0); (try replace b1 := hx2.blk b1); (try replace b2 := hx2.blk b2); (try replace b3 := hx2.blk b3); (try replace hx := hx.trans hx2); (try replace k0 := k0.mono hx2); (try replace k1 := k1.mono hx2); (try replace k2 := k2.mono hx2); (try replace k3 := k3.mono hx2); (try replace k4 := k4.mono hx2); (try replace k5 := k5.mono hx2); (try replace k6 := k6.mono hx2)
    rw [val_canon] at k4 ⊢
    have hz := blk_lt b1
    simp [h0, b1, k4.cells, k4.plain, hz]
    generalize hS : Array.setIfInBounds _ _ _ = G3
    have hsz := hx.1; (try replace k0 := k0.setS hS b1 (by decide)); (try replace k1 := k1.setS hS b1 (by decide)); (try replace k2 := k2.setS hS b1 (by decide)); (try replace k3 := k3.setS hS b1 (by decide)); (try replace k4 := k4.setS hS b1 (by decide)); (try replace k5 := k5.setS hS b1 (by decide)); (try replace k6 := k6.setS hS b1 (by decide)); (try replace b0 := set_keep hS b0 (by omega)); (try replace b2 := set_keep hS b2 (by omega)); (try replace b3 := set_keep hS b3 (by omega)); (try replace hx := set_ext hS hx (by omega)); replace b1 := set_new hS b1; clear hS hsz
    have hz := blk_lt b2
    simp [r_118_8, h0, b0, b1, b2, k3.cells, k3.plain, k4.cells, k4.plain, hz]
    exact fun _ => ⟨s3, s4, rfl, k3.setT b2 (by decide), k4.setT b2 (by decide)⟩
end Go.Proofs.YtjlohmnnldbjoaaGreat.AI

/- rat: least, fold, Add, Mul, Cmp, Of. -/
namespace Go.Proofs.YtjlohmnnldbjoaaGreat.AI
open Go
set_option maxHeartbeats 4000000

variable {fl : Nat} {H G : Heap} {R : PostP} {v w : Value} {i j : Bool × List Nat} {a b : RawR}

theorem RatV.p (h : RatV H v a) : ∃ s u, v = .agg #[.bool a.1.1, s, .bool a.2.1, u] ∧ Lim H s a.1.2 ∧ Lim H u a.2.2 ∧ IntV H (.agg #[.bool a.1.1, s]) a.1 ∧ IntV H (.agg #[.bool a.2.1, u]) a.2 := by
  obtain ⟨s, u, h1, h2, h3⟩ := h; exact ⟨s, u, h1, h2, h3, ⟨s, rfl, h2⟩, ⟨u, rfl, h3⟩⟩
theorem RatV.ok (h : RatV H v a) : LimOk a.1.2 ∧ LimOk a.2.2 := by obtain ⟨s, u, _, h2, h3⟩ := h; exact ⟨h2.ok, h3.ok⟩
theorem szR_num (x : Rat) : lz x.num ≤ szR x := by unfold szR; omega
theorem szR_den (x : Rat) : lz x.den ≤ szR x := by unfold szR; omega

theorem rat_least_does (h : IntV H v i) (k : IntV H w j) (hf : fl ≤ H.size) (hn : i.2.length < 536870912) (hm : j.2.length < 536870912) (hj0 : valI j ≠ 0) :
    Does env fl f_86 [v, w] H (fun r H' => RatV H' r (canonR (Rat.divInt (valI i) (valI j))) ∧ Ext H H') R := by
  have k0 := h
  have k1 := k
  obtain ⟨s, rfl, hs⟩ := h
  obtain ⟨u, rfl, hu⟩ := k
  refine does_ext e_86 hf (h := ?_)
  intro ρ h0
  simp [s_86, r_86_0, h0]
  generalize hG : Array.push (Array.push (Array.push H _) _) _ = G
  have hx : Ext H G := by rw [← hG]; exact (Ext.refl H).push.push.push
  have b0 : Heap.blk G H.size = .row false T_api_Int [.bool i.1, s] := by rw [← hG]; simp
  have b1 : Heap.blk G (H.size + 1) = .row false T_api_Int [.bool j.1, u] := by rw [← hG]; simp
  have b2 : Heap.blk G (H.size + 2) = .row false T_api_Rat [.bool false, .slice none 0 0, .bool false, .slice none 0 0] := by rw [← hG]; simp
  clear hG
  replace k0 := k0.mono hx
  replace k1 := k1.mono hx
  simp [r_86_1, h0, b0, b1]
  refine (rat_Quo_does k0 k1 hx.1 hn hm hj0).mono ?_
  rintro _ G2 ⟨⟨q, rfl, s1, s2, rfl, k2, k3⟩, hx2⟩
  (try replace b0 := hx2.blk b0); (try replace b1 := hx2.blk b1); (try replace b2 := hx2.blk b2); (try replace b3 := hx2.blk b3); (try replace hx := hx.trans hx2); (try replace k0 := k0.mono hx2); (try replace k1 := k1.mono hx2); (try replace k2 := k2.mono hx2); (try replace k3 := k3.mono hx2)
  have hsz := hx.1
  simp [h0, k2.cells, k2.plain, k3.cells, k3.plain, hsz]
  generalize hN : Array.setIfInBounds (Array.push _ _) _ _ = G3
  obtain ⟨hx2, b3⟩ := new1 hN
  clear hN
  (try replace b0 := hx2.blk b0); (try replace b1 := hx2.blk b1); (try replace b2 := hx2.blk b2); (try replace b3 := hx2.blk b3); (try replace hx := hx.trans hx2); (try replace k0 := k0.mono hx2); (try replace k1 := k1.mono hx2); (try replace k2 := k2.mono hx2); (try replace k3 := k3.mono hx2)
  have hz := blk_lt b2
  simp [r_86_2, h0, b2, b3, k2.cells, k2.plain, k3.cells, k3.plain, hz]
  exact fun _ => ⟨s1, s2, rfl, k2.setT b2 (by decide), k3.setT b2 (by decide)⟩

/-- numbers in a row. -/
def IntsV (H : Heap) (v : Value) (l : List (Bool × List Nat)) : Prop :=
  ∃ cs, Sl H T_api_Int 2 v l.length cs ∧ ∀ k, (h : k < l.length) → IntV H (.agg ((cs.drop (k * 2)).take 2).toArray) l[k]

theorem rat_fold_add_does (h : IntV H v i) (hl : IntV H w j) {c : Nat} {p : Nat} (hb : H.blk p = .row false T_api_Int (cellsL w)) (hf : fl ≤ H.size) (hn : i.2.length < 536870912) (hm : j.2.length < 536870912) :
    Does env fl f_87 [.func (.func f_88) #[] #[], v, .slice (some ⟨p, 0, none⟩) 1 c] H (fun r H' => IntV H' r (canonI (valI i + valI j)) ∧ Ext H H') R := by
  have k0 := h
  have k1 := hl
  obtain ⟨s, rfl, hs⟩ := h
  obtain ⟨u, rfl, hu⟩ := hl
  simp at hb
  refine does_ext e_87 hf (h := ?_)
  intro ρ h0
  have hpl := blk_lt hb
  simp [s_87, r_87_0, r_87_1, h0, slenV]
  generalize hG : Array.push (Array.push H _) _ = G
  have hx2 : Ext H G := by rw [← hG]; exact (Ext.refl H).push.push
  have b0 : Heap.blk G H.size = .row false T_api_Int [.bool i.1, s] := by rw [← hG]; simp
  have b1 : Heap.blk G (H.size + 1) = .row false T_api_Int [.bool false, .slice none 0 0] := by rw [← hG]; simp
  have b2 : Heap.blk G p = .row false T_api_Int [.bool j.1, u] := hx2.blk hb
  have hx := hx2
  clear hG
  replace k0 := k0.mono hx2
  replace k1 := k1.mono hx2
  clear hb
  refine W_loopM (fun c' t G => ∃ n : Nat, n + c' = 1 ∧ t.length = 21 ∧ get t 0 = .func (.func f_88) #[] #[] ∧ get t 4 = .pointer (some ⟨H.size, 0, none⟩) ∧ get t 6 = .pointer (some ⟨H.size + 1, 0, none⟩) ∧ get t 9 = .slice (some ⟨p, 0, none⟩) 1 c ∧ get t 10 = .int .i64 1 ∧ get t 11 = .int .i64 (n : Int) ∧
      Ext H G ∧ Heap.blk G (H.size + 1) = .row false T_api_Int [.bool false, .slice none 0 0] ∧
      (n = 0 → Heap.blk G H.size = .row false T_api_Int [.bool i.1, s] ∧ Heap.blk G p = .row false T_api_Int [.bool j.1, u] ∧ IntV G (.agg #[.bool i.1, s]) i ∧ IntV G (.agg #[.bool j.1, u]) j) ∧
      (n = 1 → ∃ s2, Heap.blk G H.size = .row false T_api_Int [.bool (canonI (valI i + valI j)).1, s2] ∧ Lim G s2 (canonI (valI i + valI j)).2))
    (fun t G => ∃ s2, t.length = 21 ∧ get t 4 = .pointer (some ⟨H.size, 0, none⟩) ∧ get t 6 = .pointer (some ⟨H.size + 1, 0, none⟩) ∧ Ext H G ∧ Heap.blk G (H.size + 1) = .row false T_api_Int [.bool false, .slice none 0 0] ∧
      Heap.blk G H.size = .row false T_api_Int [.bool (canonI (valI i + valI j)).1, s2] ∧ Lim G s2 (canonI (valI i + valI j)).2) 1 ?_ ?_ ?_
  · exact ⟨0, rfl, by simp, by simp [h0], by simp, by simp, by simp [h0], by simp, by simp, hx, b1, fun _ => ⟨b0, b2, k0, k1⟩, by omega⟩
  · clear h0 ρ k0 k1 b0 b1 b2 hx hx2 G
    rintro c' t G ⟨n, hnc, ht, g0, g4, g6, g9, g10, g11, hx, b1, hc0, hc1⟩
    obtain ⟨ρ, rfl⟩ := toT ht
    simp only [get_T, Nat.reduceLT] at g0 g4 g6 g9 g10 g11
    by_cases hn0 : n = 0
    · subst hn0
      obtain ⟨b0, b2, k0, k1⟩ := hc0 rfl
      have hlt := hx.1
      have hbl := blk_lt b1
      have e9 : IntKind.i64.wrap ((0 : Int) + 1) = 1 := by decide
      simp [r_87_2, r_87_3, g0, g4, g6, g9, g10, g11, iaV, b2]
      have hc : (cellsL (Value.agg #[.bool j.1, u])).length = 2 := rfl
      simp [hu.cells, hu.plain, hlt]
      generalize hN : Array.setIfInBounds (Array.push _ _) _ _ = G3
      obtain ⟨hx2, b3⟩ := new1 hN
      clear hN
      (try replace b0 := hx2.blk b0); (try replace b1 := hx2.blk b1); (try replace b2 := hx2.blk b2); (try replace b3 := hx2.blk b3); (try replace hx := hx.trans hx2); (try replace k0 := k0.mono hx2); (try replace k1 := k1.mono hx2); (try replace k2 := k2.mono hx2)
      simp [r_87_4, r_87_5, g0, g4, g6, g9, g10, g11, b0, b3]
      refine (num_Add_does k0 k1 hx.1 hn hm).mono ?_
      rintro _ G2 ⟨⟨s2, rfl, k2⟩, hx2⟩
      (try replace b0 := hx2.blk b0); (try replace b1 := hx2.blk b1); (try replace b2 := hx2.blk b2); (try replace b3 := hx2.blk b3); (try replace hx := hx.trans hx2); (try replace k0 := k0.mono hx2); (try replace k1 := k1.mono hx2); (try replace k2 := k2.mono hx2)
      have hz := blk_lt b0
      simp [g0, g4, g6, g9, g10, g11, b0, k2.cells, k2.plain, hz, e9]
      exact ⟨0, by omega, 1, rfl, rfl, hx.set (by omega), b1, by omega, fun _ => k2.setT b0 (by decide)⟩
    · have : n = 1 := by omega
      subst this
      obtain ⟨s2, b0, k0⟩ := hc1 rfl
      simp [r_87_2, g0, g4, g6, g9, g10, g11]
      exact ⟨hx, b1, s2, b0, k0⟩
  · clear h0 ρ k0 k1 b0 b1 b2 hx hx2 G
    rintro t G ⟨s2, ht, g4, g6, hx, b1, b0, k0⟩
    obtain ⟨ρ, rfl⟩ := toT ht
    simp only [get_T, Nat.reduceLT] at g4 g6
    have hz := blk_lt b1
    simp [r_87_6, g4, g6, b0, b1, k0.cells, k0.plain, hz]
    exact fun _ => ⟨s2, rfl, k0.setT b1 (by decide)⟩

theorem rat_Add_does (h : RatV H v a) (k : RatV H w b) (hf : fl ≤ H.size) (hn : lenR a < 67108864) (hm : lenR b < 67108864) :
    Does env fl f_51 [v, w] H (fun r H' => RatV H' r (canonR (valR a + valR b)) ∧ Ext H H') R := by
  have k0 := h
  have k1 := k
  obtain ⟨s, u, rfl, hs, hu⟩ := h
  obtain ⟨s', u', rfl, hs', hu'⟩ := k
  refine does_ext e_51 hf (h := ?_)
  intro ρ h0
  simp [s_51, r_51_0, h0]
  generalize hG : Array.push (Array.push (Array.push H _) _) _ = G
  have hx : Ext H G := by rw [← hG]; exact (Ext.refl H).push.push.push
  have b0 : Heap.blk G H.size = .row false T_api_Rat [.bool a.1.1, s, .bool a.2.1, u] := by rw [← hG]; simp
  have b1 : Heap.blk G (H.size + 1) = .row false T_api_Rat [.bool b.1.1, s', .bool b.2.1, u'] := by rw [← hG]; simp
  have b2 : Heap.blk G (H.size + 2) = .row false T_api_Rat [.bool false, .slice none 0 0, .bool false, .slice none 0 0] := by rw [← hG]; simp
  clear hG
  replace k0 := k0.mono hx
  replace k1 := k1.mono hx
  have sa := szR_val k0.ok.1 k0.ok.2
  have sb := szR_val k1.ok.1 k1.ok.2
  refine W_draw ?_
  simp [r_51_1, h0, b0, b1]
  refine (rat_right_does k0 (by have := hx.1; omega) (by omega)).mono ?_
  rintro _ G2 ⟨⟨s1, s2, rfl, k2, k3⟩, hx2⟩
  (try replace b0 := hx2.blk b0); (try replace b1 := hx2.blk b1); (try replace b2 := hx2.blk b2); (try replace b3 := hx2.blk b3); (try replace hx := hx.trans hx2); (try replace k0 := k0.mono hx2); (try replace k1 := k1.mono hx2); (try replace k2 := k2.mono hx2); (try replace k3 := k3.mono hx2); (try replace k4 := k4.mono hx2); (try replace k5 := k5.mono hx2); (try replace k6 := k6.mono hx2); (try replace k7 := k7.mono hx2)
  simp [h0, b1]
  refine (rat_right_does k1 hx.1 (by omega)).mono ?_
  rintro _ G2 ⟨⟨s3, s4, rfl, k4, k5⟩, hx2⟩
  (try replace b0 := hx2.blk b0); (try replace b1 := hx2.blk b1); (try replace b2 := hx2.blk b2); (try replace b3 := hx2.blk b3); (try replace hx := hx.trans hx2); (try replace k0 := k0.mono hx2); (try replace k1 := k1.mono hx2); (try replace k2 := k2.mono hx2); (try replace k3 := k3.mono hx2); (try replace k4 := k4.mono hx2); (try replace k5 := k5.mono hx2); (try replace k6 := k6.mono hx2); (try replace k7 := k7.mono hx2)
  clear k0 k1
  have hz0 := blk_lt b0
  simp [h0, b0, k2.cells, k2.plain, k3.cells, k3.plain, hz0]
  generalize hS : Array.setIfInBounds _ _ _ = G3
  have hsz := hx.1; (try replace k0 := k0.setS hS b0 (by decide)); (try replace k1 := k1.setS hS b0 (by decide)); (try replace k2 := k2.setS hS b0 (by decide)); (try replace k3 := k3.setS hS b0 (by decide)); (try replace k4 := k4.setS hS b0 (by decide)); (try replace k5 := k5.setS hS b0 (by decide)); (try replace k6 := k6.setS hS b0 (by decide)); (try replace k7 := k7.setS hS b0 (by decide)); (try replace b1 := set_keep hS b1 (by omega)); (try replace b2 := set_keep hS b2 (by omega)); (try replace b3 := set_keep hS b3 (by omega)); (try replace hx := set_ext hS hx (by omega)); replace b0 := set_new hS b0; clear hS hsz
  have hz0 := blk_lt b1
  simp [b1, k4.cells, k4.plain, k5.cells, k5.plain, hz0]
  generalize hS : Array.setIfInBounds _ _ _ = G3
  have hsz := hx.1; (try replace k0 := k0.setS hS b1 (by decide)); (try replace k1 := k1.setS hS b1 (by decide)); (try replace k2 := k2.setS hS b1 (by decide)); (try replace k3 := k3.setS hS b1 (by decide)); (try replace k4 := k4.setS hS b1 (by decide)); (try replace k5 := k5.setS hS b1 (by decide)); (try replace k6 := k6.setS hS b1 (by decide)); (try replace k7 := k7.setS hS b1 (by decide)); (try replace b0 := set_keep hS b0 (by omega)); (try replace b2 := set_keep hS b2 (by omega)); (try replace b3 := set_keep hS b3 (by omega)); (try replace hx := set_ext hS hx (by omega)); replace b1 := set_new hS b1; clear hS hsz
  obtain ⟨x, hxv⟩ : ∃ x, x = valR a := ⟨_, rfl⟩
  obtain ⟨y, hyv⟩ : ∃ y, y = valR b := ⟨_, rfl⟩
  rw [← hxv] at sa k2 k3 b0 ⊢
  rw [← hyv] at sb k4 k5 b1 ⊢
  have k0 : IntV _ (.agg #[.bool (canonR x).1.1, s1]) (canonI x.num) := ⟨s1, rfl, k2⟩
  have k1 : IntV _ (.agg #[.bool (canonR x).2.1, s2]) (canonI x.den) := ⟨s2, rfl, k3⟩
  have k6 : IntV _ (.agg #[.bool (canonR y).1.1, s3]) (canonI y.num) := ⟨s3, rfl, k4⟩
  have k7 : IntV _ (.agg #[.bool (canonR y).2.1, s4]) (canonI y.den) := ⟨s4, rfl, k5⟩
  have l1 := szR_num x
  have l2 := szR_den x
  have l3 := szR_num y
  have l4 := szR_den y
  clear hs hu hs' hu' k2 k3 k4 k5
  refine W_draw ?_
  simp [r_51_2, h0, b0, b1]
  refine (num_Mul_does k0 k7 (by have := hx.1; omega) (by rw [len_canonI]; omega) (by rw [len_canonI]; omega)).mono ?_
  rintro _ G2 ⟨k2, hx2⟩
  (try replace b0 := hx2.blk b0); (try replace b1 := hx2.blk b1); (try replace b2 := hx2.blk b2); (try replace b3 := hx2.blk b3); (try replace hx := hx.trans hx2); (try replace k0 := k0.mono hx2); (try replace k1 := k1.mono hx2); (try replace k2 := k2.mono hx2); (try replace k3 := k3.mono hx2); (try replace k4 := k4.mono hx2); (try replace k5 := k5.mono hx2); (try replace k6 := k6.mono hx2); (try replace k7 := k7.mono hx2)
  rw [val_canon, val_canon] at k2
  simp [h0, b0, b1]
  refine (num_Mul_does k6 k1 (by have := hx.1; omega) (by rw [len_canonI]; omega) (by rw [len_canonI]; omega)).mono ?_
  rintro _ G2 ⟨k3, hx2⟩
  (try replace b0 := hx2.blk b0); (try replace b1 := hx2.blk b1); (try replace b2 := hx2.blk b2); (try replace b3 := hx2.blk b3); (try replace hx := hx.trans hx2); (try replace k0 := k0.mono hx2); (try replace k1 := k1.mono hx2); (try replace k2 := k2.mono hx2); (try replace k3 := k3.mono hx2); (try replace k4 := k4.mono hx2); (try replace k5 := k5.mono hx2); (try replace k6 := k6.mono hx2); (try replace k7 := k7.mono hx2)
  rw [val_canon, val_canon] at k3
  obtain ⟨s5, hk3, k3'⟩ := k3
  subst hk3
  simp [h0, k3'.cells]
  generalize hN : Array.push _ _ = G3
  obtain ⟨hx2, b3⟩ := new0 hN
  have hGs : G3.size = G2.size + 1 := by rw [← hN]; simp
  clear hN
  have k3 : IntV G2 (.agg #[.bool (canonI (y.num * x.den)).1, s5]) (canonI (y.num * x.den)) := ⟨s5, rfl, k3'⟩
  (try replace b0 := hx2.blk b0); (try replace b1 := hx2.blk b1); (try replace b2 := hx2.blk b2); (try replace b3 := hx2.blk b3); (try replace hx := hx.trans hx2); (try replace k0 := k0.mono hx2); (try replace k1 := k1.mono hx2); (try replace k2 := k2.mono hx2); (try replace k3 := k3.mono hx2); (try replace k4 := k4.mono hx2); (try replace k5 := k5.mono hx2); (try replace k6 := k6.mono hx2); (try replace k7 := k7.mono hx2)
  have m1 := lz_mul x.num y.den
  have m2 := lz_mul y.num x.den
  refine (rat_fold_add_does k2 k3 (by simpa using b3) (by have := hx.1; omega) (by rw [len_canonI]; omega) (by rw [len_canonI]; omega)).mono ?_
  rintro _ G2 ⟨k4, hx2⟩
  (try replace b0 := hx2.blk b0); (try replace b1 := hx2.blk b1); (try replace b2 := hx2.blk b2); (try replace b3 := hx2.blk b3); (try replace hx := hx.trans hx2); (try replace k0 := k0.mono hx2); (try replace k1 := k1.mono hx2); (try replace k2 := k2.mono hx2); (try replace k3 := k3.mono hx2); (try replace k4 := k4.mono hx2); (try replace k5 := k5.mono hx2); (try replace k6 := k6.mono hx2); (try replace k7 := k7.mono hx2)
  rw [val_canon, val_canon] at k4
  simp [h0, b0, b1]
  refine (num_Mul_does k1 k7 hx.1 (by rw [len_canonI]; omega) (by rw [len_canonI]; omega)).mono ?_
  rintro _ G2 ⟨k5, hx2⟩
  (try replace b0 := hx2.blk b0); (try replace b1 := hx2.blk b1); (try replace b2 := hx2.blk b2); (try replace b3 := hx2.blk b3); (try replace hx := hx.trans hx2); (try replace k0 := k0.mono hx2); (try replace k1 := k1.mono hx2); (try replace k2 := k2.mono hx2); (try replace k3 := k3.mono hx2); (try replace k4 := k4.mono hx2); (try replace k5 := k5.mono hx2); (try replace k6 := k6.mono hx2); (try replace k7 := k7.mono hx2)
  rw [val_canon, val_canon] at k5
  simp [h0]
  have m3 := lz_add (x.num * y.den) (y.num * x.den)
  have m4 := lz_mul (x.den : Int) y.den
  refine (rat_least_does k4 k5 hx.1 (by rw [len_canonI]; omega) (by rw [len_canonI]; omega) (by rw [val_canon]; have := x.den_nz; have := y.den_nz; exact Int.mul_ne_zero (by omega) (by omega))).mono ?_
  rintro _ G2 ⟨⟨s6, s7, rfl, k6, k7⟩, hx2⟩
  (try replace b0 := hx2.blk b0); (try replace b1 := hx2.blk b1); (try replace b2 := hx2.blk b2); (try replace b3 := hx2.blk b3); (try replace hx := hx.trans hx2); (try replace k0 := k0.mono hx2); (try replace k1 := k1.mono hx2); (try replace k2 := k2.mono hx2); (try replace k3 := k3.mono hx2); (try replace k4 := k4.mono hx2); (try replace k5 := k5.mono hx2); (try replace k6 := k6.mono hx2); (try replace k7 := k7.mono hx2)
  rw [val_canon, val_canon, ← add_divInt] at k6 k7 ⊢
  have hz := blk_lt b2
  simp [h0, b2, k6.cells, k6.plain, k7.cells, k7.plain, hz]
  exact fun _ => ⟨s6, s7, rfl, k6.setT b2 (by decide), k7.setT b2 (by decide)⟩

theorem rat_Mul_does (h : RatV H v a) (k : RatV H w b) (hf : fl ≤ H.size) (hn : lenR a < 67108864) (hm : lenR b < 67108864) :
    Does env fl f_91 [v, w] H (fun r H' => RatV H' r (canonR (valR a * valR b)) ∧ Ext H H') R := by
  have k0 := h
  have k1 := k
  obtain ⟨s, u, rfl, hs, hu⟩ := h
  obtain ⟨s', u', rfl, hs', hu'⟩ := k
  refine does_ext e_91 hf (h := ?_)
  intro ρ h0
  simp [s_91, r_91_0, h0]
  generalize hG : Array.push (Array.push (Array.push H _) _) _ = G
  have hx : Ext H G := by rw [← hG]; exact (Ext.refl H).push.push.push
  have b0 : Heap.blk G H.size = .row false T_api_Rat [.bool a.1.1, s, .bool a.2.1, u] := by rw [← hG]; simp
  have b1 : Heap.blk G (H.size + 1) = .row false T_api_Rat [.bool b.1.1, s', .bool b.2.1, u'] := by rw [← hG]; simp
  have b2 : Heap.blk G (H.size + 2) = .row false T_api_Rat [.bool false, .slice none 0 0, .bool false, .slice none 0 0] := by rw [← hG]; simp
  clear hG
  replace k0 := k0.mono hx
  replace k1 := k1.mono hx
  have sa := szR_val k0.ok.1 k0.ok.2
  have sb := szR_val k1.ok.1 k1.ok.2
  refine W_draw ?_
  simp [r_91_1, h0, b0, b1]
  refine (rat_right_does k0 (by have := hx.1; omega) (by omega)).mono ?_
  rintro _ G2 ⟨⟨s1, s2, rfl, k2, k3⟩, hx2⟩
  (try replace b0 := hx2.blk b0); (try replace b1 := hx2.blk b1); (try replace b2 := hx2.blk b2); (try replace hx := hx.trans hx2); (try replace k0 := k0.mono hx2); (try replace k1 := k1.mono hx2); (try replace k2 := k2.mono hx2); (try replace k3 := k3.mono hx2); (try replace k4 := k4.mono hx2); (try replace k5 := k5.mono hx2); (try replace k6 := k6.mono hx2); (try replace k7 := k7.mono hx2)
  simp [h0, b1]
  refine (rat_right_does k1 hx.1 (by omega)).mono ?_
  rintro _ G2 ⟨⟨s3, s4, rfl, k4, k5⟩, hx2⟩
  (try replace b0 := hx2.blk b0); (try replace b1 := hx2.blk b1); (try replace b2 := hx2.blk b2); (try replace hx := hx.trans hx2); (try replace k0 := k0.mono hx2); (try replace k1 := k1.mono hx2); (try replace k2 := k2.mono hx2); (try replace k3 := k3.mono hx2); (try replace k4 := k4.mono hx2); (try replace k5 := k5.mono hx2); (try replace k6 := k6.mono hx2); (try replace k7 := k7.mono hx2)
  clear k0 k1
  have hz0 := blk_lt b0
  simp [h0, b0, k2.cells, k2.plain, k3.cells, k3.plain, hz0]
  generalize hS : Array.setIfInBounds _ _ _ = G3
  have hsz := hx.1; (try replace k0 := k0.setS hS b0 (by decide)); (try replace k1 := k1.setS hS b0 (by decide)); (try replace k2 := k2.setS hS b0 (by decide)); (try replace k3 := k3.setS hS b0 (by decide)); (try replace k4 := k4.setS hS b0 (by decide)); (try replace k5 := k5.setS hS b0 (by decide)); (try replace k6 := k6.setS hS b0 (by decide)); (try replace k7 := k7.setS hS b0 (by decide)); (try replace b1 := set_keep hS b1 (by omega)); (try replace b2 := set_keep hS b2 (by omega)); (try replace hx := set_ext hS hx (by omega)); replace b0 := set_new hS b0; clear hS hsz
  have hz0 := blk_lt b1
  simp [b1, k4.cells, k4.plain, k5.cells, k5.plain, hz0]
  generalize hS : Array.setIfInBounds _ _ _ = G3
  have hsz := hx.1; (try replace k0 := k0.setS hS b1 (by decide)); (try replace k1 := k1.setS hS b1 (by decide)); (try replace k2 := k2.setS hS b1 (by decide)); (try replace k3 := k3.setS hS b1 (by decide)); (try replace k4 := k4.setS hS b1 (by decide)); (try replace k5 := k5.setS hS b1 (by decide)); (try replace k6 := k6.setS hS b1 (by decide)); (try replace k7 := k7.setS hS b1 (by decide)); (try replace b0 := set_keep hS b0 (by omega)); (try replace b2 := set_keep hS b2 (by omega)); (try replace hx := set_ext hS hx (by omega)); replace b1 := set_new hS b1; clear hS hsz
  obtain ⟨x, hxv⟩ : ∃ x, x = valR a := ⟨_, rfl⟩
  obtain ⟨y, hyv⟩ : ∃ y, y = valR b := ⟨_, rfl⟩
  rw [← hxv] at sa k2 k3 b0 ⊢
  rw [← hyv] at sb k4 k5 b1 ⊢
  have k0 : IntV _ (.agg #[.bool (canonR x).1.1, s1]) (canonI x.num) := ⟨s1, rfl, k2⟩
  have k1 : IntV _ (.agg #[.bool (canonR x).2.1, s2]) (canonI x.den) := ⟨s2, rfl, k3⟩
  have k6 : IntV _ (.agg #[.bool (canonR y).1.1, s3]) (canonI y.num) := ⟨s3, rfl, k4⟩
  have k7 : IntV _ (.agg #[.bool (canonR y).2.1, s4]) (canonI y.den) := ⟨s4, rfl, k5⟩
  have l1 := szR_num x
  have l2 := szR_den x
  have l3 := szR_num y
  have l4 := szR_den y
  clear hs hu hs' hu' k2 k3 k4 k5
  refine W_draw ?_
  simp [r_91_2, h0, b0, b1]
  refine (num_Mul_does k0 k6 (by have := hx.1; omega) (by rw [len_canonI]; omega) (by rw [len_canonI]; omega)).mono ?_
  rintro _ G2 ⟨k2, hx2⟩
  (try replace b0 := hx2.blk b0); (try replace b1 := hx2.blk b1); (try replace b2 := hx2.blk b2); (try replace hx := hx.trans hx2); (try replace k0 := k0.mono hx2); (try replace k1 := k1.mono hx2); (try replace k2 := k2.mono hx2); (try replace k3 := k3.mono hx2); (try replace k4 := k4.mono hx2); (try replace k5 := k5.mono hx2); (try replace k6 := k6.mono hx2); (try replace k7 := k7.mono hx2)
  rw [val_canon, val_canon] at k2
  simp [h0, b0, b1]
  refine (num_Mul_does k1 k7 hx.1 (by rw [len_canonI]; omega) (by rw [len_canonI]; omega)).mono ?_
  rintro _ G2 ⟨k5, hx2⟩
  (try replace b0 := hx2.blk b0); (try replace b1 := hx2.blk b1); (try replace b2 := hx2.blk b2); (try replace hx := hx.trans hx2); (try replace k0 := k0.mono hx2); (try replace k1 := k1.mono hx2); (try replace k2 := k2.mono hx2); (try replace k3 := k3.mono hx2); (try replace k4 := k4.mono hx2); (try replace k5 := k5.mono hx2); (try replace k6 := k6.mono hx2); (try replace k7 := k7.mono hx2)
  rw [val_canon, val_canon] at k5
  simp [h0]
  have m3 := lz_mul x.num y.num
  have m4 := lz_mul (x.den : Int) y.den
  refine (rat_least_does k2 k5 hx.1 (by rw [len_canonI]; omega) (by rw [len_canonI]; omega) (by rw [val_canon]; have := x.den_nz; have := y.den_nz; exact Int.mul_ne_zero (by omega) (by omega))).mono ?_
  rintro _ G2 ⟨⟨s6, s7, rfl, k6, k7⟩, hx2⟩
  (try replace b0 := hx2.blk b0); (try replace b1 := hx2.blk b1); (try replace b2 := hx2.blk b2); (try replace hx := hx.trans hx2); (try replace k0 := k0.mono hx2); (try replace k1 := k1.mono hx2); (try replace k2 := k2.mono hx2); (try replace k3 := k3.mono hx2); (try replace k4 := k4.mono hx2); (try replace k5 := k5.mono hx2); (try replace k6 := k6.mono hx2); (try replace k7 := k7.mono hx2)
  rw [val_canon, val_canon, ← mul_divInt] at k6 k7 ⊢
  have hz := blk_lt b2
  simp [h0, b2, k6.cells, k6.plain, k7.cells, k7.plain, hz]
  exact fun _ => ⟨s6, s7, rfl, k6.setT b2 (by decide), k7.setT b2 (by decide)⟩

theorem rat_Cmp_does (h : RatV H v a) (k : RatV H w b) (hf : fl ≤ H.size) (hn : lenR a < 67108864) (hm : lenR b < 67108864) :
    Does env fl f_93 [v, w] H (fun r H' => r = .int .i64 (cmpR (valR a) (valR b)) ∧ Ext H H') R := by
  have k0 := h
  have k1 := k
  obtain ⟨s, u, rfl, hs, hu⟩ := h
  obtain ⟨s', u', rfl, hs', hu'⟩ := k
  refine does_ext e_93 hf (h := ?_)
  intro ρ h0
  simp [s_93, r_93_0, h0]
  generalize hG : Array.push (Array.push H _) _ = G
  have hx : Ext H G := by rw [← hG]; exact (Ext.refl H).push.push
  have b0 : Heap.blk G H.size = .row false T_api_Rat [.bool a.1.1, s, .bool a.2.1, u] := by rw [← hG]; simp
  have b1 : Heap.blk G (H.size + 1) = .row false T_api_Rat [.bool b.1.1, s', .bool b.2.1, u'] := by rw [← hG]; simp
  clear hG
  replace k0 := k0.mono hx
  replace k1 := k1.mono hx
  have sa := szR_val k0.ok.1 k0.ok.2
  have sb := szR_val k1.ok.1 k1.ok.2
  refine W_draw ?_
  simp [r_93_1, h0, b0, b1]
  refine (rat_right_does k0 (by have := hx.1; omega) (by omega)).mono ?_
  rintro _ G2 ⟨⟨s1, s2, rfl, k2, k3⟩, hx2⟩
  (try replace b0 := hx2.blk b0); (try replace b1 := hx2.blk b1); (try replace hx := hx.trans hx2); (try replace k0 := k0.mono hx2); (try replace k1 := k1.mono hx2); (try replace k2 := k2.mono hx2); (try replace k3 := k3.mono hx2); (try replace k4 := k4.mono hx2); (try replace k5 := k5.mono hx2); (try replace k6 := k6.mono hx2); (try replace k7 := k7.mono hx2)
  simp [h0, b1]
  refine (rat_right_does k1 hx.1 (by omega)).mono ?_
  rintro _ G2 ⟨⟨s3, s4, rfl, k4, k5⟩, hx2⟩
  (try replace b0 := hx2.blk b0); (try replace b1 := hx2.blk b1); (try replace hx := hx.trans hx2); (try replace k0 := k0.mono hx2); (try replace k1 := k1.mono hx2); (try replace k2 := k2.mono hx2); (try replace k3 := k3.mono hx2); (try replace k4 := k4.mono hx2); (try replace k5 := k5.mono hx2); (try replace k6 := k6.mono hx2); (try replace k7 := k7.mono hx2)
  clear k0 k1
  have hz0 := blk_lt b0
  simp [h0, b0, k2.cells, k2.plain, k3.cells, k3.plain, hz0]
  generalize hS : Array.setIfInBounds _ _ _ = G3
  have hsz := hx.1; (try replace k0 := k0.setS hS b0 (by decide)); (try replace k1 := k1.setS hS b0 (by decide)); (try replace k2 := k2.setS hS b0 (by decide)); (try replace k3 := k3.setS hS b0 (by decide)); (try replace k4 := k4.setS hS b0 (by decide)); (try replace k5 := k5.setS hS b0 (by decide)); (try replace k6 := k6.setS hS b0 (by decide)); (try replace k7 := k7.setS hS b0 (by decide)); (try replace b1 := set_keep hS b1 (by omega)); (try replace hx := set_ext hS hx (by omega)); replace b0 := set_new hS b0; clear hS hsz
  have hz0 := blk_lt b1
  simp [b1, k4.cells, k4.plain, k5.cells, k5.plain, hz0]
  generalize hS : Array.setIfInBounds _ _ _ = G3
  have hsz := hx.1; (try replace k0 := k0.setS hS b1 (by decide)); (try replace k1 := k1.setS hS b1 (by decide)); (try replace k2 := k2.setS hS b1 (by decide)); (try replace k3 := k3.setS hS b1 (by decide)); (try replace k4 := k4.setS hS b1 (by decide)); (try replace k5 := k5.setS hS b1 (by decide)); (try replace k6 := k6.setS hS b1 (by decide)); (try replace k7 := k7.setS hS b1 (by decide)); (try replace b0 := set_keep hS b0 (by omega)); (try replace hx := set_ext hS hx (by omega)); replace b1 := set_new hS b1; clear hS hsz
  obtain ⟨x, hxv⟩ : ∃ x, x = valR a := ⟨_, rfl⟩
  obtain ⟨y, hyv⟩ : ∃ y, y = valR b := ⟨_, rfl⟩
  rw [← hxv] at sa k2 k3 b0 ⊢
  rw [← hyv] at sb k4 k5 b1 ⊢
  have k0 : IntV _ (.agg #[.bool (canonR x).1.1, s1]) (canonI x.num) := ⟨s1, rfl, k2⟩
  have k1 : IntV _ (.agg #[.bool (canonR x).2.1, s2]) (canonI x.den) := ⟨s2, rfl, k3⟩
  have k6 : IntV _ (.agg #[.bool (canonR y).1.1, s3]) (canonI y.num) := ⟨s3, rfl, k4⟩
  have k7 : IntV _ (.agg #[.bool (canonR y).2.1, s4]) (canonI y.den) := ⟨s4, rfl, k5⟩
  have l1 := szR_num x
  have l2 := szR_den x
  have l3 := szR_num y
  have l4 := szR_den y
  clear hs hu hs' hu' k2 k3 k4 k5
  refine W_draw ?_
  simp [r_93_2, h0, b0, b1]
  refine (num_Mul_does k0 k7 (by have := hx.1; omega) (by rw [len_canonI]; omega) (by rw [len_canonI]; omega)).mono ?_
  rintro _ G2 ⟨k2, hx2⟩
  (try replace b0 := hx2.blk b0); (try replace b1 := hx2.blk b1); (try replace hx := hx.trans hx2); (try replace k0 := k0.mono hx2); (try replace k1 := k1.mono hx2); (try replace k2 := k2.mono hx2); (try replace k3 := k3.mono hx2); (try replace k4 := k4.mono hx2); (try replace k5 := k5.mono hx2); (try replace k6 := k6.mono hx2); (try replace k7 := k7.mono hx2)
  rw [val_canon, val_canon] at k2
  simp [h0, b0, b1]
  refine (num_Mul_does k6 k1 hx.1 (by rw [len_canonI]; omega) (by rw [len_canonI]; omega)).mono ?_
  rintro _ G2 ⟨k5, hx2⟩
  (try replace b0 := hx2.blk b0); (try replace b1 := hx2.blk b1); (try replace hx := hx.trans hx2); (try replace k0 := k0.mono hx2); (try replace k1 := k1.mono hx2); (try replace k2 := k2.mono hx2); (try replace k3 := k3.mono hx2); (try replace k4 := k4.mono hx2); (try replace k5 := k5.mono hx2); (try replace k6 := k6.mono hx2); (try replace k7 := k7.mono hx2)
  rw [val_canon, val_canon] at k5
  simp [h0]
  have m3 := lz_mul x.num y.den
  have m4 := lz_mul y.num x.den
  refine (num_Cmp_does k2 k5 hx.1 (by rw [len_canonI]; omega) (by rw [len_canonI]; omega)).mono ?_
  rintro _ G2 ⟨rfl, hx2⟩
  rw [val_canon, val_canon, cmp_num]
  simp

theorem rat_Of_does {n : Int} (hf : fl ≤ H.size) (h1 : -9223372036854775808 ≤ n) (h2 : n < 9223372036854775808) :
    Does env fl f_90 [.int .i64 n] H (fun r H' => RatV H' r (canonR (n : Rat)) ∧ Ext H H') R := by
  refine does_ext e_90 hf (h := ?_)
  intro ρ h0
  simp [s_90, r_90_0, r_90_1, h0]
  have hx := (Ext.refl H).push (r := .row false T_api_Rat [.bool false, .slice none 0 0, .bool false, .slice none 0 0])
  have b2 : Heap.blk (Array.push H (.row false T_api_Rat [.bool false, .slice none 0 0, .bool false, .slice none 0 0])) H.size = _ := blk_push_self
  generalize Array.push H _ = G at *
  refine (num_Of_does hx.1 h1 h2).mono ?_
  rintro _ G2 ⟨⟨s1, rfl, k2⟩, hx2⟩
  (try replace b2 := hx2.blk b2); (try replace hx := hx.trans hx2); (try replace k2 := k2.mono hx2); (try replace k3 := k3.mono hx2)
  simp [h0]
  refine (rat_one_does hx.1).mono ?_
  rintro _ G2 ⟨⟨s2, rfl, k3⟩, hx2⟩
  (try replace b2 := hx2.blk b2); (try replace hx := hx.trans hx2); (try replace k2 := k2.mono hx2); (try replace k3 := k3.mono hx2)
  have hz := blk_lt b2
  simp [h0, b2, k2.cells, k2.plain, k3.cells, k3.plain, hz]
  refine fun _ => ⟨s1, s2, ?_, ?_, ?_⟩
  · unfold canonR; rw [Rat.num_intCast, Rat.den_intCast]; rfl
  · unfold canonR; rw [Rat.num_intCast]; exact k2.setT b2 (by decide)
  · unfold canonR; rw [Rat.den_intCast]; exact k3.setT b2 (by decide)
end Go.Proofs.YtjlohmnnldbjoaaGreat.AI

/- ext: none, May, Of, right, Cmp, best, Max, Min. -/
namespace Go.Proofs.YtjlohmnnldbjoaaGreat.AI
open Go
set_option maxHeartbeats 4000000

variable {fl : Nat} {H G : Heap} {R : PostP} {v w : Value} {a b : RawR}

/-- a quotient with two ends as it lies. -/
abbrev RawE := Int × RawR
def ExtV (H : Heap) (v : Value) (e : RawE) : Prop := ∃ s u, v = .agg #[.int .i64 e.1, .bool e.2.1.1, s, .bool e.2.2.1, u] ∧ Lim H s e.2.1.2 ∧ Lim H u e.2.2.2
variable {e f : RawE}
theorem ExtV.mono (h : ExtV H v e) (hx : Ext H G) : ExtV G v e := by obtain ⟨s, u, h1, h2, h3⟩ := h; exact ⟨s, u, h1, h2.mono hx, h3.mono hx⟩
theorem ExtV.setT (h : ExtV H v e) {p : Nat} {ro : Bool} {e' : TypeId} {cs' : List Value} {r : Blk} (hb : H.blk p = .row ro e' cs') (hne : e' ≠ T_uint32) : ExtV (H.setIfInBounds p r) v e := by
  obtain ⟨s, u, h1, h2, h3⟩ := h; exact ⟨s, u, h1, h2.setT hb hne, h3.setT hb hne⟩
theorem ExtV.setS {G3 : Heap} {q : Nat} {X : Blk} {ro : Bool} {e' : TypeId} {cs : List Value} (k : ExtV H v e) (hS : Array.setIfInBounds H q X = G3) (hb : Heap.blk H q = .row ro e' cs) (hne : e' ≠ T_uint32) : ExtV G3 v e := by rw [← hS]; exact k.setT hb hne
theorem ExtV.ok (h : ExtV H v e) : LimOk e.2.1.2 ∧ LimOk e.2.2.2 := by obtain ⟨s, u, _, h2, h3⟩ := h; exact ⟨h2.ok, h3.ok⟩

def mayE (e : RawE) : Bool := if e.1 = -1 ∨ e.1 = 1 then zeroR e.2 else if e.1 = 0 then mayR e.2 else false
/-- what one says: its end, or a quotient. -/
def valE (e : RawE) : Int × Rat := if mayE e then (if e.1 = 0 then (0, valR e.2) else (e.1, 0)) else (0, 0)
def canonE (x : Int × Rat) : RawE := if x.1 = 0 then (0, canonR x.2) else (x.1, ((false, []), (false, [])))
def cmpE (x y : Int × Rat) : Int := if x.1 < y.1 then -1 else if x.1 > y.1 then 1 else if x.1 ≠ 0 then 0 else cmpR x.2 y.2
def rawZ : RawR := ((false, []), (false, []))
theorem zeroR_rawZ : zeroR rawZ = true := rfl
theorem valR_rawZ : valR rawZ = 0 := by unfold valR; rw [zeroR_rawZ]; rfl
theorem mayR_rawZ : mayR rawZ = true := by unfold mayR; rw [zeroR_rawZ]; rfl
theorem ratv_rawZ : RatV H (.agg #[.bool false, .slice none 0 0, .bool false, .slice none 0 0]) rawZ := ⟨_, _, rfl, Lim.nil, Lim.nil⟩

theorem ext_none_does (h : RatV H v a) (hf : fl ≤ H.size) : Does env fl f_99 [v] H (fun r H' => r = .bool (zeroR a) ∧ Ext H H') R := by
  obtain ⟨s, u, rfl, hs, hu⟩ := h
  refine does_ext e_99 hf (h := ?_)
  intro ρ h0
  simp [s_99, r_99_0, h0]
  have hsl := hs.slen
  have hul := hu.slen
  cases h1 : a.1.1
  · by_cases h2 : a.1.2 = []
    · cases h3 : a.2.1
      · simp [r_99_1, h0, h1, h2, h3, hsl, hul, zeroR]
      · simp [r_99_1, h0, h1, h2, h3, hsl, hul, zeroR]
    · simp [r_99_1, h0, h1, h2, hsl, hul, zeroR]
  · simp [r_99_1, h0, h1, hsl, hul, zeroR]

theorem ext_May_does (h : ExtV H v e) (hf : fl ≤ H.size) (hn : lenR e.2 < 67108864) : Does env fl f_63 [v] H (fun r H' => r = .bool (mayE e) ∧ Ext H H') R := by
  obtain ⟨s, u, rfl, hs, hu⟩ := h
  have k0 : RatV H (.agg #[.bool e.2.1.1, s, .bool e.2.2.1, u]) e.2 := ⟨s, u, rfl, hs, hu⟩
  refine does_ext e_63 hf (h := ?_)
  intro ρ h0
  simp [s_63, r_63_0, r_63_1, r_63_2, h0]
  generalize hG : Array.push H _ = G
  obtain ⟨hx2, b0⟩ := new0 hG
  have hx := Ext.refl H
  clear hG
  (try replace b0 := hx2.blk b0); (try replace hx := hx.trans hx2); (try replace k0 := k0.mono hx2)
  unfold mayE
  by_cases h1 : e.1 = -1
  · simp [h1, r_63_4, h0, b0]
    refine (ext_none_does k0 hx.1).mono ?_
    rintro _ G2 ⟨rfl, hx2⟩
    simp
  · by_cases h2 : e.1 = 1
    · simp [h2, r_63_3, r_63_4, h0, b0]
      refine (ext_none_does k0 hx.1).mono ?_
      rintro _ G2 ⟨rfl, hx2⟩
      simp
    · by_cases h3 : e.1 = 0
      · simp [h3, r_63_3, r_63_5, r_63_6, h0, b0]
        refine (rat_May_does k0 hx.1 (by omega)).mono ?_
        rintro _ G2 ⟨rfl, hx2⟩
        simp
      · simp [h1, h2, h3, r_63_3, r_63_5, r_63_7, h0, b0]

theorem ext_Of_does (h : RatV H v a) (hf : fl ≤ H.size) (hn : lenR a < 67108864) : Does env fl f_54 [v] H (fun r H' => ExtV H' r (0, canonR (valR a)) ∧ Ext H H') R := by
  have k0 := h
  obtain ⟨s, u, rfl, hs, hu⟩ := h
  refine does_ext e_54 hf (h := ?_)
  intro ρ h0
  simp [s_54, r_54_0, r_54_1, h0]
  generalize hG : Array.push (Array.push H _) _ = G
  have hx2 : Ext H G := by rw [← hG]; exact (Ext.refl H).push.push
  have b0 : Heap.blk G H.size = .row false T_api_Rat [.bool a.1.1, s, .bool a.2.1, u] := by rw [← hG]; simp
  have b1 : Heap.blk G (H.size + 1) = .row false T_api_Ext [.int .i64 0, .bool false, .slice none 0 0, .bool false, .slice none 0 0] := by rw [← hG]; simp
  have hx := Ext.refl H
  clear hG
  (try replace b0 := hx2.blk b0); (try replace b1 := hx2.blk b1); (try replace hx := hx.trans hx2); (try replace k0 := k0.mono hx2); (try replace k2 := k2.mono hx2); (try replace k3 := k3.mono hx2)
  try simp [b0]
  refine (rat_Add_does k0 (b := rawZ) ratv_rawZ hx.1 hn (by decide)).mono ?_
  rintro _ G2 ⟨⟨s1, s2, rfl, k2, k3⟩, hx2⟩
  (try replace b0 := hx2.blk b0); (try replace b1 := hx2.blk b1); (try replace hx := hx.trans hx2); (try replace k0 := k0.mono hx2); (try replace k2 := k2.mono hx2); (try replace k3 := k3.mono hx2)
  rw [valR_rawZ, Rat.add_zero] at k2 k3 ⊢
  have hz := blk_lt b1
  simp [h0, b1, k2.cells, k2.plain, k3.cells, k3.plain, hz]
  exact fun _ => ⟨s1, s2, rfl, k2.setT b1 (by decide), k3.setT b1 (by decide)⟩

theorem ext_right_does (h : ExtV H v e) (hf : fl ≤ H.size) (hn : lenR e.2 < 67108864) : Does env fl f_92 [v] H (fun r H' => ExtV H' r (canonE (valE e)) ∧ Ext H H') R := by
  have k0 := h
  obtain ⟨s, u, rfl, hs, hu⟩ := h
  have k1 : RatV H (.agg #[.bool e.2.1.1, s, .bool e.2.2.1, u]) e.2 := ⟨s, u, rfl, hs, hu⟩
  refine does_ext e_92 hf (h := ?_)
  intro ρ h0
  simp [s_92, r_92_0, h0]
  generalize hG : Array.push (Array.push H _) _ = G
  have hx2 : Ext H G := by rw [← hG]; exact (Ext.refl H).push.push
  have b0 : Heap.blk G H.size = .row false T_api_Ext [.int .i64 e.1, .bool e.2.1.1, s, .bool e.2.2.1, u] := by rw [← hG]; simp
  have b1 : Heap.blk G (H.size + 1) = .row false T_api_Ext [.int .i64 0, .bool false, .slice none 0 0, .bool false, .slice none 0 0] := by rw [← hG]; simp
  have hx := Ext.refl H
  clear hG
  (try replace b0 := hx2.blk b0); (try replace b1 := hx2.blk b1); (try replace hx := hx.trans hx2); (try replace k0 := k0.mono hx2); (try replace k1 := k1.mono hx2); (try replace k2 := k2.mono hx2); (try replace k3 := k3.mono hx2)
  simp [r_92_1, h0, b0]
  refine (ext_May_does k0 hx.1 hn).mono ?_
  rintro _ G2 ⟨rfl, hx2⟩
  (try replace b0 := hx2.blk b0); (try replace b1 := hx2.blk b1); (try replace hx := hx.trans hx2); (try replace k0 := k0.mono hx2); (try replace k1 := k1.mono hx2); (try replace k2 := k2.mono hx2); (try replace k3 := k3.mono hx2)
  unfold valE
  cases hm : mayE e
  · simp [r_92_2, h0]
    refine (ext_Of_does (a := rawZ) ratv_rawZ hx.1 (by decide)).mono ?_
    rintro _ G2 ⟨⟨s1, s2, rfl, k2, k3⟩, hx2⟩
    (try replace b0 := hx2.blk b0); (try replace b1 := hx2.blk b1); (try replace hx := hx.trans hx2); (try replace k0 := k0.mono hx2); (try replace k1 := k1.mono hx2); (try replace k2 := k2.mono hx2); (try replace k3 := k3.mono hx2)
    rw [valR_rawZ] at k2 k3 ⊢
    have hz := blk_lt b1
    simp [h0, b1, k2.cells, k2.plain, k3.cells, k3.plain, hz, canonE]
    exact fun _ => ⟨s1, s2, rfl, k2.setT b1 (by decide), k3.setT b1 (by decide)⟩
  · by_cases h3 : e.1 = 0
    · simp [h3, r_92_3, r_92_4, h0, b0]
      refine (ext_Of_does k1 hx.1 hn).mono ?_
      rintro _ G2 ⟨⟨s1, s2, rfl, k2, k3⟩, hx2⟩
      (try replace b0 := hx2.blk b0); (try replace b1 := hx2.blk b1); (try replace hx := hx.trans hx2); (try replace k0 := k0.mono hx2); (try replace k1 := k1.mono hx2); (try replace k2 := k2.mono hx2); (try replace k3 := k3.mono hx2)
      have hz := blk_lt b1
      simp [h0, b1, k2.cells, k2.plain, k3.cells, k3.plain, hz, canonE]
      exact fun _ => ⟨s1, s2, rfl, k2.setT b1 (by decide), k3.setT b1 (by decide)⟩
    · have hz := blk_lt b1
      simp [h3, r_92_3, r_92_5, h0, b0, b1, hz, canonE]
      exact fun _ => ⟨_, _, rfl, Lim.nil, Lim.nil⟩

theorem lenR_valE (h : ExtV H v e) : lenR (canonE (valE e)).2 ≤ max (lenR e.2) 1 := by
  unfold valE canonE
  have h1 := szR_val h.ok.1 h.ok.2
  by_cases hm : mayE e = true
  · by_cases h0 : e.1 = 0
    · simp [hm, h0, lenR_canon]; omega
    · simp [hm, h0, lenR]
  · simp [hm, lenR_canon, szR_zero]; omega

theorem ext_Cmp_does (h : ExtV H v e) (k : ExtV H w f) (hf : fl ≤ H.size) (hn : lenR e.2 < 67108864) (hm : lenR f.2 < 67108864) : Does env fl f_53 [v, w] H (fun r H' => r = .int .i64 (cmpE (valE e) (valE f)) ∧ Ext H H') R := by
  have k0 := h
  have k1 := k
  have l1 := lenR_valE h
  have l2 := lenR_valE k
  obtain ⟨s, u, rfl, hs, hu⟩ := h
  obtain ⟨s', u', rfl, hs', hu'⟩ := k
  refine does_ext e_53 hf (h := ?_)
  intro ρ h0
  simp [s_53, r_53_0, h0]
  generalize hG : Array.push (Array.push H _) _ = G
  have hx2 : Ext H G := by rw [← hG]; exact (Ext.refl H).push.push
  have b0 : Heap.blk G H.size = .row false T_api_Ext [.int .i64 e.1, .bool e.2.1.1, s, .bool e.2.2.1, u] := by rw [← hG]; simp
  have b1 : Heap.blk G (H.size + 1) = .row false T_api_Ext [.int .i64 f.1, .bool f.2.1.1, s', .bool f.2.2.1, u'] := by rw [← hG]; simp
  have hx := Ext.refl H
  clear hG
  (try replace b0 := hx2.blk b0); (try replace b1 := hx2.blk b1); (try replace hx := hx.trans hx2); (try replace k0 := k0.mono hx2); (try replace k1 := k1.mono hx2); (try replace k2 := k2.mono hx2); (try replace k3 := k3.mono hx2); (try replace k4 := k4.mono hx2); (try replace k5 := k5.mono hx2)
  refine W_draw ?_
  simp [r_53_1, h0, b0]
  refine (ext_right_does k0 (by have := hx.1; omega) hn).mono ?_
  rintro _ G2 ⟨⟨s1, s2, rfl, k2, k3⟩, hx2⟩
  (try replace b0 := hx2.blk b0); (try replace b1 := hx2.blk b1); (try replace hx := hx.trans hx2); (try replace k0 := k0.mono hx2); (try replace k1 := k1.mono hx2); (try replace k2 := k2.mono hx2); (try replace k3 := k3.mono hx2); (try replace k4 := k4.mono hx2); (try replace k5 := k5.mono hx2)
  simp [h0, b1]
  refine (ext_right_does k1 hx.1 hm).mono ?_
  rintro _ G2 ⟨⟨s3, s4, rfl, k4, k5⟩, hx2⟩
  (try replace b0 := hx2.blk b0); (try replace b1 := hx2.blk b1); (try replace hx := hx.trans hx2); (try replace k0 := k0.mono hx2); (try replace k1 := k1.mono hx2); (try replace k2 := k2.mono hx2); (try replace k3 := k3.mono hx2); (try replace k4 := k4.mono hx2); (try replace k5 := k5.mono hx2)
  clear k0 k1
  have hz0 := blk_lt b0
  simp [h0, b0, k2.cells, k2.plain, k3.cells, k3.plain, hz0]
  generalize hS : Array.setIfInBounds _ _ _ = G3
  have hsz := hx.1; (try replace k0 := k0.setS hS b0 (by decide)); (try replace k1 := k1.setS hS b0 (by decide)); (try replace k2 := k2.setS hS b0 (by decide)); (try replace k3 := k3.setS hS b0 (by decide)); (try replace k4 := k4.setS hS b0 (by decide)); (try replace k5 := k5.setS hS b0 (by decide)); (try replace b1 := set_keep hS b1 (by omega)); (try replace hx := set_ext hS hx (by omega)); replace b0 := set_new hS b0; clear hS hsz
  have hz0 := blk_lt b1
  simp [b1, k4.cells, k4.plain, k5.cells, k5.plain, hz0]
  generalize hS : Array.setIfInBounds _ _ _ = G3
  have hsz := hx.1; (try replace k0 := k0.setS hS b1 (by decide)); (try replace k1 := k1.setS hS b1 (by decide)); (try replace k2 := k2.setS hS b1 (by decide)); (try replace k3 := k3.setS hS b1 (by decide)); (try replace k4 := k4.setS hS b1 (by decide)); (try replace k5 := k5.setS hS b1 (by decide)); (try replace b0 := set_keep hS b0 (by omega)); (try replace hx := set_ext hS hx (by omega)); replace b1 := set_new hS b1; clear hS hsz
  obtain ⟨x, hxv⟩ : ∃ x, x = valE e := ⟨_, rfl⟩
  obtain ⟨y, hyv⟩ : ∃ y, y = valE f := ⟨_, rfl⟩
  rw [← hxv] at l1 k2 k3 b0 ⊢
  rw [← hyv] at l2 k4 k5 b1 ⊢
  have kx : (canonE x).1 = x.1 := by unfold canonE; split <;> simp_all
  have ky : (canonE y).1 = y.1 := by unfold canonE; split <;> simp_all
  rw [kx] at b0
  rw [ky] at b1
  unfold cmpE
  simp [r_53_2, h0, b0, b1]
  by_cases h1 : x.1 < y.1
  · have h1' : ¬ y.1 ≤ x.1 := by omega
    simp [h1, h1', r_53_3]
  · by_cases h2 : y.1 < x.1
    · have h2' : ¬ x.1 ≤ y.1 := by omega
      have h1' : y.1 ≤ x.1 := by omega
      simp [h1, h1', h2, h2', r_53_4, r_53_5, h0, b0, b1]
    · by_cases h3 : x.1 = 0
      · have h4 : y.1 = 0 := by omega
        have kr : RatV _ (.agg #[.bool (canonE x).2.1.1, s1, .bool (canonE x).2.2.1, s2]) (canonE x).2 := ⟨s1, s2, rfl, k2, k3⟩
        have kq : RatV _ (.agg #[.bool (canonE y).2.1.1, s3, .bool (canonE y).2.2.1, s4]) (canonE y).2 := ⟨s3, s4, rfl, k4, k5⟩
        simp [h1, h2, h3, h4, r_53_4, r_53_6, r_53_8, h0, b0, b1]
        refine (rat_Cmp_does kr kq hx.1 (by omega) (by omega)).mono ?_
        rintro _ G2 ⟨rfl, hx2⟩
        have e1 : valR (canonE x).2 = x.2 := by unfold canonE; rw [if_pos h3]; exact valR_canon _
        have e2 : valR (canonE y).2 = y.2 := by unfold canonE; rw [if_pos h4]; exact valR_canon _
        simp [e1, e2]
      · have h4 : y.1 ≠ 0 := by omega
        simp [h1, h2, h3, h4, r_53_4, r_53_6, r_53_7, h0, b0, b1]


theorem ext_best_does {d : Bool} {g : FuncId} (h : ExtV H v e) (k : ExtV H w f) (hf : fl ≤ H.size)
    (hg : ∀ (fl : Nat) (G : Heap), Unit → fl ≤ G.size → ExtV G v e → ExtV G w f → Does env fl g [v, w] G (fun r H' => r = .bool d ∧ Ext G H') R) :
    Does env fl f_101 [v, w, .func (.func g) #[] #[]] H (fun r H' => ExtV H' r (if d = true then f else e) ∧ Ext H H') R := by
  have k0 := h
  have k1 := k
  obtain ⟨s, u, rfl, hs, hu⟩ := h
  obtain ⟨s', u', rfl, hs', hu'⟩ := k
  refine does_ext e_101 hf (h := ?_)
  intro ρ h0
  simp [s_101, r_101_0, h0]
  generalize hG : Array.push (Array.push (Array.push H _) _) _ = G
  have hx2 : Ext H G := by rw [← hG]; exact (Ext.refl H).push.push.push
  have b0 : Heap.blk G H.size = .row false T_api_Ext [.int .i64 e.1, .bool e.2.1.1, s, .bool e.2.2.1, u] := by rw [← hG]; simp
  have b1 : Heap.blk G (H.size + 1) = .row false T_api_Ext [.int .i64 f.1, .bool f.2.1.1, s', .bool f.2.2.1, u'] := by rw [← hG]; simp
  have b2 : Heap.blk G (H.size + 2) = .row false T_api_Ext [.int .i64 0, .bool false, .slice none 0 0, .bool false, .slice none 0 0] := by rw [← hG]; simp
  have hx := Ext.refl H
  clear hG
  (try replace b0 := hx2.blk b0); (try replace b1 := hx2.blk b1); (try replace b2 := hx2.blk b2); (try replace hx := hx.trans hx2); (try replace k0 := k0.mono hx2); (try replace k1 := k1.mono hx2); (try replace k2 := k2.mono hx2); (try replace k3 := k3.mono hx2); (try replace k4 := k4.mono hx2); (try replace k5 := k5.mono hx2)
  simp [r_101_1, h0, b0, b1]
  refine (hg _ _ () hx.1 k0 k1).mono ?_
  rintro _ G2 ⟨rfl, hx2⟩
  have k2 := hs.mono (hx.trans hx2)
  have k3 := hu.mono (hx.trans hx2)
  have k4 := hs'.mono (hx.trans hx2)
  have k5 := hu'.mono (hx.trans hx2)
  replace b1 := hx2.blk b1
  replace b0 := hx2.blk b0
  replace b2 := hx2.blk b2
  have hz := blk_lt b2
  cases d
  · simp [r_101_3, h0, b0, b1, b2, hz, k2.cells, k2.plain, k3.cells, k3.plain]
    exact fun _ => ⟨s, u, rfl, k2.setT b2 (by decide), k3.setT b2 (by decide)⟩
  · simp [r_101_2, h0, b0, b1, b2, hz, k4.cells, k4.plain, k5.cells, k5.plain]
    exact fun _ => ⟨s', u', rfl, k4.setT b2 (by decide), k5.setT b2 (by decide)⟩

theorem ext_Max_1_does (h : ExtV H v e) (k : ExtV H w f) (hf : fl ≤ H.size) (hn : lenR e.2 < 67108864) (hm : lenR f.2 < 67108864) : Does env fl f_102 [v, w] H (fun r H' => r = .bool (decide (cmpE (valE e) (valE f) < 0)) ∧ Ext H H') R := by
  have k0 := h
  have k1 := k
  obtain ⟨s, u, rfl, hs, hu⟩ := h
  obtain ⟨s', u', rfl, hs', hu'⟩ := k
  refine does_ext e_102 hf (h := ?_)
  intro ρ h0
  simp [s_102, r_102_0, h0]
  generalize hG : Array.push (Array.push H _) _ = G
  have hx2 : Ext H G := by rw [← hG]; exact (Ext.refl H).push.push
  have b0 : Heap.blk G H.size = .row false T_api_Ext [.int .i64 e.1, .bool e.2.1.1, s, .bool e.2.2.1, u] := by rw [← hG]; simp
  have b1 : Heap.blk G (H.size + 1) = .row false T_api_Ext [.int .i64 f.1, .bool f.2.1.1, s', .bool f.2.2.1, u'] := by rw [← hG]; simp
  have hx := Ext.refl H
  clear hG
  (try replace b0 := hx2.blk b0); (try replace b1 := hx2.blk b1); (try replace hx := hx.trans hx2); (try replace k0 := k0.mono hx2); (try replace k1 := k1.mono hx2)
  simp [r_102_1, h0, b0, b1]
  refine (ext_Cmp_does k0 k1 hx.1 hn hm).mono ?_
  rintro _ G2 ⟨rfl, hx2⟩
  simp

theorem ext_Max_does (h : ExtV H v e) (k : ExtV H w f) (hf : fl ≤ H.size) (hn : lenR e.2 < 67108864) (hm : lenR f.2 < 67108864) : Does env fl f_69 [v, w] H (fun r H' => ExtV H' r (canonE (if cmpE (valE e) (valE f) < 0 then valE f else valE e)) ∧ Ext H H') R := by
  have k0 := h
  have k1 := k
  obtain ⟨s, u, rfl, hs, hu⟩ := h
  obtain ⟨s', u', rfl, hs', hu'⟩ := k
  refine does_ext e_69 hf (h := ?_)
  intro ρ h0
  simp [s_69, r_69_0, h0]
  generalize hG : Array.push (Array.push (Array.push H _) _) _ = G
  have hx2 : Ext H G := by rw [← hG]; exact (Ext.refl H).push.push.push
  have b0 : Heap.blk G H.size = .row false T_api_Ext [.int .i64 e.1, .bool e.2.1.1, s, .bool e.2.2.1, u] := by rw [← hG]; simp
  have b1 : Heap.blk G (H.size + 1) = .row false T_api_Ext [.int .i64 f.1, .bool f.2.1.1, s', .bool f.2.2.1, u'] := by rw [← hG]; simp
  have b2 : Heap.blk G (H.size + 2) = .row false T_api_Ext [.int .i64 0, .bool false, .slice none 0 0, .bool false, .slice none 0 0] := by rw [← hG]; simp
  have hx := Ext.refl H
  clear hG
  (try replace b0 := hx2.blk b0); (try replace b1 := hx2.blk b1); (try replace b2 := hx2.blk b2); (try replace hx := hx.trans hx2); (try replace k0 := k0.mono hx2); (try replace k1 := k1.mono hx2); (try replace k2 := k2.mono hx2); (try replace k3 := k3.mono hx2); (try replace k4 := k4.mono hx2)
  simp [r_69_1, h0, b0, b1]
  refine (ext_best_does (d := decide (cmpE (valE e) (valE f) < 0)) (g := f_102) k0 k1 hx.1 (fun fl G x hf h k => ext_Max_1_does h k hf hn hm)).mono ?_
  rintro _ G2 ⟨k2, hx2⟩
  (try replace b0 := hx2.blk b0); (try replace b1 := hx2.blk b1); (try replace b2 := hx2.blk b2); (try replace hx := hx.trans hx2); (try replace k0 := k0.mono hx2); (try replace k1 := k1.mono hx2); (try replace k2 := k2.mono hx2); (try replace k3 := k3.mono hx2); (try replace k4 := k4.mono hx2)
  simp [h0]
  refine (ext_right_does (e := if decide (cmpE (valE e) (valE f) < 0) = true then f else e) k2 hx.1 (by split <;> assumption)).mono ?_
  rintro _ G2 ⟨⟨s1, s2, rfl, k3, k4⟩, hx2⟩
  (try replace b0 := hx2.blk b0); (try replace b1 := hx2.blk b1); (try replace b2 := hx2.blk b2); (try replace hx := hx.trans hx2); (try replace k0 := k0.mono hx2); (try replace k1 := k1.mono hx2); (try replace k2 := k2.mono hx2); (try replace k3 := k3.mono hx2); (try replace k4 := k4.mono hx2)
  have hz := blk_lt b2
  simp [h0, b2, k3.cells, k3.plain, k4.cells, k4.plain, hz]
  refine fun _ => ⟨s1, s2, ?_, ?_, ?_⟩
  · by_cases hd : cmpE (valE e) (valE f) < 0 <;> simp [hd]
  · have := k3.setT (r := .row false T_api_Ext [.int .i64 (canonE (valE (if cmpE (valE e) (valE f) < 0 then f else e))).1, .bool (canonE (valE (if cmpE (valE e) (valE f) < 0 then f else e))).2.1.1, s1, .bool (canonE (valE (if cmpE (valE e) (valE f) < 0 then f else e))).2.2.1, s2]) b2 (by decide)
    by_cases hd : cmpE (valE e) (valE f) < 0 <;> simpa [hd] using this
  · have := k4.setT (r := .row false T_api_Ext [.int .i64 (canonE (valE (if cmpE (valE e) (valE f) < 0 then f else e))).1, .bool (canonE (valE (if cmpE (valE e) (valE f) < 0 then f else e))).2.1.1, s1, .bool (canonE (valE (if cmpE (valE e) (valE f) < 0 then f else e))).2.2.1, s2]) b2 (by decide)
    by_cases hd : cmpE (valE e) (valE f) < 0 <;> simpa [hd] using this
theorem ext_Min_1_does (h : ExtV H v e) (k : ExtV H w f) (hf : fl ≤ H.size) (hn : lenR e.2 < 67108864) (hm : lenR f.2 < 67108864) : Does env fl f_103 [v, w] H (fun r H' => r = .bool (decide (0 < cmpE (valE e) (valE f))) ∧ Ext H H') R := by
  have k0 := h
  have k1 := k
  obtain ⟨s, u, rfl, hs, hu⟩ := h
  obtain ⟨s', u', rfl, hs', hu'⟩ := k
  refine does_ext e_103 hf (h := ?_)
  intro ρ h0
  simp [s_103, r_103_0, h0]
  generalize hG : Array.push (Array.push H _) _ = G
  have hx2 : Ext H G := by rw [← hG]; exact (Ext.refl H).push.push
  have b0 : Heap.blk G H.size = .row false T_api_Ext [.int .i64 e.1, .bool e.2.1.1, s, .bool e.2.2.1, u] := by rw [← hG]; simp
  have b1 : Heap.blk G (H.size + 1) = .row false T_api_Ext [.int .i64 f.1, .bool f.2.1.1, s', .bool f.2.2.1, u'] := by rw [← hG]; simp
  have hx := Ext.refl H
  clear hG
  (try replace b0 := hx2.blk b0); (try replace b1 := hx2.blk b1); (try replace hx := hx.trans hx2); (try replace k0 := k0.mono hx2); (try replace k1 := k1.mono hx2)
  simp [r_103_1, h0, b0, b1]
  refine (ext_Cmp_does k0 k1 hx.1 hn hm).mono ?_
  rintro _ G2 ⟨rfl, hx2⟩
  simp

theorem ext_Min_does (h : ExtV H v e) (k : ExtV H w f) (hf : fl ≤ H.size) (hn : lenR e.2 < 67108864) (hm : lenR f.2 < 67108864) : Does env fl f_71 [v, w] H (fun r H' => ExtV H' r (canonE (if 0 < cmpE (valE e) (valE f) then valE f else valE e)) ∧ Ext H H') R := by
  have k0 := h
  have k1 := k
  obtain ⟨s, u, rfl, hs, hu⟩ := h
  obtain ⟨s', u', rfl, hs', hu'⟩ := k
  refine does_ext e_71 hf (h := ?_)
  intro ρ h0
  simp [s_71, r_71_0, h0]
  generalize hG : Array.push (Array.push (Array.push H _) _) _ = G
  have hx2 : Ext H G := by rw [← hG]; exact (Ext.refl H).push.push.push
  have b0 : Heap.blk G H.size = .row false T_api_Ext [.int .i64 e.1, .bool e.2.1.1, s, .bool e.2.2.1, u] := by rw [← hG]; simp
  have b1 : Heap.blk G (H.size + 1) = .row false T_api_Ext [.int .i64 f.1, .bool f.2.1.1, s', .bool f.2.2.1, u'] := by rw [← hG]; simp
  have b2 : Heap.blk G (H.size + 2) = .row false T_api_Ext [.int .i64 0, .bool false, .slice none 0 0, .bool false, .slice none 0 0] := by rw [← hG]; simp
  have hx := Ext.refl H
  clear hG
  (try replace b0 := hx2.blk b0); (try replace b1 := hx2.blk b1); (try replace b2 := hx2.blk b2); (try replace hx := hx.trans hx2); (try replace k0 := k0.mono hx2); (try replace k1 := k1.mono hx2); (try replace k2 := k2.mono hx2); (try replace k3 := k3.mono hx2); (try replace k4 := k4.mono hx2)
  simp [r_71_1, h0, b0, b1]
  refine (ext_best_does (d := decide (0 < cmpE (valE e) (valE f))) (g := f_103) k0 k1 hx.1 (fun fl G x hf h k => ext_Min_1_does h k hf hn hm)).mono ?_
  rintro _ G2 ⟨k2, hx2⟩
  (try replace b0 := hx2.blk b0); (try replace b1 := hx2.blk b1); (try replace b2 := hx2.blk b2); (try replace hx := hx.trans hx2); (try replace k0 := k0.mono hx2); (try replace k1 := k1.mono hx2); (try replace k2 := k2.mono hx2); (try replace k3 := k3.mono hx2); (try replace k4 := k4.mono hx2)
  simp [h0]
  refine (ext_right_does (e := if decide (0 < cmpE (valE e) (valE f)) = true then f else e) k2 hx.1 (by split <;> assumption)).mono ?_
  rintro _ G2 ⟨⟨s1, s2, rfl, k3, k4⟩, hx2⟩
  (try replace b0 := hx2.blk b0); (try replace b1 := hx2.blk b1); (try replace b2 := hx2.blk b2); (try replace hx := hx.trans hx2); (try replace k0 := k0.mono hx2); (try replace k1 := k1.mono hx2); (try replace k2 := k2.mono hx2); (try replace k3 := k3.mono hx2); (try replace k4 := k4.mono hx2)
  have hz := blk_lt b2
  simp [h0, b2, k3.cells, k3.plain, k4.cells, k4.plain, hz]
  refine fun _ => ⟨s1, s2, ?_, ?_, ?_⟩
  · by_cases hd : 0 < cmpE (valE e) (valE f) <;> simp [hd]
  · have := k3.setT (r := .row false T_api_Ext [.int .i64 (canonE (valE (if 0 < cmpE (valE e) (valE f) then f else e))).1, .bool (canonE (valE (if 0 < cmpE (valE e) (valE f) then f else e))).2.1.1, s1, .bool (canonE (valE (if 0 < cmpE (valE e) (valE f) then f else e))).2.2.1, s2]) b2 (by decide)
    by_cases hd : 0 < cmpE (valE e) (valE f) <;> simpa [hd] using this
  · have := k4.setT (r := .row false T_api_Ext [.int .i64 (canonE (valE (if 0 < cmpE (valE e) (valE f) then f else e))).1, .bool (canonE (valE (if 0 < cmpE (valE e) (valE f) then f else e))).2.1.1, s1, .bool (canonE (valE (if 0 < cmpE (valE e) (valE f) then f else e))).2.2.1, s2]) b2 (by decide)
    by_cases hd : 0 < cmpE (valE e) (valE f) <;> simpa [hd] using this
end Go.Proofs.YtjlohmnnldbjoaaGreat.AI

/- Loops that count; slices of what has a shape. -/
namespace Go.Proofs.YtjlohmnnldbjoaaGreat.AI
open Go

/-- what is so where a round ends. -/
def forQ (b2 b : Nat) (A : Tmps → Heap → Prop) (Z : Tmps → Heap → Prop) (Q : PostX) : PostX
  | .normal, t, H => A t H
  | .exit j, t, H => if j = b2 then A t H else if j = b then Z t H else Q (.exit j) t H
  | .ret, t, H => Q .ret t H
section
variable {b2 b : Nat} {A Z : Tmps → Heap → Prop} {Q : PostX} {t : Tmps} {H : Heap}
@[simp] theorem forQ_normal : forQ b2 b A Z Q .normal t H = A t H := nr rfl
@[simp] theorem forQ_exit {j : Nat} : forQ b2 b A Z Q (.exit j) t H = if j = b2 then A t H else if j = b then Z t H else Q (.exit j) t H := nr rfl
@[simp] theorem forQ_ret : forQ b2 b A Z Q .ret t H = Q .ret t H := nr rfl
end

/-- behind a round. -/
def Rnd (nt ti tn n i : Nat) (Inv : Nat → (Nat → Value) → Heap → Prop) (t : Tmps) (H : Heap) : Prop :=
  ∃ ρ, t = T nt ρ ∧ ρ ti = .int .i64 (i : Int) ∧ ρ tn = .int .i64 (n : Int) ∧ Inv (i + 1) ρ H
theorem Rnd.mk {nt ti tn n i : Nat} {Inv : Nat → (Nat → Value) → Heap → Prop} {ρ : Nat → Value} {H : Heap} (h1 : ρ ti = .int .i64 (i : Int)) (h2 : ρ tn = .int .i64 (n : Int)) (h3 : Inv (i + 1) ρ H) : Rnd nt ti tn n i Inv (T nt ρ) H := ⟨ρ, rfl, h1, h2, h3⟩

theorem W_for {E : Env} {fl nt ti tn tc tx b b2 n : Nat} {body : SCode} {Z : Tmps → Heap → Prop} {Q : PostX} {R : PostP} {ρ : Nat → Value} {H : Heap} {rc rx : List SOper} (Inv : Nat → (Nat → Value) → Heap → Prop)
    (hrc : rc = [⟨some tc, none, .bin 0 .lss (.tmp ti) (.tmp tn)⟩]) (hrx : rx = [⟨some tx, none, .bin 0 .add (.tmp ti) (.const (.int .i64 1))⟩, ⟨some ti, none, .mv (.tmp tx)⟩])
    (hl : ti < nt ∧ tn < nt ∧ tc < nt ∧ tx < nt ∧ tc ≠ ti ∧ tc ≠ tn ∧ tx ≠ ti ∧ tx ≠ tn ∧ ti ≠ tn) (hn : n < 4611686018427387904)
    (h0 : ρ ti = .int .i64 0) (hN : ρ tn = .int .i64 (n : Int)) (hI : Inv 0 ρ H)
    (stab : ∀ i (ρ ρ' : Nat → Value) H, (∀ k, k ≠ tc → k ≠ tx → k ≠ ti → ρ' k = ρ k) → Inv i ρ H → Inv i ρ' H)
    (step : ∀ i ρ H, i < n → ρ ti = .int .i64 (i : Int) → ρ tn = .int .i64 (n : Int) → Inv i ρ H → W E fl body (T nt ρ) H (forQ b2 b (Rnd nt ti tn n i Inv) Z Q) R)
    (rest : ∀ ρ H, ρ ti = .int .i64 (n : Int) → ρ tn = .int .i64 (n : Int) → Inv n ρ H → Z (T nt ρ) H) :
    W E fl (.loop (.seq (.reg rc) (.seq (.cond (.tmp tc) .skip (.exit b)) (.seq (.block b2 body) (.reg rx))))) (T nt ρ) H (blockW b (thenW Z Q)) R := by
  subst hrc hrx
  obtain ⟨l1, l2, l3, l4, n1, n2, n3, n4, n5⟩ := hl
  refine W_loopM (fun k t G => ∃ i ρ, i + k = n ∧ t = T nt ρ ∧ ρ ti = .int .i64 (i : Int) ∧ ρ tn = .int .i64 (n : Int) ∧ Inv i ρ G) Z n ?_ ?_ (fun _ _ h => h)
  · exact ⟨0, ρ, by omega, rfl, h0, hN, hI⟩
  · clear h0 hN hI ρ H
    rintro k t G ⟨i, ρ, hik, rfl, g1, g2, hI⟩
    have e9 : IntKind.i64.wrap ((i : Int) + 1) = ((i + 1 : Nat) : Int) := by rw [wrap64 (by omega) (by omega)]; omega
    have hstab : ∀ v, Inv i (upd ρ tc v) G := fun v => stab i ρ _ G (fun k h1 _ _ => upd_ne (Ne.symm h1)) hI
    refine W_seq (W_reg ?_)
    simp only [WR_cons, WS_bin, ev_tmp, get_T l1, get_T l2, g1, g2, binA_lss, oo_some, WR_nil, thenW_normal, put_T]
    by_cases hi : i < n
    · have hs := step i (upd ρ tc (.bool true)) G hi (by rw [upd_ne n1]; exact g1) (by rw [upd_ne n2]; exact g2) (hstab _)
      have hd : decide ((i : Int) < (n : Int)) = true := by rw [decide_eq_true_eq]; omega
      rw [hd]
      refine W_seq (W_cond true (by rw [ev_tmp, get_T l3, upd_self]) (fun _ => W_skip ?_) (by simp))
      refine W_seq (W_block ?_)
      have hfin : ∀ t' H', Rnd nt ti tn n i Inv t' H' → WR E fl [⟨some tx, none, .bin 0 .add (.tmp ti) (.const (.int .i64 1))⟩, ⟨some ti, none, .mv (.tmp tx)⟩] t' H' (fun t' H' => ∃ k', k' < k ∧ ∃ i ρ, i + k' = n ∧ t' = T nt ρ ∧ ρ ti = .int .i64 (i : Int) ∧ ρ tn = .int .i64 (n : Int) ∧ Inv i ρ H') R := by
        rintro t' H' ⟨ρ', rfl, q1, q2, q3⟩
        simp only [WR_cons, WS_bin, WS_mv, ev_tmp, ev_const, get_T l1, q1, binA_add, e9, oo_some, WR_nil, put_T, get_T l4, upd_self]
        refine ⟨k - 1, by omega, i + 1, _, by omega, rfl, upd_self, ?_, ?_⟩
        · rw [upd_ne n5, upd_ne n4]; exact q2
        · exact stab (i + 1) ρ' _ H' (fun k h1 h2 h3 => by rw [upd_ne (Ne.symm h3), upd_ne (Ne.symm h2)]) q3
      refine hs.mono fun e t' H' hq => ?_
      cases e with
      | normal => exact W_reg (hfin _ _ hq)
      | exit j =>
        simp only [forQ] at hq
        show (if j = b2 then _ else _)
        by_cases hj : j = b2
        · rw [if_pos hj] at hq ⊢; exact W_reg (hfin _ _ hq)
        · rw [if_neg hj] at hq ⊢
          show (if j = b then _ else _)
          by_cases hj2 : j = b
          · rw [if_pos hj2] at hq ⊢; exact hq
          · rw [if_neg hj2] at hq ⊢; exact hq
      | ret => exact hq
    · have : i = n := by omega
      subst this
      have hd : decide ((i : Int) < (i : Int)) = false := by simp
      rw [hd]
      refine W_seq (W_cond false (by rw [ev_tmp, get_T l3, upd_self]) (by simp) (fun _ => W_exit ?_))
      show (if b = b then _ else _)
      rw [if_pos rfl]
      exact rest _ _ (by rw [upd_ne n1]; exact g1) (by rw [upd_ne n2]; exact g2) (hstab _)

theorem thenW_same {Q : PostX} : thenW (fun t H => Q .normal t H) Q = Q := by
  funext e t H; cases e <;> rfl
/-- a loop behind which nothing stands. -/
theorem W_forE {E : Env} {fl nt ti tn tc tx b b2 n : Nat} {body : SCode} {Q : PostX} {R : PostP} {ρ : Nat → Value} {H : Heap} {rc rx : List SOper} (Inv : Nat → (Nat → Value) → Heap → Prop)
    (hrc : rc = [⟨some tc, none, .bin 0 .lss (.tmp ti) (.tmp tn)⟩]) (hrx : rx = [⟨some tx, none, .bin 0 .add (.tmp ti) (.const (.int .i64 1))⟩, ⟨some ti, none, .mv (.tmp tx)⟩])
    (hl : ti < nt ∧ tn < nt ∧ tc < nt ∧ tx < nt ∧ tc ≠ ti ∧ tc ≠ tn ∧ tx ≠ ti ∧ tx ≠ tn ∧ ti ≠ tn) (hn : n < 4611686018427387904)
    (h0 : ρ ti = .int .i64 0) (hN : ρ tn = .int .i64 (n : Int)) (hI : Inv 0 ρ H)
    (stab : ∀ i (ρ ρ' : Nat → Value) H, (∀ k, k ≠ tc → k ≠ tx → k ≠ ti → ρ' k = ρ k) → Inv i ρ H → Inv i ρ' H)
    (step : ∀ i ρ H, i < n → ρ ti = .int .i64 (i : Int) → ρ tn = .int .i64 (n : Int) → Inv i ρ H → W E fl body (T nt ρ) H (forQ b2 b (Rnd nt ti tn n i Inv) (fun t H => Q .normal t H) Q) R)
    (rest : ∀ ρ H, ρ ti = .int .i64 (n : Int) → ρ tn = .int .i64 (n : Int) → Inv n ρ H → Q .normal (T nt ρ) H) :
    W E fl (.loop (.seq (.reg rc) (.seq (.cond (.tmp tc) .skip (.exit b)) (.seq (.block b2 body) (.reg rx))))) (T nt ρ) H (blockW b Q) R := by
  rw [← thenW_same (Q := Q)]
  exact W_for (Z := fun t H => Q .normal t H) (Q := Q) Inv hrc hrx hl hn h0 hN hI stab step rest

/-! ### slices of what has a shape -/
/-- v is a slice of elements, each of sz cells that say what stands in l. -/
def Sls {α : Type} (P : Heap → List Value → α → Prop) (H : Heap) (e sz : Nat) (v : Value) (l : List α) : Prop :=
  ∃ cs, Sl H e sz v l.length cs ∧ ∀ k (h : k < l.length), P H ((cs.drop (k * sz)).take sz) l[k]
def MonoP {α : Type} (P : Heap → List Value → α → Prop) : Prop := ∀ H G cs x, Ext H G → P H cs x → P G cs x
section
variable {α : Type} {P : Heap → List Value → α → Prop} {H G : Heap} {e sz : Nat} {v : Value} {l : List α}
theorem Sls.mono (hP : MonoP P) (h : Sls P H e sz v l) (hx : Ext H G) : Sls P G e sz v l := by
  obtain ⟨cs, h1, h2⟩ := h; exact ⟨cs, h1.mono hx, fun k hk => hP _ _ _ _ hx (h2 k hk)⟩
theorem Sls.slen (h : Sls P H e sz v l) : slenV v = some (.int .i64 l.length) := by obtain ⟨cs, h1, _⟩ := h; exact h1.slen
theorem Sls.ia (h : Sls P H e sz v l) {k : IntKind} {j : Nat} (hj : j < l.length) : iaV sz v (.int k j) = some (adr sz v j) := by obtain ⟨cs, h1, _⟩ := h; exact h1.ia hj
theorem Sls.load (h : Sls P H e sz v l) {j : Nat} (hj : j < l.length) (hs : 0 < sz) : ∃ cs, loadA H true sz (adr sz v j) = some (.agg cs.toArray) ∧ cs.length = sz ∧ P H cs l[j] := by
  obtain ⟨cs, h1, h2⟩ := h
  refine ⟨_, h1.load (Ext.refl H) hj hs, ?_, h2 j hj⟩
  have := h1.1
  have : (j + 1) * sz ≤ l.length * sz := Nat.mul_le_mul_right _ hj
  rw [Nat.add_mul, Nat.one_mul] at this
  simp; omega
theorem Sls.load1 (h : Sls P H e 1 v l) {j : Nat} (hj : j < l.length) : ∃ w, loadA H false 1 (adr 1 v j) = some w ∧ P H [w] l[j] := by
  obtain ⟨cs, h1, h2⟩ := h
  refine ⟨_, h1.load1 (Ext.refl H) hj, ?_⟩
  have h3 := h2 j hj
  have hl := h1.1
  have : (cs.drop (j * 1)).take 1 = [cs.getD j undef] := by
    have hjc : j < cs.length := by omega
    have e1 : cs.getD j undef = cs[j] := by simp [List.getD_eq_getElem?_getD, hjc]
    rw [Nat.mul_one, List.drop_eq_getElem_cons hjc, e1]; rfl
  rw [this] at h3; exact h3
theorem Sls.cells (h : Sls P H e sz v l) : cellsL v = [v] := by obtain ⟨cs, h1, _⟩ := h; exact h1.cells
theorem Sls.plain (h : Sls P H e sz v l) : plainCell v = true := by obtain ⟨cs, h1, _⟩ := h; exact h1.plain
theorem Sls.nil : Sls P H e sz (.slice none 0 0) ([] : List α) := ⟨[], Sl.nil, fun k hk => by simp at hk⟩
end

/-- such a slice that is all of a block of one's own. -/
def Owns {α : Type} (P : Heap → List Value → α → Prop) (fl : Nat) (H : Heap) (e sz : Nat) (v : Value) (l : List α) : Prop :=
  ∃ cs, Own fl H e sz v l.length cs ∧ ∀ k (h : k < l.length), P H ((cs.drop (k * sz)).take sz) l[k]
section
variable {α : Type} {P : Heap → List Value → α → Prop} {H G : Heap} {fl e sz : Nat} {v : Value} {l : List α}
theorem Owns.sls (h : Owns P fl H e sz v l) : Sls P H e sz v l := by obtain ⟨cs, h1, h2⟩ := h; exact ⟨cs, h1.sl, h2⟩
theorem Owns.mono (hP : MonoP P) (h : Owns P fl H e sz v l) (hx : Ext H G) : Owns P fl G e sz v l := by
  obtain ⟨cs, h1, h2⟩ := h; exact ⟨cs, h1.mono hx, fun k hk => hP _ _ _ _ hx (h2 k hk)⟩
theorem Owns.nil : Owns P fl H e sz (.slice none 0 0) ([] : List α) := ⟨[], Own.nil, fun k hk => by simp at hk⟩
theorem Owns.slen (h : Owns P fl H e sz v l) : slenV v = some (.int .i64 l.length) := h.sls.slen

/-- limbs stay. -/
def Lx (H G : Heap) : Prop := ∀ b ro cs, H.blk b = .row ro T_uint32 cs → G.blk b = .row ro T_uint32 cs
theorem Owns.lx (h : Owns P fl G e sz v l) (he : e ≠ T_uint32) {G' : Heap} (hx : ExtB (slB v) G G') : Lx G G' := by
  intro b ro cs hb
  obtain ⟨cs', ⟨hl, ⟨rfl, _⟩ | ⟨p, cap, rfl, hp, _⟩⟩, _⟩ := h
  · rw [hx.2 b (blk_lt hb) (by simp [slB])]; exact hb
  · rw [hx.2 b (blk_lt hb) (by simp [slB]; rintro rfl; rw [hp] at hb; cases hb; exact he rfl)]; exact hb
/-- one element more, by a literal. -/
theorem Owns.app (he : e ≠ T_uint32) (hO : ∀ G' cs x, ExtB (slB v) G G' → Lx G G' → P G cs x → P G' cs x) (h : Owns P fl G e sz v l) {e2 c bytes : Nat} {new : List Value} {x : α} (hx : P G new x) (hl : new.length = sz) (hp : new.all plainCell = true) (hn : l.length < 1073741824) (hb : bytes ≤ 1024) (hs : 0 < sz) (hfl : fl ≤ G.size) :
    ∃ v' G', appA fl (G.push (.row false e2 new)) e sz bytes v (.slice (some ⟨G.size, 0, none⟩) 1 c) = some (v', G') ∧ Owns P fl G' e sz v' (l ++ [x]) ∧ ExtB (slB v) G G' ∧ (∀ H0, H0.size ≤ fl → Ext H0 G → Ext H0 G') := by
  obtain ⟨cs, h1, h2⟩ := h
  obtain ⟨v', G', a1, a2, a3, a4⟩ := app_lit (e2 := e2) (c := c) h1 hl hp hn hb hs hfl (bytes := bytes)
  refine ⟨v', G', a1, ⟨cs ++ new, by simpa using a2, fun k hk => ?_⟩, a3, a4⟩
  have hcs := h1.1
  by_cases hkl : k < l.length
  · have h3 : (k + 1) * sz ≤ l.length * sz := Nat.mul_le_mul_right _ hkl
    rw [Nat.add_mul, Nat.one_mul] at h3
    rw [List.getElem_append_left hkl, List.drop_append_of_le_length (by omega), List.take_append_of_le_length (by simp; omega)]
    exact hO _ _ _ a3 (Owns.lx ⟨cs, h1, h2⟩ he a3) (h2 k hkl)
  · have hke : k = l.length := by simp at hk; omega
    subst hke
    rw [List.getElem_append_right (Nat.le_refl _), List.drop_append_of_le_length (by omega), List.drop_eq_nil_of_le (by omega), List.nil_append, ← hl, List.take_length]
    simpa using hO _ _ _ a3 (Owns.lx ⟨cs, h1, h2⟩ he a3) hx
end

theorem Lim.lx {H G : Heap} {v : Value} {l : List Nat} (h : Lim H v l) (hx : Lx H G) : Lim G v l := by
  obtain ⟨⟨hl, h1 | ⟨b, off, cap, ro, cells, rfl, hb, ho, hcs⟩⟩, h2⟩ := h
  · exact ⟨⟨hl, .inl h1⟩, h2⟩
  · exact ⟨⟨hl, .inr ⟨b, off, cap, ro, cells, rfl, hx _ _ _ hb, ho, hcs⟩⟩, h2⟩
theorem RatV.lx {H G : Heap} {v : Value} {a : RawR} (h : RatV H v a) (hx : Lx H G) : RatV G v a := by obtain ⟨s, u, h1, h2, h3⟩ := h; exact ⟨s, u, h1, h2.lx hx, h3.lx hx⟩
theorem ExtV.lx {H G : Heap} {v : Value} {e : RawE} (h : ExtV H v e) (hx : Lx H G) : ExtV G v e := by obtain ⟨s, u, h1, h2, h3⟩ := h; exact ⟨s, u, h1, h2.lx hx, h3.lx hx⟩

end Go.Proofs.YtjlohmnnldbjoaaGreat.AI

/- Rows of quotients; vec.Dot. -/
namespace Go.Proofs.YtjlohmnnldbjoaaGreat.AI
open Go
set_option maxHeartbeats 4000000

variable {fl : Nat} {H G : Heap} {R : PostP} {v w : Value}

def PR (H : Heap) (cs : List Value) (a : RawR) : Prop := RatV H (.agg cs.toArray) a
def PE (H : Heap) (cs : List Value) (e : RawE) : Prop := ExtV H (.agg cs.toArray) e
theorem monoPR : MonoP PR := fun _ _ _ _ hx h => RatV.mono h hx
theorem monoPE : MonoP PE := fun _ _ _ _ hx h => ExtV.mono h hx
/-- rows of quotients, of ends, of rows. -/
abbrev RatsV (H : Heap) (v : Value) (l : List RawR) : Prop := Sls PR H T_api_Rat 4 v l
abbrev ExtsV (H : Heap) (v : Value) (l : List RawE) : Prop := Sls PE H T_api_Ext 5 v l
def PS (H : Heap) (cs : List Value) (l : List RawR) : Prop := ∃ v, cs = [v] ∧ RatsV H v l
theorem monoPS : MonoP PS := fun _ _ _ _ hx ⟨v, h1, h2⟩ => ⟨v, h1, h2.mono monoPR hx⟩
abbrev RowsV (H : Heap) (v : Value) (l : List (List RawR)) : Prop := Sls PS H T_sl_api_Rat 1 v l

theorem RatsV.load {l : List RawR} (h : RatsV H v l) {j : Nat} (hj : j < l.length) : ∃ w, loadA H true 4 (adr 4 v j) = some w ∧ RatV H w l[j] := by
  obtain ⟨cs, h1, _, h3⟩ := Sls.load h hj (by omega); exact ⟨_, h1, h3⟩
theorem ExtsV.load {l : List RawE} (h : ExtsV H v l) {j : Nat} (hj : j < l.length) : ∃ w, loadA H true 5 (adr 5 v j) = some w ∧ ExtV H w l[j] := by
  obtain ⟨cs, h1, _, h3⟩ := Sls.load h hj (by omega); exact ⟨_, h1, h3⟩
theorem RowsV.load {l : List (List RawR)} (h : RowsV H v l) {j : Nat} (hj : j < l.length) : ∃ w, loadA H false 1 (adr 1 v j) = some w ∧ RatsV H w l[j] := by
  obtain ⟨w, h1, w', h2, h3⟩ := Sls.load1 h hj
  simp at h2; subst h2; exact ⟨_, h1, h3⟩

/-- the sum of the first products. -/
def dotR (a b : List RawR) : Nat → Rat
  | 0 => 0
  | n + 1 => dotR a b n + valR (a.getD n rawZ) * valR (b.getD n rawZ)

/-- quotients of so many limbs at most. -/
def Few (S : Nat) (l : List RawR) : Prop := ∀ x ∈ l, lenR x ≤ S ∧ LimOk x.1.2 ∧ LimOk x.2.2
theorem Few.sz {S : Nat} {l : List RawR} (h : Few S l) (n : Nat) : szR (valR (l.getD n rawZ)) ≤ S + 1 := by
  rw [List.getD_eq_getElem?_getD]
  by_cases hn : n < l.length
  · rw [List.getElem?_eq_getElem hn]
    obtain ⟨h1, h2, h3⟩ := h _ (List.getElem_mem hn)
    have := szR_val h2 h3
    simp; omega
  · rw [List.getElem?_eq_none (by omega)]
    show szR (valR rawZ) ≤ _
    rw [valR_rawZ, szR_zero]; omega
theorem szR_dot {S : Nat} {a b : List RawR} (ha : Few S a) (hb : Few S b) : ∀ n, szR (dotR a b n) ≤ n * (2 * S + 3) + 1
  | 0 => by simp [dotR, szR_zero]
  | n + 1 => by
    have h1 := szR_dot ha hb n
    have h2 := szR_add (dotR a b n) (valR (a.getD n rawZ) * valR (b.getD n rawZ))
    have h3 := szR_mul (valR (a.getD n rawZ)) (valR (b.getD n rawZ))
    have h4 := ha.sz n
    have h5 := hb.sz n
    rw [dotR, Nat.add_mul]; omega

theorem vec_Dot_ne {a b : List RawR} (ha : RatsV H v a) (hb : RatsV H w b) (hf : fl ≤ H.size) (hne : a.length ≠ b.length) :
    Does env fl f_52 [v, w] H (fun r H' => (∃ q, r = .tuple #[q, .int .i64 1] ∧ RatV H' q rawZ) ∧ Ext H H') R := by
  refine does_ext e_52 hf (h := ?_)
  intro ρ h0
  have hne' : ¬ ((a.length : Int) = (b.length : Int)) := by omega
  simp [s_52, r_52_0, r_52_1, r_52_2, h0, ha.slen, hb.slen, hne, hne']
  exact ⟨_, _, rfl, Lim.nil, Lim.nil⟩

theorem vec_Dot_does {S : Nat} {a b : List RawR} (ha : RatsV H v a) (hb : RatsV H w b) (hf : fl ≤ H.size) (he : a.length = b.length) (hfa : Few S a) (hfb : Few S b) (hS : (a.length + 1) * (2 * S + 3) + 1 < 67108864) :
    Does env fl f_52 [v, w] H (fun r H' => (∃ q, r = .tuple #[q, .int .i64 0] ∧ RatV H' q (canonR (dotR a b a.length))) ∧ Ext H H') R := by
  refine does_ext e_52 hf (h := ?_)
  intro ρ h0
  have hal : a.length < 67108864 := by
    have : (a.length + 1) * 1 ≤ (a.length + 1) * (2 * S + 3) := Nat.mul_le_mul_left _ (by omega)
    omega
  have hSl : S < 33554432 := by
    have : 1 * (2 * S + 3) ≤ (a.length + 1) * (2 * S + 3) := Nat.mul_le_mul_right _ (by omega)
    omega
  have hne : (a.length == b.length) = true := by simpa using he
  simp [s_52, r_52_0, r_52_1, h0, ha.slen, hb.slen, he]
  generalize hG : Array.push H _ = G
  obtain ⟨hx2, b0⟩ := new0 hG
  have hx := Ext.refl H
  clear hG
  (try replace b0 := hx2.blk b0); (try replace b1 := hx2.blk b1); (try replace hx := hx.trans hx2); (try replace k0 := k0.mono hx2); (try replace k1 := k1.mono hx2); (try replace k2 := k2.mono hx2); (try replace k3 := k3.mono hx2); (try replace k4 := k4.mono hx2); (try replace k5 := k5.mono hx2); (try replace k6 := k6.mono hx2); (try replace k7 := k7.mono hx2)
  simp [r_52_3]
  refine (rat_Of_does (n := 0) hx.1 (by omega) (by omega)).mono ?_
  rintro _ G2 ⟨⟨s1, s2, rfl, k0, k1⟩, hx2⟩
  (try replace b0 := hx2.blk b0); (try replace b1 := hx2.blk b1); (try replace hx := hx.trans hx2); (try replace k0 := k0.mono hx2); (try replace k1 := k1.mono hx2); (try replace k2 := k2.mono hx2); (try replace k3 := k3.mono hx2); (try replace k4 := k4.mono hx2); (try replace k5 := k5.mono hx2); (try replace k6 := k6.mono hx2); (try replace k7 := k7.mono hx2)
  have hsz := hx.1
  simp [h0, k0.cells, k0.plain, k1.cells, k1.plain, hsz]
  generalize hN : Array.setIfInBounds (Array.push _ _) _ _ = G3
  obtain ⟨hx2, b1⟩ := new1 hN
  have hb0l := blk_lt b0
  clear hN
  (try replace b0 := hx2.blk b0); (try replace b1 := hx2.blk b1); (try replace hx := hx.trans hx2); (try replace k0 := k0.mono hx2); (try replace k1 := k1.mono hx2); (try replace k2 := k2.mono hx2); (try replace k3 := k3.mono hx2); (try replace k4 := k4.mono hx2); (try replace k5 := k5.mono hx2); (try replace k6 := k6.mono hx2); (try replace k7 := k7.mono hx2)
  obtain ⟨P, hP⟩ : ∃ P, P = G2.size := ⟨_, rfl⟩
  rw [← hP] at b1 hsz hb0l ⊢
  simp [r_52_4, h0, ha.slen]
  refine W_for (n := a.length) (fun i ρ G => ρ 0 = v ∧ ρ 1 = w ∧ ρ 4 = .pointer (some ⟨H.size, 0, none⟩) ∧ ρ 5 = .int .i64 0 ∧ ρ 6 = .pointer (some ⟨P, 0, none⟩) ∧ Ext H G ∧
      Heap.blk G H.size = .row false T_api_Rat [.bool false, .slice none 0 0, .bool false, .slice none 0 0] ∧
      ∃ s1 s2, Heap.blk G P = .row false T_api_Rat [.bool (canonR (dotR a b i)).1.1, s1, .bool (canonR (dotR a b i)).2.1, s2] ∧ Lim G s1 (canonR (dotR a b i)).1.2 ∧ Lim G s2 (canonR (dotR a b i)).2.2)
    rfl rfl (by decide) (by omega) (by simp) (by simp) ?_ ?_ ?_ ?_
  · exact ⟨by simp [h0], by simp [h0], by simp, by simp, by simp, hx, b0, s1, s2, b1, k0, k1⟩
  · intro i ρ ρ' G h hI; simpa [h] using hI
  · clear h0 ρ k0 k1 b0 b1 hx hx2
    rintro i ρ G hi gi gn ⟨g0, g1, g4, g5, g6, hx, b0, s1, s2, b1, k0, k1⟩
    have ka := ha.mono monoPR hx
    have kb := hb.mono monoPR hx
    obtain ⟨wa, hla, k2⟩ := RatsV.load ka hi
    obtain ⟨wb, hlb, k3⟩ := RatsV.load kb (show i < b.length by omega)
    have k4 : RatV G (.agg #[.bool (canonR (dotR a b i)).1.1, s1, .bool (canonR (dotR a b i)).2.1, s2]) (canonR (dotR a b i)) := ⟨s1, s2, rfl, k0, k1⟩
    have fa := hfa _ (List.getElem_mem hi)
    have fb := hfb _ (List.getElem_mem (show i < b.length by omega))
    simp [r_52_6, gi]
    refine W_draw ?_
    simp [r_52_7, g0, g1, g6, ka.ia hi, kb.ia (show i < b.length by omega), hla, hlb, b1]
    refine (rat_Mul_does k2 k3 (by have := hx.1; omega) (by omega) (by omega)).mono ?_
    rintro _ G2 ⟨k5, hx2⟩
    (try replace b0 := hx2.blk b0); (try replace b1 := hx2.blk b1); (try replace hx := hx.trans hx2); (try replace k0 := k0.mono hx2); (try replace k1 := k1.mono hx2); (try replace k2 := k2.mono hx2); (try replace k3 := k3.mono hx2); (try replace k4 := k4.mono hx2); (try replace k5 := k5.mono hx2); (try replace k6 := k6.mono hx2); (try replace k7 := k7.mono hx2)
    have hsd := szR_dot hfa hfb i
    have hsd2 : i * (2 * S + 3) ≤ a.length * (2 * S + 3) := Nat.mul_le_mul_right _ (by omega)
    rw [Nat.add_mul, Nat.one_mul] at hS
    have hsm := szR_mul (valR a[i]) (valR b[i])
    have hs1 := szR_val fa.2.1 fa.2.2
    have hs2 := szR_val fb.2.1 fb.2.2
    simp
    refine (rat_Add_does k4 k5 hx.1 (by rw [lenR_canon]; omega) (by rw [lenR_canon]; omega)).mono ?_
    rintro _ G2 ⟨⟨s3, s4, rfl, k6, k7⟩, hx2⟩
    (try replace b0 := hx2.blk b0); (try replace b1 := hx2.blk b1); (try replace hx := hx.trans hx2); (try replace k0 := k0.mono hx2); (try replace k1 := k1.mono hx2); (try replace k2 := k2.mono hx2); (try replace k3 := k3.mono hx2); (try replace k4 := k4.mono hx2); (try replace k5 := k5.mono hx2); (try replace k6 := k6.mono hx2); (try replace k7 := k7.mono hx2)
    rw [valR_canon, valR_canon] at k6 k7 ⊢
    have hd : dotR a b (i + 1) = dotR a b i + valR a[i] * valR b[i] := by
      rw [dotR, List.getD_eq_getElem?_getD, List.getD_eq_getElem?_getD, List.getElem?_eq_getElem hi, List.getElem?_eq_getElem (show i < b.length by omega)]; rfl
    rw [← hd] at k6 k7 ⊢
    have hz := blk_lt b1
    simp [g0, g1, g4, g5, g6, b1, k6.cells, k6.plain, k7.cells, k7.plain, hsz]
    generalize hS' : Array.setIfInBounds _ _ _ = G3
    have hS := hS'
    replace k6 := k6.setS hS b1 (by decide)
    replace k7 := k7.setS hS b1 (by decide)
    replace b0 := set_keep hS b0 (by omega)
    replace hx := set_ext hS hx (by omega)
    replace b1 := set_new hS b1
    exact Rnd.mk (by simp [gi]) (by simp [gn]) ⟨by simp [g0], by simp [g1], by simp [g4], by simp [g5], by simp [g6], hx, b0, s3, s4, b1, k6, k7⟩
  · clear h0 ρ k0 k1 b0 b1 hx hx2
    rintro ρ G gi gn ⟨g0, g1, g4, g5, g6, hx, b0, s1, s2, b1, k0, k1⟩
    have hz := blk_lt b0
    simp [r_52_9, g4, g6, b1, b0, k0.cells, k0.plain, k1.cells, k1.plain, hz]
    refine fun _ => ⟨s1, s2, ?_, ?_, ?_⟩
    · rw [← he]
    · rw [← he]; exact k0.setT b0 (by decide)
    · rw [← he]; exact k1.setT b0 (by decide)
end Go.Proofs.YtjlohmnnldbjoaaGreat.AI

/- dom: Le, Join, Meet, none. -/
namespace Go.Proofs.YtjlohmnnldbjoaaGreat.AI
open Go
set_option maxHeartbeats 4000000

variable {fl : Nat} {H G : Heap} {R : PostP} {v w : Value} {a b : List RawE}

def PB (_ : Heap) (cs : List Value) (x : Bool) : Prop := cs = [.bool x]
theorem monoPB : MonoP PB := fun _ _ _ _ _ h => h

theorem dom_Le_1_does {e f : RawE} (h : ExtV H v e) (k : ExtV H w f) (hf : fl ≤ H.size) (hn : lenR e.2 < 67108864) (hm : lenR f.2 < 67108864) : Does env fl f_64 [v, w] H (fun r H' => r = .bool (decide (0 < cmpE (valE e) (valE f))) ∧ Ext H H') R := by
  have k0 := h
  have k1 := k
  obtain ⟨s, u, rfl, hs, hu⟩ := h
  obtain ⟨s', u', rfl, hs', hu'⟩ := k
  refine does_ext e_64 hf (h := ?_)
  intro ρ h0
  simp [s_64, r_64_0, h0]
  generalize hG : Array.push (Array.push H _) _ = G
  have hx2 : Ext H G := by rw [← hG]; exact (Ext.refl H).push.push
  have b0 : Heap.blk G H.size = .row false T_api_Ext [.int .i64 e.1, .bool e.2.1.1, s, .bool e.2.2.1, u] := by rw [← hG]; simp
  have b1 : Heap.blk G (H.size + 1) = .row false T_api_Ext [.int .i64 f.1, .bool f.2.1.1, s', .bool f.2.2.1, u'] := by rw [← hG]; simp
  have hx := Ext.refl H
  clear hG
  (try replace b0 := hx2.blk b0); (try replace b1 := hx2.blk b1); (try replace hx := hx.trans hx2); (try replace k0 := k0.mono hx2); (try replace k1 := k1.mono hx2)
  simp [r_64_1, h0, b0, b1]
  refine (ext_Cmp_does k0 k1 hx.1 hn hm).mono ?_
  rintro _ G2 ⟨rfl, hx2⟩
  simp

theorem Owns.cast {α : Type} {P : Heap → List Value → α → Prop} {fl e sz : Nat} {v v' : Value} {l : List α} (h : v = v') (k : Owns P fl H e sz v' l) : Owns P fl H e sz v l := by rw [h]; exact k
theorem take_zip {α β γ : Type} {f : α → β → γ} {a : List α} {b : List β} {i : Nat} (h1 : i < a.length) (h2 : i < b.length) : (List.zipWith f a b).take (i + 1) = (List.zipWith f a b).take i ++ [f a[i] b[i]] := by
  have h : i < (List.zipWith f a b).length := by simp; omega
  rw [List.take_succ_eq_append_getElem h, List.getElem_zipWith]

/-- of so many limbs at most. -/
def FewE (l : List RawE) : Prop := ∀ x ∈ l, lenR x.2 < 67108864

theorem zipB_does {d : RawE → RawE → Bool} {g : FuncId} (ha : ExtsV H v a) (hb : ExtsV H w b) (hf : fl ≤ H.size) (hfa : FewE a) (hfb : FewE b) (hal : a.length < 1073741824)
    (hg : ∀ (fl : Nat) (G : Heap) (v w : Value) (e f : RawE), fl ≤ G.size → ExtV G v e → ExtV G w f → lenR e.2 < 67108864 → lenR f.2 < 67108864 → Does env fl g [v, w] G (fun r H' => r = .bool (d e f) ∧ Ext G H') (fun _ => False)) :
    Does env fl f_66 [v, w, .func (.func g) #[] #[]] H (fun r H' => Sls PB H' T_bool 1 r (List.zipWith d a b) ∧ Ext H H') R := by
  refine does_ext e_66 hf (h := ?_)
  intro ρ h0
  obtain ⟨m, hm⟩ : ∃ m, m = min a.length b.length := ⟨_, rfl⟩
  have hmn : mnxA false (.int .i64 (a.length : Int)) [.int .i64 (b.length : Int)] = some (.int .i64 (m : Int)) := by
    simp only [mnxA, mn2]; congr 2; rw [hm]; split <;> (try split) <;> simp_all <;> omega
  simp [s_66, r_66_0, r_66_1, r_66_2, h0, ha.slen, hb.slen, hmn]
  refine W_for (n := m) (fun i ρ G => ρ 0 = v ∧ ρ 1 = w ∧ ρ 2 = .func (.func g) #[] #[] ∧ Ext H G ∧ Owns PB H.size G T_bool 1 (ρ 7) ((List.zipWith d a b).take i))
    rfl rfl (by decide) (by omega) (by simp) (by simp) ?_ ?_ ?_ ?_
  · exact ⟨by simp [h0], by simp [h0], by simp [h0], Ext.refl H, by simpa using Owns.nil⟩
  · intro i ρ ρ' G h hI; simpa [h] using hI
  · clear h0 ρ
    rintro i ρ G hi gi gn ⟨g0, g1, g2, hx, ho⟩
    obtain ⟨s, g7⟩ : ∃ s, ρ 7 = s := ⟨_, rfl⟩
    rw [g7] at ho
    have hia : i < a.length := by omega
    have hib : i < b.length := by omega
    have ka := ha.mono monoPE hx
    have kb := hb.mono monoPE hx
    obtain ⟨wa, hla, k0⟩ := ExtsV.load ka hia
    obtain ⟨wb, hlb, k1⟩ := ExtsV.load kb hib
    simp [r_66_4, gi]
    refine W_draw ?_
    simp [r_66_5, g0, g1, g2, g7, ka.ia hia, kb.ia hib, hla, hlb]
    refine (hg _ _ _ _ _ _ hx.1 k0 k1 (hfa _ (List.getElem_mem hia)) (hfb _ (List.getElem_mem hib))).mono ?_
    rintro _ G2 ⟨rfl, hx2⟩
    (try replace hx := hx.trans hx2); (try replace k0 := k0.mono hx2); (try replace k1 := k1.mono hx2)
    replace ho := ho.mono monoPB hx2
    obtain ⟨s', G3, h1, h2, h3, h4⟩ := Owns.app (P := PB) (sz := 1) (e := T_bool) (by decide) (fun _ _ _ _ _ h => h) ho (e2 := T_bool) (c := 1) (bytes := 1) (new := [.bool (d a[i] b[i])]) (x := d a[i] b[i]) rfl rfl rfl (by simp; omega) (by omega) (by omega) hx.1
    simp [g0, g1, g2, g7, h1]
    refine Rnd.mk (by simp [gi]) (by simp [gn]) ⟨by simp [g0], by simp [g1], by simp [g2], h4 _ (Nat.le_refl _) hx, Owns.cast (v' := s') (by simp) (by rw [take_zip hia hib]; exact h2)⟩
  · clear h0 ρ
    rintro ρ G gi gn ⟨g0, g1, g2, hx, ho⟩
    obtain ⟨s, g7⟩ : ∃ s, ρ 7 = s := ⟨_, rfl⟩
    rw [g7] at ho
    simp [r_66_7, g7]
    have := ho.sls
    rw [List.take_of_length_le (by simp [hm])] at this
    exact fun _ => this

theorem Index_bool_does {l : List Bool} {c : Bool} (ha : Sls PB H T_bool 1 v l) (hf : fl ≤ H.size) (hal : l.length < 1073741824) :
    Does env fl f_100 [v, .bool c] H (fun r H' => (∃ z : Int, r = .int .i64 z ∧ (0 ≤ z ↔ c ∈ l)) ∧ Ext H H') R := by
  refine does_ext e_100 hf (h := ?_)
  intro ρ h0
  simp [s_100, r_100_0, r_100_1, h0, ha.slen]
  refine W_for (n := l.length) (fun i ρ G => ρ 0 = v ∧ ρ 1 = .bool c ∧ Ext H G ∧ G = H ∧ c ∉ l.take i)
    rfl rfl (by decide) (by omega) (by simp) (by simp) ?_ ?_ ?_ ?_
  · exact ⟨by simp [h0], by simp [h0], Ext.refl H, rfl, by simp⟩
  · intro i ρ ρ' G h hI; simpa [h] using hI
  · clear h0 ρ
    rintro i ρ _ hi gi gn ⟨g0, g1, hx, rfl, hc⟩
    obtain ⟨w, hl, hw⟩ := Sls.load1 ha hi
    simp [PB] at hw
    simp [r_100_3, r_100_4, r_100_5, gi, g0, g1, ha.ia hi, hl, hw]
    refine ⟨fun he => ?_, fun hne => ?_⟩
    · rw [he]; exact List.getElem_mem hi
    · refine Rnd.mk (by simp [gi]) (by simp [gn]) ⟨by simp [g0], by simp [g1], hx, rfl, ?_⟩
      rw [List.take_succ_eq_append_getElem hi]
      simp only [List.mem_append, List.mem_singleton]
      rintro (h | h)
      · exact hc h
      · exact hne h
  · clear h0 ρ
    rintro ρ _ gi gn ⟨g0, g1, hx, rfl, hc⟩
    rw [List.take_length] at hc
    simp [r_100_7, hc]

theorem Contains_bool_does {l : List Bool} {c : Bool} (ha : Sls PB H T_bool 1 v l) (hf : fl ≤ H.size) (hal : l.length < 1073741824) :
    Does env fl f_65 [v, .bool c] H (fun r H' => r = .bool (decide (c ∈ l)) ∧ Ext H H') R := by
  refine does_ext e_65 hf (h := ?_)
  intro ρ h0
  simp [s_65, r_65_0, r_65_1, h0]
  refine (Index_bool_does ha (Nat.le_refl _) hal).mono ?_
  rintro _ G2 ⟨⟨z, rfl, hz⟩, hx2⟩
  simp [hz]

/-- is each at most the other? -/
def leE (a b : List RawE) : Bool := a.length == b.length && !decide (true ∈ List.zipWith (fun e f => decide (0 < cmpE (valE e) (valE f))) a b)
theorem dom_Le_does (ha : ExtsV H v a) (hb : ExtsV H w b) (hf : fl ≤ H.size) (hfa : FewE a) (hfb : FewE b) (hal : a.length < 1073741824) :
    Does env fl f_28 [v, w] H (fun r H' => r = .bool (leE a b) ∧ Ext H H') R := by
  refine does_ext e_28 hf (h := ?_)
  intro ρ h0
  simp [s_28, r_28_0, r_28_1, h0]
  unfold leE
  by_cases he : a.length = b.length
  · simp [r_28_2, h0, ha.slen, hb.slen, he]
    refine (zipB_does (d := fun e f => decide (0 < cmpE (valE e) (valE f))) ha hb (Nat.le_refl _) hfa hfb hal (fun fl G v w e f hf h k hn hm => dom_Le_1_does h k hf hn hm)).mono ?_
    rintro r G2 ⟨k0, hx2⟩
    simp [h0]
    refine (Contains_bool_does k0 hx2.1 (by simp; omega)).mono ?_
    rintro _ G2 ⟨rfl, hx2⟩
    simp
  · have he' : ¬ ((a.length : Int) = (b.length : Int)) := by omega
    simp [r_28_2, h0, ha.slen, hb.slen, he, he']

theorem zipE_does {d : RawE → RawE → RawE} {g : FuncId} (ha : ExtsV H v a) (hb : ExtsV H w b) (hf : fl ≤ H.size) (hfa : FewE a) (hfb : FewE b) (hal : a.length < 1073741824)
    (hg : ∀ (fl : Nat) (G : Heap) (v w : Value) (e f : RawE), fl ≤ G.size → ExtV G v e → ExtV G w f → lenR e.2 < 67108864 → lenR f.2 < 67108864 → Does env fl g [v, w] G (fun r H' => ExtV H' r (d e f) ∧ Ext G H') (fun _ => False)) :
    Does env fl f_68 [v, w, .func (.func g) #[] #[]] H (fun r H' => ExtsV H' r (List.zipWith d a b) ∧ Ext H H') R := by
  refine does_ext e_68 hf (h := ?_)
  intro ρ h0
  obtain ⟨m, hm⟩ : ∃ m, m = min a.length b.length := ⟨_, rfl⟩
  have hmn : mnxA false (.int .i64 (a.length : Int)) [.int .i64 (b.length : Int)] = some (.int .i64 (m : Int)) := by
    simp only [mnxA, mn2]; congr 2; rw [hm]; split <;> (try split) <;> simp_all <;> omega
  simp [s_68, r_68_0, r_68_1, r_68_2, h0, ha.slen, hb.slen, hmn]
  refine W_for (n := m) (fun i ρ G => ρ 0 = v ∧ ρ 1 = w ∧ ρ 2 = .func (.func g) #[] #[] ∧ Ext H G ∧ Owns PE H.size G T_api_Ext 5 (ρ 7) ((List.zipWith d a b).take i))
    rfl rfl (by decide) (by omega) (by simp) (by simp) ?_ ?_ ?_ ?_
  · exact ⟨by simp [h0], by simp [h0], by simp [h0], Ext.refl H, by simpa using Owns.nil⟩
  · intro i ρ ρ' G h hI; simpa [h] using hI
  · clear h0 ρ
    rintro i ρ G hi gi gn ⟨g0, g1, g2, hx, ho⟩
    obtain ⟨s, g7⟩ : ∃ s, ρ 7 = s := ⟨_, rfl⟩
    rw [g7] at ho
    have hia : i < a.length := by omega
    have hib : i < b.length := by omega
    have ka := ha.mono monoPE hx
    have kb := hb.mono monoPE hx
    obtain ⟨wa, hla, k0⟩ := ExtsV.load ka hia
    obtain ⟨wb, hlb, k1⟩ := ExtsV.load kb hib
    simp [r_68_4, gi]
    refine W_draw ?_
    simp [r_68_5, g0, g1, g2, g7, ka.ia hia, kb.ia hib, hla, hlb]
    refine (hg _ _ _ _ _ _ hx.1 k0 k1 (hfa _ (List.getElem_mem hia)) (hfb _ (List.getElem_mem hib))).mono ?_
    rintro _ G2 ⟨⟨s1, s2, rfl, k2, k3⟩, hx2⟩
    (try replace hx := hx.trans hx2); (try replace k0 := k0.mono hx2); (try replace k1 := k1.mono hx2); (try replace k2 := k2.mono hx2); (try replace k3 := k3.mono hx2)
    replace ho := ho.mono monoPE hx2
    obtain ⟨s', G3, h1, h2, h3, h4⟩ := Owns.app (P := PE) (sz := 5) (e := T_api_Ext) (by decide) (fun G' cs x _ hl h => ExtV.lx h hl) ho (e2 := T_api_Ext) (c := 1) (bytes := 72) (new := [.int .i64 (d a[i] b[i]).1, .bool (d a[i] b[i]).2.1.1, s1, .bool (d a[i] b[i]).2.2.1, s2]) (x := d a[i] b[i]) ⟨s1, s2, rfl, k2, k3⟩ rfl (by simp [k2.plain, k3.plain]) (by simp; omega) (by omega) (by omega) hx.1
    simp [g0, g1, g2, g7, h1, k2.cells, k3.cells]
    exact Rnd.mk (by simp [gi]) (by simp [gn]) ⟨by simp [g0], by simp [g1], by simp [g2], h4 _ (Nat.le_refl _) hx, Owns.cast (v' := s') (by simp) (by rw [take_zip hia hib]; exact h2)⟩
  · clear h0 ρ
    rintro ρ G gi gn ⟨g0, g1, g2, hx, ho⟩
    obtain ⟨s, g7⟩ : ∃ s, ρ 7 = s := ⟨_, rfl⟩
    rw [g7] at ho
    simp [r_68_7, g7]
    have := ho.sls
    rw [List.take_of_length_le (by simp [hm])] at this
    exact fun _ => this
end Go.Proofs.YtjlohmnnldbjoaaGreat.AI
