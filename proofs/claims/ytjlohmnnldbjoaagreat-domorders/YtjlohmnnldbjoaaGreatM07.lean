/- Part 8 of the proof: AiRat3, AiExt1, AiFor, AiVec1, AiDom1, AiDom2, AiDom3, AiDom4, AiFor2, AiSame, AiGreat, AiRow3, AiFast1. -/
import Derived.Test.YtjlohmnnldbjoaaGreatRows
import Derived.Test.YtjlohmnnldbjoaaGreatM00
import Derived.Test.YtjlohmnnldbjoaaGreatM02
import Derived.Test.YtjlohmnnldbjoaaGreatM06
set_option linter.unusedVariables false
set_option linter.unusedSimpArgs false
set_option linter.unusedSectionVars false

/- rat: least, fold, Add, Mul, Cmp, Of. -/
namespace Go.Proofs.YtjlohmnnldbjoaaGreat.AI
open Go
set_option maxHeartbeats 4000000

variable {fl : Nat} {H G : Heap} {R : PostP} {v w : Value} {i j : Bool × List Nat} {a b : RawR}

theorem RatV.p (h : RatV H v a) : ∃ s u, v = .agg #[.bool a.1.1, s, .bool a.2.1, u] ∧ Lim H s a.1.2 ∧ Lim H u a.2.2 ∧ IntV H (.agg #[.bool a.1.1, s]) a.1 ∧ IntV H (.agg #[.bool a.2.1, u]) a.2 := by
  obtain ⟨s, u, h1, h2, h3⟩ := h; exact ⟨s, u, h1, h2, h3, ⟨s, rfl, h2⟩, ⟨u, rfl, h3⟩⟩
theorem RatV.ok (h : RatV H v a) : LimOk a.1.2 ∧ LimOk a.2.2 := by obtain ⟨s, u, _, h2, h3⟩ := h; exact ⟨h2.ok, h3.ok⟩
theorem szR_num (x : Rat) : lz x.num ≤ szR x := by unfold szR; omega
theorem szR_den (x : Rat) : lz x.den ≤ szR x := by unfold szR; omega

theorem rat_least_does (h : IntV H v i) (k : IntV H w j) (hf : fl ≤ H.size) (hn : i.2.length < 536870912) (hm : j.2.length < 536870912) (hj0 : valI j ≠ 0) :
    Does env fl f_86 [v, w] H (fun r H' => RatV H' r (canonR (Rat.divInt (valI i) (valI j))) ∧ Ext H H') R := by
  have k0 := h
  have k1 := k
  obtain ⟨s, rfl, hs⟩ := h
  obtain ⟨u, rfl, hu⟩ := k
  refine does_ext e_86 hf (h := ?_)
  intro ρ h0
  simp [s_86, r_86_0, h0]
  generalize hG : Array.push (Array.push (Array.push H _) _) _ = G
  have hx : Ext H G := by rw [← hG]; exact (Ext.refl H).push.push.push
  have b0 : Heap.blk G H.size = .row false T_api_Int [.bool i.1, s] := by rw [← hG]; simp
  have b1 : Heap.blk G (H.size + 1) = .row false T_api_Int [.bool j.1, u] := by rw [← hG]; simp
  have b2 : Heap.blk G (H.size + 2) = .row false T_api_Rat [.bool false, .slice none 0 0, .bool false, .slice none 0 0] := by rw [← hG]; simp
  clear hG
  replace k0 := k0.mono hx
  replace k1 := k1.mono hx
  simp [r_86_1, h0, b0, b1]
  refine (rat_Quo_does k0 k1 hx.1 hn hm hj0).mono ?_
  rintro _ G2 ⟨⟨q, rfl, s1, s2, rfl, k2, k3⟩, hx2⟩
  (try replace b0 := hx2.blk b0); (try replace b1 := hx2.blk b1); (try replace b2 := hx2.blk b2); (try replace b3 := hx2.blk b3); (try replace hx := hx.trans hx2); (try replace k0 := k0.mono hx2); (try replace k1 := k1.mono hx2); (try replace k2 := k2.mono hx2); (try replace k3 := k3.mono hx2)
  have hsz := hx.1
  simp [h0, k2.cells, k2.plain, k3.cells, k3.plain, hsz]
  generalize hN : Array.setIfInBounds (Array.push _ _) _ _ = G3
  obtain ⟨hx2, b3⟩ := new1 hN
  clear hN
  (try replace b0 := hx2.blk b0); (try replace b1 := hx2.blk b1); (try replace b2 := hx2.blk b2); (try replace b3 := hx2.blk b3); (try replace hx := hx.trans hx2); (try replace k0 := k0.mono hx2); (try replace k1 := k1.mono hx2); (try replace k2 := k2.mono hx2); (try replace k3 := k3.mono hx2)
  have hz := blk_lt b2
  simp [r_86_2, h0, b2, b3, k2.cells, k2.plain, k3.cells, k3.plain, hz]
  exact fun _ => ⟨s1, s2, rfl, k2.setT b2 (by decide), k3.setT b2 (by decide)⟩

theorem rat_fold_add_does (h : IntV H v i) (hl : IntV H w j) {c : Nat} {p : Nat} (hb : H.blk p = .row false T_api_Int (cellsL w)) (hf : fl ≤ H.size) (hn : i.2.length < 536870912) (hm : j.2.length < 536870912) :
    Does env fl f_87 [.func (.func f_88) #[] #[], v, .slice (some ⟨p, 0, none⟩) 1 c] H (fun r H' => IntV H' r (canonI (valI i + valI j)) ∧ Ext H H') R := by
  have k0 := h
  have k1 := hl
  obtain ⟨s, rfl, hs⟩ := h
  obtain ⟨u, rfl, hu⟩ := hl
  simp at hb
  refine does_ext e_87 hf (h := ?_)
  intro ρ h0
  have hpl := blk_lt hb
  simp [s_87, r_87_0, r_87_1, h0, slenV]
  generalize hG : Array.push (Array.push H _) _ = G
  have hx2 : Ext H G := by rw [← hG]; exact (Ext.refl H).push.push
  have b0 : Heap.blk G H.size = .row false T_api_Int [.bool i.1, s] := by rw [← hG]; simp
  have b1 : Heap.blk G (H.size + 1) = .row false T_api_Int [.bool false, .slice none 0 0] := by rw [← hG]; simp
  have b2 : Heap.blk G p = .row false T_api_Int [.bool j.1, u] := hx2.blk hb
  have hx := hx2
  clear hG
  replace k0 := k0.mono hx2
  replace k1 := k1.mono hx2
  clear hb
  refine W_loopM (fun c' t G => ∃ n : Nat, n + c' = 1 ∧ t.length = 21 ∧ get t 0 = .func (.func f_88) #[] #[] ∧ get t 4 = .pointer (some ⟨H.size, 0, none⟩) ∧ get t 6 = .pointer (some ⟨H.size + 1, 0, none⟩) ∧ get t 9 = .slice (some ⟨p, 0, none⟩) 1 c ∧ get t 10 = .int .i64 1 ∧ get t 11 = .int .i64 (n : Int) ∧
      Ext H G ∧ Heap.blk G (H.size + 1) = .row false T_api_Int [.bool false, .slice none 0 0] ∧
      (n = 0 → Heap.blk G H.size = .row false T_api_Int [.bool i.1, s] ∧ Heap.blk G p = .row false T_api_Int [.bool j.1, u] ∧ IntV G (.agg #[.bool i.1, s]) i ∧ IntV G (.agg #[.bool j.1, u]) j) ∧
      (n = 1 → ∃ s2, Heap.blk G H.size = .row false T_api_Int [.bool (canonI (valI i + valI j)).1, s2] ∧ Lim G s2 (canonI (valI i + valI j)).2))
    (fun t G => ∃ s2, t.length = 21 ∧ get t 4 = .pointer (some ⟨H.size, 0, none⟩) ∧ get t 6 = .pointer (some ⟨H.size + 1, 0, none⟩) ∧ Ext H G ∧ Heap.blk G (H.size + 1) = .row false T_api_Int [.bool false, .slice none 0 0] ∧
      Heap.blk G H.size = .row false T_api_Int [.bool (canonI (valI i + valI j)).1, s2] ∧ Lim G s2 (canonI (valI i + valI j)).2) 1 ?_ ?_ ?_
  · exact ⟨0, rfl, by simp, by simp [h0], by simp, by simp, by simp [h0], by simp, by simp, hx, b1, fun _ => ⟨b0, b2, k0, k1⟩, by omega⟩
  · clear h0 ρ k0 k1 b0 b1 b2 hx hx2 G
    rintro c' t G ⟨n, hnc, ht, g0, g4, g6, g9, g10, g11, hx, b1, hc0, hc1⟩
    obtain ⟨ρ, rfl⟩ := toT ht
    simp only [get_T, Nat.reduceLT] at g0 g4 g6 g9 g10 g11
    by_cases hn0 : n = 0
    · subst hn0
      obtain ⟨b0, b2, k0, k1⟩ := hc0 rfl
      have hlt := hx.1
      have hbl := blk_lt b1
      have e9 : IntKind.i64.wrap ((0 : Int) + 1) = 1 := by decide
      simp [r_87_2, r_87_3, g0, g4, g6, g9, g10, g11, iaV, b2]
      have hc : (cellsL (Value.agg #[.bool j.1, u])).length = 2 := rfl
      simp [hu.cells, hu.plain, hlt]
      generalize hN : Array.setIfInBounds (Array.push _ _) _ _ = G3
      obtain ⟨hx2, b3⟩ := new1 hN
      clear hN
      (try replace b0 := hx2.blk b0); (try replace b1 := hx2.blk b1); (try replace b2 := hx2.blk b2); (try replace b3 := hx2.blk b3); (try replace hx := hx.trans hx2); (try replace k0 := k0.mono hx2); (try replace k1 := k1.mono hx2); (try replace k2 := k2.mono hx2)
      simp [r_87_4, r_87_5, g0, g4, g6, g9, g10, g11, b0, b3]
      refine (num_Add_does k0 k1 hx.1 hn hm).mono ?_
      rintro _ G2 ⟨⟨s2, rfl, k2⟩, hx2⟩
      (try replace b0 := hx2.blk b0); (try replace b1 := hx2.blk b1); (try replace b2 := hx2.blk b2); (try replace b3 := hx2.blk b3); (try replace hx := hx.trans hx2); (try replace k0 := k0.mono hx2); (try replace k1 := k1.mono hx2); (try replace k2 := k2.mono hx2)
      have hz := blk_lt b0
      simp [g0, g4, g6, g9, g10, g11, b0, k2.cells, k2.plain, hz, e9]
      exact ⟨0, by omega, 1, rfl, rfl, hx.set (by omega), b1, by omega, fun _ => k2.setT b0 (by decide)⟩
    · have : n = 1 := by omega
      subst this
      obtain ⟨s2, b0, k0⟩ := hc1 rfl
      simp [r_87_2, g0, g4, g6, g9, g10, g11]
      exact ⟨hx, b1, s2, b0, k0⟩
  · clear h0 ρ k0 k1 b0 b1 b2 hx hx2 G
    rintro t G ⟨s2, ht, g4, g6, hx, b1, b0, k0⟩
    obtain ⟨ρ, rfl⟩ := toT ht
    simp only [get_T, Nat.reduceLT] at g4 g6
    have hz := blk_lt b1
    simp [r_87_6, g4, g6, b0, b1, k0.cells, k0.plain, hz]
    exact fun _ => ⟨s2, rfl, k0.setT b1 (by decide)⟩

theorem rat_Add_does (h : RatV H v a) (k : RatV H w b) (hf : fl ≤ H.size) (hn : lenR a < 67108864) (hm : lenR b < 67108864) :
    Does env fl f_51 [v, w] H (fun r H' => RatV H' r (canonR (valR a + valR b)) ∧ Ext H H') R := by
  have k0 := h
  have k1 := k
  obtain ⟨s, u, rfl, hs, hu⟩ := h
  obtain ⟨s', u', rfl, hs', hu'⟩ := k
  refine does_ext e_51 hf (h := ?_)
  intro ρ h0
  simp [s_51, r_51_0, h0]
  generalize hG : Array.push (Array.push (Array.push H _) _) _ = G
  have hx : Ext H G := by rw [← hG]; exact (Ext.refl H).push.push.push
  have b0 : Heap.blk G H.size = .row false T_api_Rat [.bool a.1.1, s, .bool a.2.1, u] := by rw [← hG]; simp
  have b1 : Heap.blk G (H.size + 1) = .row false T_api_Rat [.bool b.1.1, s', .bool b.2.1, u'] := by rw [← hG]; simp
  have b2 : Heap.blk G (H.size + 2) = .row false T_api_Rat [.bool false, .slice none 0 0, .bool false, .slice none 0 0] := by rw [← hG]; simp
  clear hG
  replace k0 := k0.mono hx
  replace k1 := k1.mono hx
  have sa := szR_val k0.ok.1 k0.ok.2
  have sb := szR_val k1.ok.1 k1.ok.2
  refine W_draw ?_
  simp [r_51_1, h0, b0, b1]
  refine (rat_right_does k0 (by have := hx.1; omega) (by omega)).mono ?_
  rintro _ G2 ⟨⟨s1, s2, rfl, k2, k3⟩, hx2⟩
  (try replace b0 := hx2.blk b0); (try replace b1 := hx2.blk b1); (try replace b2 := hx2.blk b2); (try replace b3 := hx2.blk b3); (try replace hx := hx.trans hx2); (try replace k0 := k0.mono hx2); (try replace k1 := k1.mono hx2); (try replace k2 := k2.mono hx2); (try replace k3 := k3.mono hx2); (try replace k4 := k4.mono hx2); (try replace k5 := k5.mono hx2); (try replace k6 := k6.mono hx2); (try replace k7 := k7.mono hx2)
  simp [h0, b1]
  refine (rat_right_does k1 hx.1 (by omega)).mono ?_
  rintro _ G2 ⟨⟨s3, s4, rfl, k4, k5⟩, hx2⟩
  (try replace b0 := hx2.blk b0); (try replace b1 := hx2.blk b1); (try replace b2 := hx2.blk b2); (try replace b3 := hx2.blk b3); (try replace hx := hx.trans hx2); (try replace k0 := k0.mono hx2); (try replace k1 := k1.mono hx2); (try replace k2 := k2.mono hx2); (try replace k3 := k3.mono hx2); (try replace k4 := k4.mono hx2); (try replace k5 := k5.mono hx2); (try replace k6 := k6.mono hx2); (try replace k7 := k7.mono hx2)
  clear k0 k1
  have hz0 := blk_lt b0
  simp [h0, b0, k2.cells, k2.plain, k3.cells, k3.plain, hz0]
  generalize hS : Array.setIfInBounds _ _ _ = G3
  have hsz := hx.1; (try replace k0 := k0.setS hS b0 (by decide)); (try replace k1 := k1.setS hS b0 (by decide)); (try replace k2 := k2.setS hS b0 (by decide)); (try replace k3 := k3.setS hS b0 (by decide)); (try replace k4 := k4.setS hS b0 (by decide)); (try replace k5 := k5.setS hS b0 (by decide)); (try replace k6 := k6.setS hS b0 (by decide)); (try replace k7 := k7.setS hS b0 (by decide)); (try replace b1 := set_keep hS b1 (by omega)); (try replace b2 := set_keep hS b2 (by omega)); (try replace b3 := set_keep hS b3 (by omega)); (try replace hx := set_ext hS hx (by omega)); replace b0 := set_new hS b0; clear hS hsz
  have hz0 := blk_lt b1
  simp [b1, k4.cells, k4.plain, k5.cells, k5.plain, hz0]
  generalize hS : Array.setIfInBounds _ _ _ = G3
  have hsz := hx.1; (try replace k0 := k0.setS hS b1 (by decide)); (try replace k1 := k1.setS hS b1 (by decide)); (try replace k2 := k2.setS hS b1 (by decide)); (try replace k3 := k3.setS hS b1 (by decide)); (try replace k4 := k4.setS hS b1 (by decide)); (try replace k5 := k5.setS hS b1 (by decide)); (try replace k6 := k6.setS hS b1 (by decide)); (try replace k7 := k7.setS hS b1 (by decide)); (try replace b0 := set_keep hS b0 (by omega)); (try replace b2 := set_keep hS b2 (by omega)); (try replace b3 := set_keep hS b3 (by omega)); (try replace hx := set_ext hS hx (by omega)); replace b1 := set_new hS b1; clear hS hsz
  obtain ⟨x, hxv⟩ : ∃ x, x = valR a := ⟨_, rfl⟩
  obtain ⟨y, hyv⟩ : ∃ y, y = valR b := ⟨_, rfl⟩
  rw [← hxv] at sa k2 k3 b0 ⊢
  rw [← hyv] at sb k4 k5 b1 ⊢
  have k0 : IntV _ (.agg #[.bool (canonR x).1.1, s1]) (canonI x.num) := ⟨s1, rfl, k2⟩
  have k1 : IntV _ (.agg #[.bool (canonR x).2.1, s2]) (canonI x.den) := ⟨s2, rfl, k3⟩
  have k6 : IntV _ (.agg #[.bool (canonR y).1.1, s3]) (canonI y.num) := ⟨s3, rfl, k4⟩
  have k7 : IntV _ (.agg #[.bool (canonR y).2.1, s4]) (canonI y.den) := ⟨s4, rfl, k5⟩
  have l1 := szR_num x
  have l2 := szR_den x
  have l3 := szR_num y
  have l4 := szR_den y
  clear hs hu hs' hu' k2 k3 k4 k5
  refine W_draw ?_
  simp [r_51_2, h0, b0, b1]
  refine (num_Mul_does k0 k7 (by have := hx.1; omega) (by rw [len_canonI]; omega) (by rw [len_canonI]; omega)).mono ?_
  rintro _ G2 ⟨k2, hx2⟩
  (try replace b0 := hx2.blk b0); (try replace b1 := hx2.blk b1); (try replace b2 := hx2.blk b2); (try replace b3 := hx2.blk b3); (try replace hx := hx.trans hx2); (try replace k0 := k0.mono hx2); (try replace k1 := k1.mono hx2); (try replace k2 := k2.mono hx2); (try replace k3 := k3.mono hx2); (try replace k4 := k4.mono hx2); (try replace k5 := k5.mono hx2); (try replace k6 := k6.mono hx2); (try replace k7 := k7.mono hx2)
  rw [val_canon, val_canon] at k2
  simp [h0, b0, b1]
  refine (num_Mul_does k6 k1 (by have := hx.1; omega) (by rw [len_canonI]; omega) (by rw [len_canonI]; omega)).mono ?_
  rintro _ G2 ⟨k3, hx2⟩
  (try replace b0 := hx2.blk b0); (try replace b1 := hx2.blk b1); (try replace b2 := hx2.blk b2); (try replace b3 := hx2.blk b3); (try replace hx := hx.trans hx2); (try replace k0 := k0.mono hx2); (try replace k1 := k1.mono hx2); (try replace k2 := k2.mono hx2); (try replace k3 := k3.mono hx2); (try replace k4 := k4.mono hx2); (try replace k5 := k5.mono hx2); (try replace k6 := k6.mono hx2); (try replace k7 := k7.mono hx2)
  rw [val_canon, val_canon] at k3
  obtain ⟨s5, hk3, k3'⟩ := k3
  subst hk3
  simp [h0, k3'.cells]
  generalize hN : Array.push _ _ = G3
  obtain ⟨hx2, b3⟩ := new0 hN
  have hGs : G3.size = G2.size + 1 := by rw [← hN]; simp
  clear hN
  have k3 : IntV G2 (.agg #[.bool (canonI (y.num * x.den)).1, s5]) (canonI (y.num * x.den)) := ⟨s5, rfl, k3'⟩
  (try replace b0 := hx2.blk b0); (try replace b1 := hx2.blk b1); (try replace b2 := hx2.blk b2); (try replace b3 := hx2.blk b3); (try replace hx := hx.trans hx2); (try replace k0 := k0.mono hx2); (try replace k1 := k1.mono hx2); (try replace k2 := k2.mono hx2); (try replace k3 := k3.mono hx2); (try replace k4 := k4.mono hx2); (try replace k5 := k5.mono hx2); (try replace k6 := k6.mono hx2); (try replace k7 := k7.mono hx2)
  have m1 := lz_mul x.num y.den
  have m2 := lz_mul y.num x.den
  refine (rat_fold_add_does k2 k3 (by simpa using b3) (by have := hx.1; omega) (by rw [len_canonI]; omega) (by rw [len_canonI]; omega)).mono ?_
  rintro _ G2 ⟨k4, hx2⟩
  (try replace b0 := hx2.blk b0); (try replace b1 := hx2.blk b1); (try replace b2 := hx2.blk b2); (try replace b3 := hx2.blk b3); (try replace hx := hx.trans hx2); (try replace k0 := k0.mono hx2); (try replace k1 := k1.mono hx2); (try replace k2 := k2.mono hx2); (try replace k3 := k3.mono hx2); (try replace k4 := k4.mono hx2); (try replace k5 := k5.mono hx2); (try replace k6 := k6.mono hx2); (try replace k7 := k7.mono hx2)
  rw [val_canon, val_canon] at k4
  simp [h0, b0, b1]
  refine (num_Mul_does k1 k7 hx.1 (by rw [len_canonI]; omega) (by rw [len_canonI]; omega)).mono ?_
  rintro _ G2 ⟨k5, hx2⟩
  (try replace b0 := hx2.blk b0); (try replace b1 := hx2.blk b1); (try replace b2 := hx2.blk b2); (try replace b3 := hx2.blk b3); (try replace hx := hx.trans hx2); (try replace k0 := k0.mono hx2); (try replace k1 := k1.mono hx2); (try replace k2 := k2.mono hx2); (try replace k3 := k3.mono hx2); (try replace k4 := k4.mono hx2); (try replace k5 := k5.mono hx2); (try replace k6 := k6.mono hx2); (try replace k7 := k7.mono hx2)
  rw [val_canon, val_canon] at k5
  simp [h0]
  have m3 := lz_add (x.num * y.den) (y.num * x.den)
  have m4 := lz_mul (x.den : Int) y.den
  refine (rat_least_does k4 k5 hx.1 (by rw [len_canonI]; omega) (by rw [len_canonI]; omega) (by rw [val_canon]; have := x.den_nz; have := y.den_nz; exact Int.mul_ne_zero (by omega) (by omega))).mono ?_
  rintro _ G2 ⟨⟨s6, s7, rfl, k6, k7⟩, hx2⟩
  (try replace b0 := hx2.blk b0); (try replace b1 := hx2.blk b1); (try replace b2 := hx2.blk b2); (try replace b3 := hx2.blk b3); (try replace hx := hx.trans hx2); (try replace k0 := k0.mono hx2); (try replace k1 := k1.mono hx2); (try replace k2 := k2.mono hx2); (try replace k3 := k3.mono hx2); (try replace k4 := k4.mono hx2); (try replace k5 := k5.mono hx2); (try replace k6 := k6.mono hx2); (try replace k7 := k7.mono hx2)
  rw [val_canon, val_canon, ← add_divInt] at k6 k7 ⊢
  have hz := blk_lt b2
  simp [h0, b2, k6.cells, k6.plain, k7.cells, k7.plain, hz]
  exact fun _ => ⟨s6, s7, rfl, k6.setT b2 (by decide), k7.setT b2 (by decide)⟩

theorem rat_Cmp_does (h : RatV H v a) (k : RatV H w b) (hf : fl ≤ H.size) (hn : lenR a < 67108864) (hm : lenR b < 67108864) :
    Does env fl f_93 [v, w] H (fun r H' => r = .int .i64 (cmpR (valR a) (valR b)) ∧ Ext H H') R := by
  have k0 := h
  have k1 := k
  obtain ⟨s, u, rfl, hs, hu⟩ := h
  obtain ⟨s', u', rfl, hs', hu'⟩ := k
  refine does_ext e_93 hf (h := ?_)
  intro ρ h0
  simp [s_93, r_93_0, h0]
  generalize hG : Array.push (Array.push H _) _ = G
  have hx : Ext H G := by rw [← hG]; exact (Ext.refl H).push.push
  have b0 : Heap.blk G H.size = .row false T_api_Rat [.bool a.1.1, s, .bool a.2.1, u] := by rw [← hG]; simp
  have b1 : Heap.blk G (H.size + 1) = .row false T_api_Rat [.bool b.1.1, s', .bool b.2.1, u'] := by rw [← hG]; simp
  clear hG
  replace k0 := k0.mono hx
  replace k1 := k1.mono hx
  have sa := szR_val k0.ok.1 k0.ok.2
  have sb := szR_val k1.ok.1 k1.ok.2
  refine W_draw ?_
  simp [r_93_1, h0, b0, b1]
  refine (rat_right_does k0 (by have := hx.1; omega) (by omega)).mono ?_
  rintro _ G2 ⟨⟨s1, s2, rfl, k2, k3⟩, hx2⟩
  (try replace b0 := hx2.blk b0); (try replace b1 := hx2.blk b1); (try replace hx := hx.trans hx2); (try replace k0 := k0.mono hx2); (try replace k1 := k1.mono hx2); (try replace k2 := k2.mono hx2); (try replace k3 := k3.mono hx2); (try replace k4 := k4.mono hx2); (try replace k5 := k5.mono hx2); (try replace k6 := k6.mono hx2); (try replace k7 := k7.mono hx2)
  simp [h0, b1]
  refine (rat_right_does k1 hx.1 (by omega)).mono ?_
  rintro _ G2 ⟨⟨s3, s4, rfl, k4, k5⟩, hx2⟩
  (try replace b0 := hx2.blk b0); (try replace b1 := hx2.blk b1); (try replace hx := hx.trans hx2); (try replace k0 := k0.mono hx2); (try replace k1 := k1.mono hx2); (try replace k2 := k2.mono hx2); (try replace k3 := k3.mono hx2); (try replace k4 := k4.mono hx2); (try replace k5 := k5.mono hx2); (try replace k6 := k6.mono hx2); (try replace k7 := k7.mono hx2)
  clear k0 k1
  have hz0 := blk_lt b0
  simp [h0, b0, k2.cells, k2.plain, k3.cells, k3.plain, hz0]
  generalize hS : Array.setIfInBounds _ _ _ = G3
  have hsz := hx.1; (try replace k0 := k0.setS hS b0 (by decide)); (try replace k1 := k1.setS hS b0 (by decide)); (try replace k2 := k2.setS hS b0 (by decide)); (try replace k3 := k3.setS hS b0 (by decide)); (try replace k4 := k4.setS hS b0 (by decide)); (try replace k5 := k5.setS hS b0 (by decide)); (try replace k6 := k6.setS hS b0 (by decide)); (try replace k7 := k7.setS hS b0 (by decide)); (try replace b1 := set_keep hS b1 (by omega)); (try replace hx := set_ext hS hx (by omega)); replace b0 := set_new hS b0; clear hS hsz
  have hz0 := blk_lt b1
  simp [b1, k4.cells, k4.plain, k5.cells, k5.plain, hz0]
  generalize hS : Array.setIfInBounds _ _ _ = G3
  have hsz := hx.1; (try replace k0 := k0.setS hS b1 (by decide)); (try replace k1 := k1.setS hS b1 (by decide)); (try replace k2 := k2.setS hS b1 (by decide)); (try replace k3 := k3.setS hS b1 (by decide)); (try replace k4 := k4.setS hS b1 (by decide)); (try replace k5 := k5.setS hS b1 (by decide)); (try replace k6 := k6.setS hS b1 (by decide)); (try replace k7 := k7.setS hS b1 (by decide)); (try replace b0 := set_keep hS b0 (by omega)); (try replace hx := set_ext hS hx (by omega)); replace b1 := set_new hS b1; clear hS hsz
  obtain ⟨x, hxv⟩ : ∃ x, x = valR a := ⟨_, rfl⟩
  obtain ⟨y, hyv⟩ : ∃ y, y = valR b := ⟨_, rfl⟩
  rw [← hxv] at sa k2 k3 b0 ⊢
  rw [← hyv] at sb k4 k5 b1 ⊢
  have k0 : IntV _ (.agg #[.bool (canonR x).1.1, s1]) (canonI x.num) := ⟨s1, rfl, k2⟩
  have k1 : IntV _ (.agg #[.bool (canonR x).2.1, s2]) (canonI x.den) := ⟨s2, rfl, k3⟩
  have k6 : IntV _ (.agg #[.bool (canonR y).1.1, s3]) (canonI y.num) := ⟨s3, rfl, k4⟩
  have k7 : IntV _ (.agg #[.bool (canonR y).2.1, s4]) (canonI y.den) := ⟨s4, rfl, k5⟩
  have l1 := szR_num x
  have l2 := szR_den x
  have l3 := szR_num y
  have l4 := szR_den y
  clear hs hu hs' hu' k2 k3 k4 k5
  refine W_draw ?_
  simp [r_93_2, h0, b0, b1]
  refine (num_Mul_does k0 k7 (by have := hx.1; omega) (by rw [len_canonI]; omega) (by rw [len_canonI]; omega)).mono ?_
  rintro _ G2 ⟨k2, hx2⟩
  (try replace b0 := hx2.blk b0); (try replace b1 := hx2.blk b1); (try replace hx := hx.trans hx2); (try replace k0 := k0.mono hx2); (try replace k1 := k1.mono hx2); (try replace k2 := k2.mono hx2); (try replace k3 := k3.mono hx2); (try replace k4 := k4.mono hx2); (try replace k5 := k5.mono hx2); (try replace k6 := k6.mono hx2); (try replace k7 := k7.mono hx2)
  rw [val_canon, val_canon] at k2
  simp [h0, b0, b1]
  refine (num_Mul_does k6 k1 hx.1 (by rw [len_canonI]; omega) (by rw [len_canonI]; omega)).mono ?_
  rintro _ G2 ⟨k5, hx2⟩
  (try replace b0 := hx2.blk b0); (try replace b1 := hx2.blk b1); (try replace hx := hx.trans hx2); (try replace k0 := k0.mono hx2); (try replace k1 := k1.mono hx2); (try replace k2 := k2.mono hx2); (try replace k3 := k3.mono hx2); (try replace k4 := k4.mono hx2); (try replace k5 := k5.mono hx2); (try replace k6 := k6.mono hx2); (try replace k7 := k7.mono hx2)
  rw [val_canon, val_canon] at k5
  simp [h0]
  have m3 := lz_mul x.num y.den
  have m4 := lz_mul y.num x.den
  refine (num_Cmp_does k2 k5 hx.1 (by rw [len_canonI]; omega) (by rw [len_canonI]; omega)).mono ?_
  rintro _ G2 ⟨rfl, hx2⟩
  rw [val_canon, val_canon, cmp_num]
  simp

end Go.Proofs.YtjlohmnnldbjoaaGreat.AI

/- ext: none, May, Of, right, Cmp, best, Max, Min. -/
namespace Go.Proofs.YtjlohmnnldbjoaaGreat.AI
open Go
set_option maxHeartbeats 4000000

variable {fl : Nat} {H G : Heap} {R : PostP} {v w : Value} {a b : RawR}

/-- a quotient with two ends as it lies. -/
abbrev RawE := Int × RawR
def ExtV (H : Heap) (v : Value) (e : RawE) : Prop := ∃ s u, v = .agg #[.int .i64 e.1, .bool e.2.1.1, s, .bool e.2.2.1, u] ∧ Lim H s e.2.1.2 ∧ Lim H u e.2.2.2
variable {e f : RawE}
theorem ExtV.mono (h : ExtV H v e) (hx : Ext H G) : ExtV G v e := by obtain ⟨s, u, h1, h2, h3⟩ := h; exact ⟨s, u, h1, h2.mono hx, h3.mono hx⟩
theorem ExtV.setT (h : ExtV H v e) {p : Nat} {ro : Bool} {e' : TypeId} {cs' : List Value} {r : Blk} (hb : H.blk p = .row ro e' cs') (hne : e' ≠ T_uint32) : ExtV (H.setIfInBounds p r) v e := by
  obtain ⟨s, u, h1, h2, h3⟩ := h; exact ⟨s, u, h1, h2.setT hb hne, h3.setT hb hne⟩
theorem ExtV.setS {G3 : Heap} {q : Nat} {X : Blk} {ro : Bool} {e' : TypeId} {cs : List Value} (k : ExtV H v e) (hS : Array.setIfInBounds H q X = G3) (hb : Heap.blk H q = .row ro e' cs) (hne : e' ≠ T_uint32) : ExtV G3 v e := by rw [← hS]; exact k.setT hb hne
theorem ExtV.ok (h : ExtV H v e) : LimOk e.2.1.2 ∧ LimOk e.2.2.2 := by obtain ⟨s, u, _, h2, h3⟩ := h; exact ⟨h2.ok, h3.ok⟩

def mayE (e : RawE) : Bool := if e.1 = -1 ∨ e.1 = 1 then zeroR e.2 else if e.1 = 0 then mayR e.2 else false
/-- what one says: its end, or a quotient. -/
def valE (e : RawE) : Int × Rat := if mayE e then (if e.1 = 0 then (0, valR e.2) else (e.1, 0)) else (0, 0)
def canonE (x : Int × Rat) : RawE := if x.1 = 0 then (0, canonR x.2) else (x.1, ((false, []), (false, [])))
def cmpE (x y : Int × Rat) : Int := if x.1 < y.1 then -1 else if x.1 > y.1 then 1 else if x.1 ≠ 0 then 0 else cmpR x.2 y.2
def rawZ : RawR := ((false, []), (false, []))
theorem zeroR_rawZ : zeroR rawZ = true := rfl
theorem valR_rawZ : valR rawZ = 0 := by unfold valR; rw [zeroR_rawZ]; rfl
theorem ratv_rawZ : RatV H (.agg #[.bool false, .slice none 0 0, .bool false, .slice none 0 0]) rawZ := ⟨_, _, rfl, Lim.nil, Lim.nil⟩

theorem ext_none_does (h : RatV H v a) (hf : fl ≤ H.size) : Does env fl f_99 [v] H (fun r H' => r = .bool (zeroR a) ∧ Ext H H') R := by
  obtain ⟨s, u, rfl, hs, hu⟩ := h
  refine does_ext e_99 hf (h := ?_)
  intro ρ h0
  simp [s_99, r_99_0, h0]
  have hsl := hs.slen
  have hul := hu.slen
  cases h1 : a.1.1
  · by_cases h2 : a.1.2 = []
    · cases h3 : a.2.1
      · simp [r_99_1, h0, h1, h2, h3, hsl, hul, zeroR]
      · simp [r_99_1, h0, h1, h2, h3, hsl, hul, zeroR]
    · simp [r_99_1, h0, h1, h2, hsl, hul, zeroR]
  · simp [r_99_1, h0, h1, hsl, hul, zeroR]

theorem ext_May_does (h : ExtV H v e) (hf : fl ≤ H.size) (hn : lenR e.2 < 67108864) : Does env fl f_63 [v] H (fun r H' => r = .bool (mayE e) ∧ Ext H H') R := by
  obtain ⟨s, u, rfl, hs, hu⟩ := h
  have k0 : RatV H (.agg #[.bool e.2.1.1, s, .bool e.2.2.1, u]) e.2 := ⟨s, u, rfl, hs, hu⟩
  refine does_ext e_63 hf (h := ?_)
  intro ρ h0
  simp [s_63, r_63_0, r_63_1, r_63_2, h0]
  generalize hG : Array.push H _ = G
  obtain ⟨hx2, b0⟩ := new0 hG
  have hx := Ext.refl H
  clear hG
  (try replace b0 := hx2.blk b0); (try replace hx := hx.trans hx2); (try replace k0 := k0.mono hx2)
  unfold mayE
  by_cases h1 : e.1 = -1
  · simp [h1, r_63_4, h0, b0]
    refine (ext_none_does k0 hx.1).mono ?_
    rintro _ G2 ⟨rfl, hx2⟩
    simp
  · by_cases h2 : e.1 = 1
    · simp [h2, r_63_3, r_63_4, h0, b0]
      refine (ext_none_does k0 hx.1).mono ?_
      rintro _ G2 ⟨rfl, hx2⟩
      simp
    · by_cases h3 : e.1 = 0
      · simp [h3, r_63_3, r_63_5, r_63_6, h0, b0]
        refine (rat_May_does k0 hx.1 (by omega)).mono ?_
        rintro _ G2 ⟨rfl, hx2⟩
        simp
      · simp [h1, h2, h3, r_63_3, r_63_5, r_63_7, h0, b0]

theorem ext_Of_does (h : RatV H v a) (hf : fl ≤ H.size) (hn : lenR a < 67108864) : Does env fl f_54 [v] H (fun r H' => ExtV H' r (0, canonR (valR a)) ∧ Ext H H') R := by
  have k0 := h
  obtain ⟨s, u, rfl, hs, hu⟩ := h
  refine does_ext e_54 hf (h := ?_)
  intro ρ h0
  simp [s_54, r_54_0, r_54_1, h0]
  generalize hG : Array.push (Array.push H _) _ = G
  have hx2 : Ext H G := by rw [← hG]; exact (Ext.refl H).push.push
  have b0 : Heap.blk G H.size = .row false T_api_Rat [.bool a.1.1, s, .bool a.2.1, u] := by rw [← hG]; simp
  have b1 : Heap.blk G (H.size + 1) = .row false T_api_Ext [.int .i64 0, .bool false, .slice none 0 0, .bool false, .slice none 0 0] := by rw [← hG]; simp
  have hx := Ext.refl H
  clear hG
  (try replace b0 := hx2.blk b0); (try replace b1 := hx2.blk b1); (try replace hx := hx.trans hx2); (try replace k0 := k0.mono hx2); (try replace k2 := k2.mono hx2); (try replace k3 := k3.mono hx2)
  try simp [b0]
  refine (rat_Add_does k0 (b := rawZ) ratv_rawZ hx.1 hn (by decide)).mono ?_
  rintro _ G2 ⟨⟨s1, s2, rfl, k2, k3⟩, hx2⟩
  (try replace b0 := hx2.blk b0); (try replace b1 := hx2.blk b1); (try replace hx := hx.trans hx2); (try replace k0 := k0.mono hx2); (try replace k2 := k2.mono hx2); (try replace k3 := k3.mono hx2)
  rw [valR_rawZ, Rat.add_zero] at k2 k3 ⊢
  have hz := blk_lt b1
  simp [h0, b1, k2.cells, k2.plain, k3.cells, k3.plain, hz]
  exact fun _ => ⟨s1, s2, rfl, k2.setT b1 (by decide), k3.setT b1 (by decide)⟩

theorem ext_right_does (h : ExtV H v e) (hf : fl ≤ H.size) (hn : lenR e.2 < 67108864) : Does env fl f_92 [v] H (fun r H' => ExtV H' r (canonE (valE e)) ∧ Ext H H') R := by
  have k0 := h
  obtain ⟨s, u, rfl, hs, hu⟩ := h
  have k1 : RatV H (.agg #[.bool e.2.1.1, s, .bool e.2.2.1, u]) e.2 := ⟨s, u, rfl, hs, hu⟩
  refine does_ext e_92 hf (h := ?_)
  intro ρ h0
  simp [s_92, r_92_0, h0]
  generalize hG : Array.push (Array.push H _) _ = G
  have hx2 : Ext H G := by rw [← hG]; exact (Ext.refl H).push.push
  have b0 : Heap.blk G H.size = .row false T_api_Ext [.int .i64 e.1, .bool e.2.1.1, s, .bool e.2.2.1, u] := by rw [← hG]; simp
  have b1 : Heap.blk G (H.size + 1) = .row false T_api_Ext [.int .i64 0, .bool false, .slice none 0 0, .bool false, .slice none 0 0] := by rw [← hG]; simp
  have hx := Ext.refl H
  clear hG
  (try replace b0 := hx2.blk b0); (try replace b1 := hx2.blk b1); (try replace hx := hx.trans hx2); (try replace k0 := k0.mono hx2); (try replace k1 := k1.mono hx2); (try replace k2 := k2.mono hx2); (try replace k3 := k3.mono hx2)
  simp [r_92_1, h0, b0]
  refine (ext_May_does k0 hx.1 hn).mono ?_
  rintro _ G2 ⟨rfl, hx2⟩
  (try replace b0 := hx2.blk b0); (try replace b1 := hx2.blk b1); (try replace hx := hx.trans hx2); (try replace k0 := k0.mono hx2); (try replace k1 := k1.mono hx2); (try replace k2 := k2.mono hx2); (try replace k3 := k3.mono hx2)
  unfold valE
  cases hm : mayE e
  · simp [r_92_2, h0]
    refine (ext_Of_does (a := rawZ) ratv_rawZ hx.1 (by decide)).mono ?_
    rintro _ G2 ⟨⟨s1, s2, rfl, k2, k3⟩, hx2⟩
    (try replace b0 := hx2.blk b0); (try replace b1 := hx2.blk b1); (try replace hx := hx.trans hx2); (try replace k0 := k0.mono hx2); (try replace k1 := k1.mono hx2); (try replace k2 := k2.mono hx2); (try replace k3 := k3.mono hx2)
    rw [valR_rawZ] at k2 k3 ⊢
    have hz := blk_lt b1
    simp [h0, b1, k2.cells, k2.plain, k3.cells, k3.plain, hz, canonE]
    exact fun _ => ⟨s1, s2, rfl, k2.setT b1 (by decide), k3.setT b1 (by decide)⟩
  · by_cases h3 : e.1 = 0
    · simp [h3, r_92_3, r_92_4, h0, b0]
      refine (ext_Of_does k1 hx.1 hn).mono ?_
      rintro _ G2 ⟨⟨s1, s2, rfl, k2, k3⟩, hx2⟩
      (try replace b0 := hx2.blk b0); (try replace b1 := hx2.blk b1); (try replace hx := hx.trans hx2); (try replace k0 := k0.mono hx2); (try replace k1 := k1.mono hx2); (try replace k2 := k2.mono hx2); (try replace k3 := k3.mono hx2)
      have hz := blk_lt b1
      simp [h0, b1, k2.cells, k2.plain, k3.cells, k3.plain, hz, canonE]
      exact fun _ => ⟨s1, s2, rfl, k2.setT b1 (by decide), k3.setT b1 (by decide)⟩
    · have hz := blk_lt b1
      simp [h3, r_92_3, r_92_5, h0, b0, b1, hz, canonE]
      exact fun _ => ⟨_, _, rfl, Lim.nil, Lim.nil⟩

theorem lenR_valE (h : ExtV H v e) : lenR (canonE (valE e)).2 ≤ max (lenR e.2) 1 := by
  unfold valE canonE
  have h1 := szR_val h.ok.1 h.ok.2
  by_cases hm : mayE e = true
  · by_cases h0 : e.1 = 0
    · simp [hm, h0, lenR_canon]; omega
    · simp [hm, h0, lenR]
  · simp [hm, lenR_canon, szR_zero]; omega

theorem ext_Cmp_does (h : ExtV H v e) (k : ExtV H w f) (hf : fl ≤ H.size) (hn : lenR e.2 < 67108864) (hm : lenR f.2 < 67108864) : Does env fl f_53 [v, w] H (fun r H' => r = .int .i64 (cmpE (valE e) (valE f)) ∧ Ext H H') R := by
  have k0 := h
  have k1 := k
  have l1 := lenR_valE h
  have l2 := lenR_valE k
  obtain ⟨s, u, rfl, hs, hu⟩ := h
  obtain ⟨s', u', rfl, hs', hu'⟩ := k
  refine does_ext e_53 hf (h := ?_)
  intro ρ h0
  simp [s_53, r_53_0, h0]
  generalize hG : Array.push (Array.push H _) _ = G
  have hx2 : Ext H G := by rw [← hG]; exact (Ext.refl H).push.push
  have b0 : Heap.blk G H.size = .row false T_api_Ext [.int .i64 e.1, .bool e.2.1.1, s, .bool e.2.2.1, u] := by rw [← hG]; simp
  have b1 : Heap.blk G (H.size + 1) = .row false T_api_Ext [.int .i64 f.1, .bool f.2.1.1, s', .bool f.2.2.1, u'] := by rw [← hG]; simp
  have hx := Ext.refl H
  clear hG
  (try replace b0 := hx2.blk b0); (try replace b1 := hx2.blk b1); (try replace hx := hx.trans hx2); (try replace k0 := k0.mono hx2); (try replace k1 := k1.mono hx2); (try replace k2 := k2.mono hx2); (try replace k3 := k3.mono hx2); (try replace k4 := k4.mono hx2); (try replace k5 := k5.mono hx2)
  refine W_draw ?_
  simp [r_53_1, h0, b0]
  refine (ext_right_does k0 (by have := hx.1; omega) hn).mono ?_
  rintro _ G2 ⟨⟨s1, s2, rfl, k2, k3⟩, hx2⟩
  (try replace b0 := hx2.blk b0); (try replace b1 := hx2.blk b1); (try replace hx := hx.trans hx2); (try replace k0 := k0.mono hx2); (try replace k1 := k1.mono hx2); (try replace k2 := k2.mono hx2); (try replace k3 := k3.mono hx2); (try replace k4 := k4.mono hx2); (try replace k5 := k5.mono hx2)
  simp [h0, b1]
  refine (ext_right_does k1 hx.1 hm).mono ?_
  rintro _ G2 ⟨⟨s3, s4, rfl, k4, k5⟩, hx2⟩
  (try replace b0 := hx2.blk b0); (try replace b1 := hx2.blk b1); (try replace hx := hx.trans hx2); (try replace k0 := k0.mono hx2); (try replace k1 := k1.mono hx2); (try replace k2 := k2.mono hx2); (try replace k3 := k3.mono hx2); (try replace k4 := k4.mono hx2); (try replace k5 := k5.mono hx2)
  clear k0 k1
  have hz0 := blk_lt b0
  simp [h0, b0, k2.cells, k2.plain, k3.cells, k3.plain, hz0]
  generalize hS : Array.setIfInBounds _ _ _ = G3
  have hsz := hx.1; (try replace k0 := k0.setS hS b0 (by decide)); (try replace k1 := k1.setS hS b0 (by decide)); (try replace k2 := k2.setS hS b0 (by decide)); (try replace k3 := k3.setS hS b0 (by decide)); (try replace k4 := k4.setS hS b0 (by decide)); (try replace k5 := k5.setS hS b0 (by decide)); (try replace b1 := set_keep hS b1 (by omega)); (try replace hx := set_ext hS hx (by omega)); replace b0 := set_new hS b0; clear hS hsz
  have hz0 := blk_lt b1
  simp [b1, k4.cells, k4.plain, k5.cells, k5.plain, hz0]
  generalize hS : Array.setIfInBounds _ _ _ = G3
  have hsz := hx.1; (try replace k0 := k0.setS hS b1 (by decide)); (try replace k1 := k1.setS hS b1 (by decide)); (try replace k2 := k2.setS hS b1 (by decide)); (try replace k3 := k3.setS hS b1 (by decide)); (try replace k4 := k4.setS hS b1 (by decide)); (try replace k5 := k5.setS hS b1 (by decide)); (try replace b0 := set_keep hS b0 (by omega)); (try replace hx := set_ext hS hx (by omega)); replace b1 := set_new hS b1; clear hS hsz
  obtain ⟨x, hxv⟩ : ∃ x, x = valE e := ⟨_, rfl⟩
  obtain ⟨y, hyv⟩ : ∃ y, y = valE f := ⟨_, rfl⟩
  rw [← hxv] at l1 k2 k3 b0 ⊢
  rw [← hyv] at l2 k4 k5 b1 ⊢
  have kx : (canonE x).1 = x.1 := by unfold canonE; split <;> simp_all
  have ky : (canonE y).1 = y.1 := by unfold canonE; split <;> simp_all
  rw [kx] at b0
  rw [ky] at b1
  unfold cmpE
  simp [r_53_2, h0, b0, b1]
  by_cases h1 : x.1 < y.1
  · have h1' : ¬ y.1 ≤ x.1 := by omega
    simp [h1, h1', r_53_3]
  · by_cases h2 : y.1 < x.1
    · have h2' : ¬ x.1 ≤ y.1 := by omega
      have h1' : y.1 ≤ x.1 := by omega
      simp [h1, h1', h2, h2', r_53_4, r_53_5, h0, b0, b1]
    · by_cases h3 : x.1 = 0
      · have h4 : y.1 = 0 := by omega
        have kr : RatV _ (.agg #[.bool (canonE x).2.1.1, s1, .bool (canonE x).2.2.1, s2]) (canonE x).2 := ⟨s1, s2, rfl, k2, k3⟩
        have kq : RatV _ (.agg #[.bool (canonE y).2.1.1, s3, .bool (canonE y).2.2.1, s4]) (canonE y).2 := ⟨s3, s4, rfl, k4, k5⟩
        simp [h1, h2, h3, h4, r_53_4, r_53_6, r_53_8, h0, b0, b1]
        refine (rat_Cmp_does kr kq hx.1 (by omega) (by omega)).mono ?_
        rintro _ G2 ⟨rfl, hx2⟩
        have e1 : valR (canonE x).2 = x.2 := by unfold canonE; rw [if_pos h3]; exact valR_canon _
        have e2 : valR (canonE y).2 = y.2 := by unfold canonE; rw [if_pos h4]; exact valR_canon _
        simp [e1, e2]
      · have h4 : y.1 ≠ 0 := by omega
        simp [h1, h2, h3, h4, r_53_4, r_53_6, r_53_7, h0, b0, b1]


theorem ext_best_does {d : Bool} {g : FuncId} (h : ExtV H v e) (k : ExtV H w f) (hf : fl ≤ H.size)
    (hg : ∀ (fl : Nat) (G : Heap), Unit → fl ≤ G.size → ExtV G v e → ExtV G w f → Does env fl g [v, w] G (fun r H' => r = .bool d ∧ Ext G H') R) :
    Does env fl f_101 [v, w, .func (.func g) #[] #[]] H (fun r H' => ExtV H' r (if d = true then f else e) ∧ Ext H H') R := by
  have k0 := h
  have k1 := k
  obtain ⟨s, u, rfl, hs, hu⟩ := h
  obtain ⟨s', u', rfl, hs', hu'⟩ := k
  refine does_ext e_101 hf (h := ?_)
  intro ρ h0
  simp [s_101, r_101_0, h0]
  generalize hG : Array.push (Array.push (Array.push H _) _) _ = G
  have hx2 : Ext H G := by rw [← hG]; exact (Ext.refl H).push.push.push
  have b0 : Heap.blk G H.size = .row false T_api_Ext [.int .i64 e.1, .bool e.2.1.1, s, .bool e.2.2.1, u] := by rw [← hG]; simp
  have b1 : Heap.blk G (H.size + 1) = .row false T_api_Ext [.int .i64 f.1, .bool f.2.1.1, s', .bool f.2.2.1, u'] := by rw [← hG]; simp
  have b2 : Heap.blk G (H.size + 2) = .row false T_api_Ext [.int .i64 0, .bool false, .slice none 0 0, .bool false, .slice none 0 0] := by rw [← hG]; simp
  have hx := Ext.refl H
  clear hG
  (try replace b0 := hx2.blk b0); (try replace b1 := hx2.blk b1); (try replace b2 := hx2.blk b2); (try replace hx := hx.trans hx2); (try replace k0 := k0.mono hx2); (try replace k1 := k1.mono hx2); (try replace k2 := k2.mono hx2); (try replace k3 := k3.mono hx2); (try replace k4 := k4.mono hx2); (try replace k5 := k5.mono hx2)
  simp [r_101_1, h0, b0, b1]
  refine (hg _ _ () hx.1 k0 k1).mono ?_
  rintro _ G2 ⟨rfl, hx2⟩
  have k2 := hs.mono (hx.trans hx2)
  have k3 := hu.mono (hx.trans hx2)
  have k4 := hs'.mono (hx.trans hx2)
  have k5 := hu'.mono (hx.trans hx2)
  replace b1 := hx2.blk b1
  replace b0 := hx2.blk b0
  replace b2 := hx2.blk b2
  have hz := blk_lt b2
  cases d
  · simp [r_101_3, h0, b0, b1, b2, hz, k2.cells, k2.plain, k3.cells, k3.plain]
    exact fun _ => ⟨s, u, rfl, k2.setT b2 (by decide), k3.setT b2 (by decide)⟩
  · simp [r_101_2, h0, b0, b1, b2, hz, k4.cells, k4.plain, k5.cells, k5.plain]
    exact fun _ => ⟨s', u', rfl, k4.setT b2 (by decide), k5.setT b2 (by decide)⟩

theorem ext_Max_1_does (h : ExtV H v e) (k : ExtV H w f) (hf : fl ≤ H.size) (hn : lenR e.2 < 67108864) (hm : lenR f.2 < 67108864) : Does env fl f_102 [v, w] H (fun r H' => r = .bool (decide (cmpE (valE e) (valE f) < 0)) ∧ Ext H H') R := by
  have k0 := h
  have k1 := k
  obtain ⟨s, u, rfl, hs, hu⟩ := h
  obtain ⟨s', u', rfl, hs', hu'⟩ := k
  refine does_ext e_102 hf (h := ?_)
  intro ρ h0
  simp [s_102, r_102_0, h0]
  generalize hG : Array.push (Array.push H _) _ = G
  have hx2 : Ext H G := by rw [← hG]; exact (Ext.refl H).push.push
  have b0 : Heap.blk G H.size = .row false T_api_Ext [.int .i64 e.1, .bool e.2.1.1, s, .bool e.2.2.1, u] := by rw [← hG]; simp
  have b1 : Heap.blk G (H.size + 1) = .row false T_api_Ext [.int .i64 f.1, .bool f.2.1.1, s', .bool f.2.2.1, u'] := by rw [← hG]; simp
  have hx := Ext.refl H
  clear hG
  (try replace b0 := hx2.blk b0); (try replace b1 := hx2.blk b1); (try replace hx := hx.trans hx2); (try replace k0 := k0.mono hx2); (try replace k1 := k1.mono hx2)
  simp [r_102_1, h0, b0, b1]
  refine (ext_Cmp_does k0 k1 hx.1 hn hm).mono ?_
  rintro _ G2 ⟨rfl, hx2⟩
  simp

theorem ext_Max_does (h : ExtV H v e) (k : ExtV H w f) (hf : fl ≤ H.size) (hn : lenR e.2 < 67108864) (hm : lenR f.2 < 67108864) : Does env fl f_69 [v, w] H (fun r H' => ExtV H' r (canonE (if cmpE (valE e) (valE f) < 0 then valE f else valE e)) ∧ Ext H H') R := by
  have k0 := h
  have k1 := k
  obtain ⟨s, u, rfl, hs, hu⟩ := h
  obtain ⟨s', u', rfl, hs', hu'⟩ := k
  refine does_ext e_69 hf (h := ?_)
  intro ρ h0
  simp [s_69, r_69_0, h0]
  generalize hG : Array.push (Array.push (Array.push H _) _) _ = G
  have hx2 : Ext H G := by rw [← hG]; exact (Ext.refl H).push.push.push
  have b0 : Heap.blk G H.size = .row false T_api_Ext [.int .i64 e.1, .bool e.2.1.1, s, .bool e.2.2.1, u] := by rw [← hG]; simp
  have b1 : Heap.blk G (H.size + 1) = .row false T_api_Ext [.int .i64 f.1, .bool f.2.1.1, s', .bool f.2.2.1, u'] := by rw [← hG]; simp
  have b2 : Heap.blk G (H.size + 2) = .row false T_api_Ext [.int .i64 0, .bool false, .slice none 0 0, .bool false, .slice none 0 0] := by rw [← hG]; simp
  have hx := Ext.refl H
  clear hG
  (try replace b0 := hx2.blk b0); (try replace b1 := hx2.blk b1); (try replace b2 := hx2.blk b2); (try replace hx := hx.trans hx2); (try replace k0 := k0.mono hx2); (try replace k1 := k1.mono hx2); (try replace k2 := k2.mono hx2); (try replace k3 := k3.mono hx2); (try replace k4 := k4.mono hx2)
  simp [r_69_1, h0, b0, b1]
  refine (ext_best_does (d := decide (cmpE (valE e) (valE f) < 0)) (g := f_102) k0 k1 hx.1 (fun fl G x hf h k => ext_Max_1_does h k hf hn hm)).mono ?_
  rintro _ G2 ⟨k2, hx2⟩
  (try replace b0 := hx2.blk b0); (try replace b1 := hx2.blk b1); (try replace b2 := hx2.blk b2); (try replace hx := hx.trans hx2); (try replace k0 := k0.mono hx2); (try replace k1 := k1.mono hx2); (try replace k2 := k2.mono hx2); (try replace k3 := k3.mono hx2); (try replace k4 := k4.mono hx2)
  simp [h0]
  refine (ext_right_does (e := if decide (cmpE (valE e) (valE f) < 0) = true then f else e) k2 hx.1 (by split <;> assumption)).mono ?_
  rintro _ G2 ⟨⟨s1, s2, rfl, k3, k4⟩, hx2⟩
  (try replace b0 := hx2.blk b0); (try replace b1 := hx2.blk b1); (try replace b2 := hx2.blk b2); (try replace hx := hx.trans hx2); (try replace k0 := k0.mono hx2); (try replace k1 := k1.mono hx2); (try replace k2 := k2.mono hx2); (try replace k3 := k3.mono hx2); (try replace k4 := k4.mono hx2)
  have hz := blk_lt b2
  simp [h0, b2, k3.cells, k3.plain, k4.cells, k4.plain, hz]
  refine fun _ => ⟨s1, s2, ?_, ?_, ?_⟩
  · by_cases hd : cmpE (valE e) (valE f) < 0 <;> simp [hd]
  · have := k3.setT (r := .row false T_api_Ext [.int .i64 (canonE (valE (if cmpE (valE e) (valE f) < 0 then f else e))).1, .bool (canonE (valE (if cmpE (valE e) (valE f) < 0 then f else e))).2.1.1, s1, .bool (canonE (valE (if cmpE (valE e) (valE f) < 0 then f else e))).2.2.1, s2]) b2 (by decide)
    by_cases hd : cmpE (valE e) (valE f) < 0 <;> simpa [hd] using this
  · have := k4.setT (r := .row false T_api_Ext [.int .i64 (canonE (valE (if cmpE (valE e) (valE f) < 0 then f else e))).1, .bool (canonE (valE (if cmpE (valE e) (valE f) < 0 then f else e))).2.1.1, s1, .bool (canonE (valE (if cmpE (valE e) (valE f) < 0 then f else e))).2.2.1, s2]) b2 (by decide)
    by_cases hd : cmpE (valE e) (valE f) < 0 <;> simpa [hd] using this
theorem ext_Min_1_does (h : ExtV H v e) (k : ExtV H w f) (hf : fl ≤ H.size) (hn : lenR e.2 < 67108864) (hm : lenR f.2 < 67108864) : Does env fl f_103 [v, w] H (fun r H' => r = .bool (decide (0 < cmpE (valE e) (valE f))) ∧ Ext H H') R := by
  have k0 := h
  have k1 := k
  obtain ⟨s, u, rfl, hs, hu⟩ := h
  obtain ⟨s', u', rfl, hs', hu'⟩ := k
  refine does_ext e_103 hf (h := ?_)
  intro ρ h0
  simp [s_103, r_103_0, h0]
  generalize hG : Array.push (Array.push H _) _ = G
  have hx2 : Ext H G := by rw [← hG]; exact (Ext.refl H).push.push
  have b0 : Heap.blk G H.size = .row false T_api_Ext [.int .i64 e.1, .bool e.2.1.1, s, .bool e.2.2.1, u] := by rw [← hG]; simp
  have b1 : Heap.blk G (H.size + 1) = .row false T_api_Ext [.int .i64 f.1, .bool f.2.1.1, s', .bool f.2.2.1, u'] := by rw [← hG]; simp
  have hx := Ext.refl H
  clear hG
  (try replace b0 := hx2.blk b0); (try replace b1 := hx2.blk b1); (try replace hx := hx.trans hx2); (try replace k0 := k0.mono hx2); (try replace k1 := k1.mono hx2)
  simp [r_103_1, h0, b0, b1]
  refine (ext_Cmp_does k0 k1 hx.1 hn hm).mono ?_
  rintro _ G2 ⟨rfl, hx2⟩
  simp

theorem ext_Min_does (h : ExtV H v e) (k : ExtV H w f) (hf : fl ≤ H.size) (hn : lenR e.2 < 67108864) (hm : lenR f.2 < 67108864) : Does env fl f_71 [v, w] H (fun r H' => ExtV H' r (canonE (if 0 < cmpE (valE e) (valE f) then valE f else valE e)) ∧ Ext H H') R := by
  have k0 := h
  have k1 := k
  obtain ⟨s, u, rfl, hs, hu⟩ := h
  obtain ⟨s', u', rfl, hs', hu'⟩ := k
  refine does_ext e_71 hf (h := ?_)
  intro ρ h0
  simp [s_71, r_71_0, h0]
  generalize hG : Array.push (Array.push (Array.push H _) _) _ = G
  have hx2 : Ext H G := by rw [← hG]; exact (Ext.refl H).push.push.push
  have b0 : Heap.blk G H.size = .row false T_api_Ext [.int .i64 e.1, .bool e.2.1.1, s, .bool e.2.2.1, u] := by rw [← hG]; simp
  have b1 : Heap.blk G (H.size + 1) = .row false T_api_Ext [.int .i64 f.1, .bool f.2.1.1, s', .bool f.2.2.1, u'] := by rw [← hG]; simp
  have b2 : Heap.blk G (H.size + 2) = .row false T_api_Ext [.int .i64 0, .bool false, .slice none 0 0, .bool false, .slice none 0 0] := by rw [← hG]; simp
  have hx := Ext.refl H
  clear hG
  (try replace b0 := hx2.blk b0); (try replace b1 := hx2.blk b1); (try replace b2 := hx2.blk b2); (try replace hx := hx.trans hx2); (try replace k0 := k0.mono hx2); (try replace k1 := k1.mono hx2); (try replace k2 := k2.mono hx2); (try replace k3 := k3.mono hx2); (try replace k4 := k4.mono hx2)
  simp [r_71_1, h0, b0, b1]
  refine (ext_best_does (d := decide (0 < cmpE (valE e) (valE f))) (g := f_103) k0 k1 hx.1 (fun fl G x hf h k => ext_Min_1_does h k hf hn hm)).mono ?_
  rintro _ G2 ⟨k2, hx2⟩
  (try replace b0 := hx2.blk b0); (try replace b1 := hx2.blk b1); (try replace b2 := hx2.blk b2); (try replace hx := hx.trans hx2); (try replace k0 := k0.mono hx2); (try replace k1 := k1.mono hx2); (try replace k2 := k2.mono hx2); (try replace k3 := k3.mono hx2); (try replace k4 := k4.mono hx2)
  simp [h0]
  refine (ext_right_does (e := if decide (0 < cmpE (valE e) (valE f)) = true then f else e) k2 hx.1 (by split <;> assumption)).mono ?_
  rintro _ G2 ⟨⟨s1, s2, rfl, k3, k4⟩, hx2⟩
  (try replace b0 := hx2.blk b0); (try replace b1 := hx2.blk b1); (try replace b2 := hx2.blk b2); (try replace hx := hx.trans hx2); (try replace k0 := k0.mono hx2); (try replace k1 := k1.mono hx2); (try replace k2 := k2.mono hx2); (try replace k3 := k3.mono hx2); (try replace k4 := k4.mono hx2)
  have hz := blk_lt b2
  simp [h0, b2, k3.cells, k3.plain, k4.cells, k4.plain, hz]
  refine fun _ => ⟨s1, s2, ?_, ?_, ?_⟩
  · by_cases hd : 0 < cmpE (valE e) (valE f) <;> simp [hd]
  · have := k3.setT (r := .row false T_api_Ext [.int .i64 (canonE (valE (if 0 < cmpE (valE e) (valE f) then f else e))).1, .bool (canonE (valE (if 0 < cmpE (valE e) (valE f) then f else e))).2.1.1, s1, .bool (canonE (valE (if 0 < cmpE (valE e) (valE f) then f else e))).2.2.1, s2]) b2 (by decide)
    by_cases hd : 0 < cmpE (valE e) (valE f) <;> simpa [hd] using this
  · have := k4.setT (r := .row false T_api_Ext [.int .i64 (canonE (valE (if 0 < cmpE (valE e) (valE f) then f else e))).1, .bool (canonE (valE (if 0 < cmpE (valE e) (valE f) then f else e))).2.1.1, s1, .bool (canonE (valE (if 0 < cmpE (valE e) (valE f) then f else e))).2.2.1, s2]) b2 (by decide)
    by_cases hd : 0 < cmpE (valE e) (valE f) <;> simpa [hd] using this
end Go.Proofs.YtjlohmnnldbjoaaGreat.AI

/- Loops that count; slices of what has a shape. -/
namespace Go.Proofs.YtjlohmnnldbjoaaGreat.AI
open Go

/-- what is so where a round ends. -/
def forQ (b2 b : Nat) (A : Tmps → Heap → Prop) (Z : Tmps → Heap → Prop) (Q : PostX) : PostX
  | .normal, t, H => A t H
  | .exit j, t, H => if j = b2 then A t H else if j = b then Z t H else Q (.exit j) t H
  | .ret, t, H => Q .ret t H
section
variable {b2 b : Nat} {A Z : Tmps → Heap → Prop} {Q : PostX} {t : Tmps} {H : Heap}
@[simp] theorem forQ_normal : forQ b2 b A Z Q .normal t H = A t H := nr rfl
@[simp] theorem forQ_exit {j : Nat} : forQ b2 b A Z Q (.exit j) t H = if j = b2 then A t H else if j = b then Z t H else Q (.exit j) t H := nr rfl
@[simp] theorem forQ_ret : forQ b2 b A Z Q .ret t H = Q .ret t H := nr rfl
end

/-- behind a round. -/
def Rnd (nt ti tn n i : Nat) (Inv : Nat → (Nat → Value) → Heap → Prop) (t : Tmps) (H : Heap) : Prop :=
  ∃ ρ, t = T nt ρ ∧ ρ ti = .int .i64 (i : Int) ∧ ρ tn = .int .i64 (n : Int) ∧ Inv (i + 1) ρ H
theorem Rnd.mk {nt ti tn n i : Nat} {Inv : Nat → (Nat → Value) → Heap → Prop} {ρ : Nat → Value} {H : Heap} (h1 : ρ ti = .int .i64 (i : Int)) (h2 : ρ tn = .int .i64 (n : Int)) (h3 : Inv (i + 1) ρ H) : Rnd nt ti tn n i Inv (T nt ρ) H := ⟨ρ, rfl, h1, h2, h3⟩

theorem W_for {E : Env} {fl nt ti tn tc tx b b2 n : Nat} {body : SCode} {Z : Tmps → Heap → Prop} {Q : PostX} {R : PostP} {ρ : Nat → Value} {H : Heap} {rc rx : List SOper} (Inv : Nat → (Nat → Value) → Heap → Prop)
    (hrc : rc = [⟨some tc, none, .bin 0 .lss (.tmp ti) (.tmp tn)⟩]) (hrx : rx = [⟨some tx, none, .bin 0 .add (.tmp ti) (.const (.int .i64 1))⟩, ⟨some ti, none, .mv (.tmp tx)⟩])
    (hl : ti < nt ∧ tn < nt ∧ tc < nt ∧ tx < nt ∧ tc ≠ ti ∧ tc ≠ tn ∧ tx ≠ ti ∧ tx ≠ tn ∧ ti ≠ tn) (hn : n < 4611686018427387904)
    (h0 : ρ ti = .int .i64 0) (hN : ρ tn = .int .i64 (n : Int)) (hI : Inv 0 ρ H)
    (stab : ∀ i (ρ ρ' : Nat → Value) H, (∀ k, k ≠ tc → k ≠ tx → k ≠ ti → ρ' k = ρ k) → Inv i ρ H → Inv i ρ' H)
    (step : ∀ i ρ H, i < n → ρ ti = .int .i64 (i : Int) → ρ tn = .int .i64 (n : Int) → Inv i ρ H → W E fl body (T nt ρ) H (forQ b2 b (Rnd nt ti tn n i Inv) Z Q) R)
    (rest : ∀ ρ H, ρ ti = .int .i64 (n : Int) → ρ tn = .int .i64 (n : Int) → Inv n ρ H → Z (T nt ρ) H) :
    W E fl (.loop (.seq (.reg rc) (.seq (.cond (.tmp tc) .skip (.exit b)) (.seq (.block b2 body) (.reg rx))))) (T nt ρ) H (blockW b (thenW Z Q)) R := by
  subst hrc hrx
  obtain ⟨l1, l2, l3, l4, n1, n2, n3, n4, n5⟩ := hl
  refine W_loopM (fun k t G => ∃ i ρ, i + k = n ∧ t = T nt ρ ∧ ρ ti = .int .i64 (i : Int) ∧ ρ tn = .int .i64 (n : Int) ∧ Inv i ρ G) Z n ?_ ?_ (fun _ _ h => h)
  · exact ⟨0, ρ, by omega, rfl, h0, hN, hI⟩
  · clear h0 hN hI ρ H
    rintro k t G ⟨i, ρ, hik, rfl, g1, g2, hI⟩
    have e9 : IntKind.i64.wrap ((i : Int) + 1) = ((i + 1 : Nat) : Int) := by rw [wrap64 (by omega) (by omega)]; omega
    have hstab : ∀ v, Inv i (upd ρ tc v) G := fun v => stab i ρ _ G (fun k h1 _ _ => upd_ne (Ne.symm h1)) hI
    refine W_seq (W_reg ?_)
    simp only [WR_cons, WS_bin, ev_tmp, get_T l1, get_T l2, g1, g2, binA_lss, oo_some, WR_nil, thenW_normal, put_T]
    by_cases hi : i < n
    · have hs := step i (upd ρ tc (.bool true)) G hi (by rw [upd_ne n1]; exact g1) (by rw [upd_ne n2]; exact g2) (hstab _)
      have hd : decide ((i : Int) < (n : Int)) = true := by rw [decide_eq_true_eq]; omega
      rw [hd]
      refine W_seq (W_cond true (by rw [ev_tmp, get_T l3, upd_self]) (fun _ => W_skip ?_) (by simp))
      refine W_seq (W_block ?_)
      have hfin : ∀ t' H', Rnd nt ti tn n i Inv t' H' → WR E fl [⟨some tx, none, .bin 0 .add (.tmp ti) (.const (.int .i64 1))⟩, ⟨some ti, none, .mv (.tmp tx)⟩] t' H' (fun t' H' => ∃ k', k' < k ∧ ∃ i ρ, i + k' = n ∧ t' = T nt ρ ∧ ρ ti = .int .i64 (i : Int) ∧ ρ tn = .int .i64 (n : Int) ∧ Inv i ρ H') R := by
        rintro t' H' ⟨ρ', rfl, q1, q2, q3⟩
        simp only [WR_cons, WS_bin, WS_mv, ev_tmp, ev_const, get_T l1, q1, binA_add, e9, oo_some, WR_nil, put_T, get_T l4, upd_self]
        refine ⟨k - 1, by omega, i + 1, _, by omega, rfl, upd_self, ?_, ?_⟩
        · rw [upd_ne n5, upd_ne n4]; exact q2
        · exact stab (i + 1) ρ' _ H' (fun k h1 h2 h3 => by rw [upd_ne (Ne.symm h3), upd_ne (Ne.symm h2)]) q3
      refine hs.mono fun e t' H' hq => ?_
      cases e with
      | normal => exact W_reg (hfin _ _ hq)
      | exit j =>
        simp only [forQ] at hq
        show (if j = b2 then _ else _)
        by_cases hj : j = b2
        · rw [if_pos hj] at hq ⊢; exact W_reg (hfin _ _ hq)
        · rw [if_neg hj] at hq ⊢
          show (if j = b then _ else _)
          by_cases hj2 : j = b
          · rw [if_pos hj2] at hq ⊢; exact hq
          · rw [if_neg hj2] at hq ⊢; exact hq
      | ret => exact hq
    · have : i = n := by omega
      subst this
      have hd : decide ((i : Int) < (i : Int)) = false := by simp
      rw [hd]
      refine W_seq (W_cond false (by rw [ev_tmp, get_T l3, upd_self]) (by simp) (fun _ => W_exit ?_))
      show (if b = b then _ else _)
      rw [if_pos rfl]
      exact rest _ _ (by rw [upd_ne n1]; exact g1) (by rw [upd_ne n2]; exact g2) (hstab _)

theorem thenW_same {Q : PostX} : thenW (fun t H => Q .normal t H) Q = Q := by
  funext e t H; cases e <;> rfl
/-- a loop behind which nothing stands. -/
theorem W_forE {E : Env} {fl nt ti tn tc tx b b2 n : Nat} {body : SCode} {Q : PostX} {R : PostP} {ρ : Nat → Value} {H : Heap} {rc rx : List SOper} (Inv : Nat → (Nat → Value) → Heap → Prop)
    (hrc : rc = [⟨some tc, none, .bin 0 .lss (.tmp ti) (.tmp tn)⟩]) (hrx : rx = [⟨some tx, none, .bin 0 .add (.tmp ti) (.const (.int .i64 1))⟩, ⟨some ti, none, .mv (.tmp tx)⟩])
    (hl : ti < nt ∧ tn < nt ∧ tc < nt ∧ tx < nt ∧ tc ≠ ti ∧ tc ≠ tn ∧ tx ≠ ti ∧ tx ≠ tn ∧ ti ≠ tn) (hn : n < 4611686018427387904)
    (h0 : ρ ti = .int .i64 0) (hN : ρ tn = .int .i64 (n : Int)) (hI : Inv 0 ρ H)
    (stab : ∀ i (ρ ρ' : Nat → Value) H, (∀ k, k ≠ tc → k ≠ tx → k ≠ ti → ρ' k = ρ k) → Inv i ρ H → Inv i ρ' H)
    (step : ∀ i ρ H, i < n → ρ ti = .int .i64 (i : Int) → ρ tn = .int .i64 (n : Int) → Inv i ρ H → W E fl body (T nt ρ) H (forQ b2 b (Rnd nt ti tn n i Inv) (fun t H => Q .normal t H) Q) R)
    (rest : ∀ ρ H, ρ ti = .int .i64 (n : Int) → ρ tn = .int .i64 (n : Int) → Inv n ρ H → Q .normal (T nt ρ) H) :
    W E fl (.loop (.seq (.reg rc) (.seq (.cond (.tmp tc) .skip (.exit b)) (.seq (.block b2 body) (.reg rx))))) (T nt ρ) H (blockW b Q) R := by
  rw [← thenW_same (Q := Q)]
  exact W_for (Z := fun t H => Q .normal t H) (Q := Q) Inv hrc hrx hl hn h0 hN hI stab step rest

/-! ### slices of what has a shape -/
/-- v is a slice of elements, each of sz cells that say what stands in l. -/
def Sls {α : Type} (P : Heap → List Value → α → Prop) (H : Heap) (e sz : Nat) (v : Value) (l : List α) : Prop :=
  ∃ cs, Sl H e sz v l.length cs ∧ ∀ k (h : k < l.length), P H ((cs.drop (k * sz)).take sz) l[k]
def MonoP {α : Type} (P : Heap → List Value → α → Prop) : Prop := ∀ H G cs x, Ext H G → P H cs x → P G cs x
section
variable {α : Type} {P : Heap → List Value → α → Prop} {H G : Heap} {e sz : Nat} {v : Value} {l : List α}
theorem Sls.mono (hP : MonoP P) (h : Sls P H e sz v l) (hx : Ext H G) : Sls P G e sz v l := by
  obtain ⟨cs, h1, h2⟩ := h; exact ⟨cs, h1.mono hx, fun k hk => hP _ _ _ _ hx (h2 k hk)⟩
theorem Sls.slen (h : Sls P H e sz v l) : slenV v = some (.int .i64 l.length) := by obtain ⟨cs, h1, _⟩ := h; exact h1.slen
theorem Sls.ia (h : Sls P H e sz v l) {k : IntKind} {j : Nat} (hj : j < l.length) : iaV sz v (.int k j) = some (adr sz v j) := by obtain ⟨cs, h1, _⟩ := h; exact h1.ia hj
theorem Sls.load (h : Sls P H e sz v l) {j : Nat} (hj : j < l.length) (hs : 0 < sz) : ∃ cs, loadA H true sz (adr sz v j) = some (.agg cs.toArray) ∧ cs.length = sz ∧ P H cs l[j] := by
  obtain ⟨cs, h1, h2⟩ := h
  refine ⟨_, h1.load (Ext.refl H) hj hs, ?_, h2 j hj⟩
  have := h1.1
  have : (j + 1) * sz ≤ l.length * sz := Nat.mul_le_mul_right _ hj
  rw [Nat.add_mul, Nat.one_mul] at this
  simp; omega
theorem Sls.load1 (h : Sls P H e 1 v l) {j : Nat} (hj : j < l.length) : ∃ w, loadA H false 1 (adr 1 v j) = some w ∧ P H [w] l[j] := by
  obtain ⟨cs, h1, h2⟩ := h
  refine ⟨_, h1.load1 (Ext.refl H) hj, ?_⟩
  have h3 := h2 j hj
  have hl := h1.1
  have : (cs.drop (j * 1)).take 1 = [cs.getD j undef] := by
    have hjc : j < cs.length := by omega
    have e1 : cs.getD j undef = cs[j] := by simp [List.getD_eq_getElem?_getD, hjc]
    rw [Nat.mul_one, List.drop_eq_getElem_cons hjc, e1]; rfl
  rw [this] at h3; exact h3
theorem Sls.cells (h : Sls P H e sz v l) : cellsL v = [v] := by obtain ⟨cs, h1, _⟩ := h; exact h1.cells
theorem Sls.plain (h : Sls P H e sz v l) : plainCell v = true := by obtain ⟨cs, h1, _⟩ := h; exact h1.plain
theorem Sls.nil : Sls P H e sz (.slice none 0 0) ([] : List α) := ⟨[], Sl.nil, fun k hk => by simp at hk⟩
end

/-- such a slice that is all of a block of one's own. -/
def Owns {α : Type} (P : Heap → List Value → α → Prop) (fl : Nat) (H : Heap) (e sz : Nat) (v : Value) (l : List α) : Prop :=
  ∃ cs, Own fl H e sz v l.length cs ∧ ∀ k (h : k < l.length), P H ((cs.drop (k * sz)).take sz) l[k]
section
variable {α : Type} {P : Heap → List Value → α → Prop} {H G : Heap} {fl e sz : Nat} {v : Value} {l : List α}
theorem Owns.sls (h : Owns P fl H e sz v l) : Sls P H e sz v l := by obtain ⟨cs, h1, h2⟩ := h; exact ⟨cs, h1.sl, h2⟩
theorem Owns.mono (hP : MonoP P) (h : Owns P fl H e sz v l) (hx : Ext H G) : Owns P fl G e sz v l := by
  obtain ⟨cs, h1, h2⟩ := h; exact ⟨cs, h1.mono hx, fun k hk => hP _ _ _ _ hx (h2 k hk)⟩
theorem Owns.nil : Owns P fl H e sz (.slice none 0 0) ([] : List α) := ⟨[], Own.nil, fun k hk => by simp at hk⟩
theorem Owns.slen (h : Owns P fl H e sz v l) : slenV v = some (.int .i64 l.length) := h.sls.slen

/-- limbs stay. -/
def Lx (H G : Heap) : Prop := ∀ b ro cs, H.blk b = .row ro T_uint32 cs → G.blk b = .row ro T_uint32 cs
theorem Owns.lx (h : Owns P fl G e sz v l) (he : e ≠ T_uint32) {G' : Heap} (hx : ExtB (slB v) G G') : Lx G G' := by
  intro b ro cs hb
  obtain ⟨cs', ⟨hl, ⟨rfl, _⟩ | ⟨p, cap, rfl, hp, _⟩⟩, _⟩ := h
  · rw [hx.2 b (blk_lt hb) (by simp [slB])]; exact hb
  · rw [hx.2 b (blk_lt hb) (by simp [slB]; rintro rfl; rw [hp] at hb; cases hb; exact he rfl)]; exact hb
/-- one element more, by a literal. -/
theorem Owns.app (he : e ≠ T_uint32) (hO : ∀ G' cs x, ExtB (slB v) G G' → Lx G G' → P G cs x → P G' cs x) (h : Owns P fl G e sz v l) {e2 c bytes : Nat} {new : List Value} {x : α} (hx : P G new x) (hl : new.length = sz) (hp : new.all plainCell = true) (hn : l.length < 1073741824) (hb : bytes ≤ 1024) (hs : 0 < sz) (hfl : fl ≤ G.size) :
    ∃ v' G', appA fl (G.push (.row false e2 new)) e sz bytes v (.slice (some ⟨G.size, 0, none⟩) 1 c) = some (v', G') ∧ Owns P fl G' e sz v' (l ++ [x]) ∧ ExtB (slB v) G G' ∧ (∀ H0, H0.size ≤ fl → Ext H0 G → Ext H0 G') := by
  obtain ⟨cs, h1, h2⟩ := h
  obtain ⟨v', G', a1, a2, a3, a4⟩ := app_lit (e2 := e2) (c := c) h1 hl hp hn hb hs hfl (bytes := bytes)
  refine ⟨v', G', a1, ⟨cs ++ new, by simpa using a2, fun k hk => ?_⟩, a3, a4⟩
  have hcs := h1.1
  by_cases hkl : k < l.length
  · have h3 : (k + 1) * sz ≤ l.length * sz := Nat.mul_le_mul_right _ hkl
    rw [Nat.add_mul, Nat.one_mul] at h3
    rw [List.getElem_append_left hkl, List.drop_append_of_le_length (by omega), List.take_append_of_le_length (by simp; omega)]
    exact hO _ _ _ a3 (Owns.lx ⟨cs, h1, h2⟩ he a3) (h2 k hkl)
  · have hke : k = l.length := by simp at hk; omega
    subst hke
    rw [List.getElem_append_right (Nat.le_refl _), List.drop_append_of_le_length (by omega), List.drop_eq_nil_of_le (by omega), List.nil_append, ← hl, List.take_length]
    simpa using hO _ _ _ a3 (Owns.lx ⟨cs, h1, h2⟩ he a3) hx
end

theorem Lim.lx {H G : Heap} {v : Value} {l : List Nat} (h : Lim H v l) (hx : Lx H G) : Lim G v l := by
  obtain ⟨⟨hl, h1 | ⟨b, off, cap, ro, cells, rfl, hb, ho, hcs⟩⟩, h2⟩ := h
  · exact ⟨⟨hl, .inl h1⟩, h2⟩
  · exact ⟨⟨hl, .inr ⟨b, off, cap, ro, cells, rfl, hx _ _ _ hb, ho, hcs⟩⟩, h2⟩
theorem RatV.lx {H G : Heap} {v : Value} {a : RawR} (h : RatV H v a) (hx : Lx H G) : RatV G v a := by obtain ⟨s, u, h1, h2, h3⟩ := h; exact ⟨s, u, h1, h2.lx hx, h3.lx hx⟩
theorem ExtV.lx {H G : Heap} {v : Value} {e : RawE} (h : ExtV H v e) (hx : Lx H G) : ExtV G v e := by obtain ⟨s, u, h1, h2, h3⟩ := h; exact ⟨s, u, h1, h2.lx hx, h3.lx hx⟩

end Go.Proofs.YtjlohmnnldbjoaaGreat.AI

/- Rows of quotients; vec.Dot. -/
namespace Go.Proofs.YtjlohmnnldbjoaaGreat.AI
open Go
set_option maxHeartbeats 4000000

variable {fl : Nat} {H G : Heap} {R : PostP} {v w : Value}

def PR (H : Heap) (cs : List Value) (a : RawR) : Prop := RatV H (.agg cs.toArray) a
def PE (H : Heap) (cs : List Value) (e : RawE) : Prop := ExtV H (.agg cs.toArray) e
theorem monoPR : MonoP PR := fun _ _ _ _ hx h => RatV.mono h hx
theorem monoPE : MonoP PE := fun _ _ _ _ hx h => ExtV.mono h hx
/-- rows of quotients, of ends, of rows. -/
abbrev RatsV (H : Heap) (v : Value) (l : List RawR) : Prop := Sls PR H T_api_Rat 4 v l
abbrev ExtsV (H : Heap) (v : Value) (l : List RawE) : Prop := Sls PE H T_api_Ext 5 v l
def PS (H : Heap) (cs : List Value) (l : List RawR) : Prop := ∃ v, cs = [v] ∧ RatsV H v l
theorem monoPS : MonoP PS := fun _ _ _ _ hx ⟨v, h1, h2⟩ => ⟨v, h1, h2.mono monoPR hx⟩
abbrev RowsV (H : Heap) (v : Value) (l : List (List RawR)) : Prop := Sls PS H T_sl_api_Rat 1 v l

theorem RatsV.load {l : List RawR} (h : RatsV H v l) {j : Nat} (hj : j < l.length) : ∃ w, loadA H true 4 (adr 4 v j) = some w ∧ RatV H w l[j] := by
  obtain ⟨cs, h1, _, h3⟩ := Sls.load h hj (by omega); exact ⟨_, h1, h3⟩
theorem ExtsV.load {l : List RawE} (h : ExtsV H v l) {j : Nat} (hj : j < l.length) : ∃ w, loadA H true 5 (adr 5 v j) = some w ∧ ExtV H w l[j] := by
  obtain ⟨cs, h1, _, h3⟩ := Sls.load h hj (by omega); exact ⟨_, h1, h3⟩
theorem RowsV.load {l : List (List RawR)} (h : RowsV H v l) {j : Nat} (hj : j < l.length) : ∃ w, loadA H false 1 (adr 1 v j) = some w ∧ RatsV H w l[j] := by
  obtain ⟨w, h1, w', h2, h3⟩ := Sls.load1 h hj
  simp at h2; subst h2; exact ⟨_, h1, h3⟩

/-- quotients of so many limbs at most. -/
def Few (S : Nat) (l : List RawR) : Prop := ∀ x ∈ l, lenR x ≤ S ∧ LimOk x.1.2 ∧ LimOk x.2.2
theorem Few.sz {S : Nat} {l : List RawR} (h : Few S l) (n : Nat) : szR (valR (l.getD n rawZ)) ≤ S + 1 := by
  rw [List.getD_eq_getElem?_getD]
  by_cases hn : n < l.length
  · rw [List.getElem?_eq_getElem hn]
    obtain ⟨h1, h2, h3⟩ := h _ (List.getElem_mem hn)
    have := szR_val h2 h3
    simp; omega
  · rw [List.getElem?_eq_none (by omega)]
    show szR (valR rawZ) ≤ _
    rw [valR_rawZ, szR_zero]; omega
end Go.Proofs.YtjlohmnnldbjoaaGreat.AI

/- dom: Le, Join, Meet, none. -/
namespace Go.Proofs.YtjlohmnnldbjoaaGreat.AI
open Go
set_option maxHeartbeats 4000000

variable {fl : Nat} {H G : Heap} {R : PostP} {v w : Value} {a b : List RawE}

def PB (_ : Heap) (cs : List Value) (x : Bool) : Prop := cs = [.bool x]
theorem monoPB : MonoP PB := fun _ _ _ _ _ h => h

theorem dom_Le_1_does {e f : RawE} (h : ExtV H v e) (k : ExtV H w f) (hf : fl ≤ H.size) (hn : lenR e.2 < 67108864) (hm : lenR f.2 < 67108864) : Does env fl f_64 [v, w] H (fun r H' => r = .bool (decide (0 < cmpE (valE e) (valE f))) ∧ Ext H H') R := by
  have k0 := h
  have k1 := k
  obtain ⟨s, u, rfl, hs, hu⟩ := h
  obtain ⟨s', u', rfl, hs', hu'⟩ := k
  refine does_ext e_64 hf (h := ?_)
  intro ρ h0
  simp [s_64, r_64_0, h0]
  generalize hG : Array.push (Array.push H _) _ = G
  have hx2 : Ext H G := by rw [← hG]; exact (Ext.refl H).push.push
  have b0 : Heap.blk G H.size = .row false T_api_Ext [.int .i64 e.1, .bool e.2.1.1, s, .bool e.2.2.1, u] := by rw [← hG]; simp
  have b1 : Heap.blk G (H.size + 1) = .row false T_api_Ext [.int .i64 f.1, .bool f.2.1.1, s', .bool f.2.2.1, u'] := by rw [← hG]; simp
  have hx := Ext.refl H
  clear hG
  (try replace b0 := hx2.blk b0); (try replace b1 := hx2.blk b1); (try replace hx := hx.trans hx2); (try replace k0 := k0.mono hx2); (try replace k1 := k1.mono hx2)
  simp [r_64_1, h0, b0, b1]
  refine (ext_Cmp_does k0 k1 hx.1 hn hm).mono ?_
  rintro _ G2 ⟨rfl, hx2⟩
  simp

theorem Owns.cast {α : Type} {P : Heap → List Value → α → Prop} {fl e sz : Nat} {v v' : Value} {l : List α} (h : v = v') (k : Owns P fl H e sz v' l) : Owns P fl H e sz v l := by rw [h]; exact k
theorem take_zip {α β γ : Type} {f : α → β → γ} {a : List α} {b : List β} {i : Nat} (h1 : i < a.length) (h2 : i < b.length) : (List.zipWith f a b).take (i + 1) = (List.zipWith f a b).take i ++ [f a[i] b[i]] := by
  have h : i < (List.zipWith f a b).length := by simp; omega
  rw [List.take_succ_eq_append_getElem h, List.getElem_zipWith]

/-- of so many limbs at most. -/
def FewE (l : List RawE) : Prop := ∀ x ∈ l, lenR x.2 < 67108864

theorem zipB_does {d : RawE → RawE → Bool} {g : FuncId} (ha : ExtsV H v a) (hb : ExtsV H w b) (hf : fl ≤ H.size) (hfa : FewE a) (hfb : FewE b) (hal : a.length < 1073741824)
    (hg : ∀ (fl : Nat) (G : Heap) (v w : Value) (e f : RawE), fl ≤ G.size → ExtV G v e → ExtV G w f → lenR e.2 < 67108864 → lenR f.2 < 67108864 → Does env fl g [v, w] G (fun r H' => r = .bool (d e f) ∧ Ext G H') (fun _ => False)) :
    Does env fl f_66 [v, w, .func (.func g) #[] #[]] H (fun r H' => Sls PB H' T_bool 1 r (List.zipWith d a b) ∧ Ext H H') R := by
  refine does_ext e_66 hf (h := ?_)
  intro ρ h0
  obtain ⟨m, hm⟩ : ∃ m, m = min a.length b.length := ⟨_, rfl⟩
  have hmn : mnxA false (.int .i64 (a.length : Int)) [.int .i64 (b.length : Int)] = some (.int .i64 (m : Int)) := by
    simp only [mnxA, mn2]; congr 2; rw [hm]; split <;> (try split) <;> simp_all <;> omega
  simp [s_66, r_66_0, r_66_1, r_66_2, h0, ha.slen, hb.slen, hmn]
  refine W_for (n := m) (fun i ρ G => ρ 0 = v ∧ ρ 1 = w ∧ ρ 2 = .func (.func g) #[] #[] ∧ Ext H G ∧ Owns PB H.size G T_bool 1 (ρ 7) ((List.zipWith d a b).take i))
    rfl rfl (by decide) (by omega) (by simp) (by simp) ?_ ?_ ?_ ?_
  · exact ⟨by simp [h0], by simp [h0], by simp [h0], Ext.refl H, by simpa using Owns.nil⟩
  · intro i ρ ρ' G h hI; simpa [h] using hI
  · clear h0 ρ
    rintro i ρ G hi gi gn ⟨g0, g1, g2, hx, ho⟩
    obtain ⟨s, g7⟩ : ∃ s, ρ 7 = s := ⟨_, rfl⟩
    rw [g7] at ho
    have hia : i < a.length := by omega
    have hib : i < b.length := by omega
    have ka := ha.mono monoPE hx
    have kb := hb.mono monoPE hx
    obtain ⟨wa, hla, k0⟩ := ExtsV.load ka hia
    obtain ⟨wb, hlb, k1⟩ := ExtsV.load kb hib
    simp [r_66_4, gi]
    refine W_draw ?_
    simp [r_66_5, g0, g1, g2, g7, ka.ia hia, kb.ia hib, hla, hlb]
    refine (hg _ _ _ _ _ _ hx.1 k0 k1 (hfa _ (List.getElem_mem hia)) (hfb _ (List.getElem_mem hib))).mono ?_
    rintro _ G2 ⟨rfl, hx2⟩
    (try replace hx := hx.trans hx2); (try replace k0 := k0.mono hx2); (try replace k1 := k1.mono hx2)
    replace ho := ho.mono monoPB hx2
    obtain ⟨s', G3, h1, h2, h3, h4⟩ := Owns.app (P := PB) (sz := 1) (e := T_bool) (by decide) (fun _ _ _ _ _ h => h) ho (e2 := T_bool) (c := 1) (bytes := 1) (new := [.bool (d a[i] b[i])]) (x := d a[i] b[i]) rfl rfl rfl (by simp; omega) (by omega) (by omega) hx.1
    simp [g0, g1, g2, g7, h1]
    refine Rnd.mk (by simp [gi]) (by simp [gn]) ⟨by simp [g0], by simp [g1], by simp [g2], h4 _ (Nat.le_refl _) hx, Owns.cast (v' := s') (by simp) (by rw [take_zip hia hib]; exact h2)⟩
  · clear h0 ρ
    rintro ρ G gi gn ⟨g0, g1, g2, hx, ho⟩
    obtain ⟨s, g7⟩ : ∃ s, ρ 7 = s := ⟨_, rfl⟩
    rw [g7] at ho
    simp [r_66_7, g7]
    have := ho.sls
    rw [List.take_of_length_le (by simp [hm])] at this
    exact fun _ => this

theorem Index_bool_does {l : List Bool} {c : Bool} (ha : Sls PB H T_bool 1 v l) (hf : fl ≤ H.size) (hal : l.length < 1073741824) :
    Does env fl f_100 [v, .bool c] H (fun r H' => (∃ z : Int, r = .int .i64 z ∧ (0 ≤ z ↔ c ∈ l)) ∧ Ext H H') R := by
  refine does_ext e_100 hf (h := ?_)
  intro ρ h0
  simp [s_100, r_100_0, r_100_1, h0, ha.slen]
  refine W_for (n := l.length) (fun i ρ G => ρ 0 = v ∧ ρ 1 = .bool c ∧ Ext H G ∧ G = H ∧ c ∉ l.take i)
    rfl rfl (by decide) (by omega) (by simp) (by simp) ?_ ?_ ?_ ?_
  · exact ⟨by simp [h0], by simp [h0], Ext.refl H, rfl, by simp⟩
  · intro i ρ ρ' G h hI; simpa [h] using hI
  · clear h0 ρ
    rintro i ρ _ hi gi gn ⟨g0, g1, hx, rfl, hc⟩
    obtain ⟨w, hl, hw⟩ := Sls.load1 ha hi
    simp [PB] at hw
    simp [r_100_3, r_100_4, r_100_5, gi, g0, g1, ha.ia hi, hl, hw]
    refine ⟨fun he => ?_, fun hne => ?_⟩
    · rw [he]; exact List.getElem_mem hi
    · refine Rnd.mk (by simp [gi]) (by simp [gn]) ⟨by simp [g0], by simp [g1], hx, rfl, ?_⟩
      rw [List.take_succ_eq_append_getElem hi]
      simp only [List.mem_append, List.mem_singleton]
      rintro (h | h)
      · exact hc h
      · exact hne h
  · clear h0 ρ
    rintro ρ _ gi gn ⟨g0, g1, hx, rfl, hc⟩
    rw [List.take_length] at hc
    simp [r_100_7, hc]

theorem Contains_bool_does {l : List Bool} {c : Bool} (ha : Sls PB H T_bool 1 v l) (hf : fl ≤ H.size) (hal : l.length < 1073741824) :
    Does env fl f_65 [v, .bool c] H (fun r H' => r = .bool (decide (c ∈ l)) ∧ Ext H H') R := by
  refine does_ext e_65 hf (h := ?_)
  intro ρ h0
  simp [s_65, r_65_0, r_65_1, h0]
  refine (Index_bool_does ha (Nat.le_refl _) hal).mono ?_
  rintro _ G2 ⟨⟨z, rfl, hz⟩, hx2⟩
  simp [hz]

/-- is each at most the other? -/
def leE (a b : List RawE) : Bool := a.length == b.length && !decide (true ∈ List.zipWith (fun e f => decide (0 < cmpE (valE e) (valE f))) a b)
theorem dom_Le_does (ha : ExtsV H v a) (hb : ExtsV H w b) (hf : fl ≤ H.size) (hfa : FewE a) (hfb : FewE b) (hal : a.length < 1073741824) :
    Does env fl f_28 [v, w] H (fun r H' => r = .bool (leE a b) ∧ Ext H H') R := by
  refine does_ext e_28 hf (h := ?_)
  intro ρ h0
  simp [s_28, r_28_0, r_28_1, h0]
  unfold leE
  by_cases he : a.length = b.length
  · simp [r_28_2, h0, ha.slen, hb.slen, he]
    refine (zipB_does (d := fun e f => decide (0 < cmpE (valE e) (valE f))) ha hb (Nat.le_refl _) hfa hfb hal (fun fl G v w e f hf h k hn hm => dom_Le_1_does h k hf hn hm)).mono ?_
    rintro r G2 ⟨k0, hx2⟩
    simp [h0]
    refine (Contains_bool_does k0 hx2.1 (by simp; omega)).mono ?_
    rintro _ G2 ⟨rfl, hx2⟩
    simp
  · have he' : ¬ ((a.length : Int) = (b.length : Int)) := by omega
    simp [r_28_2, h0, ha.slen, hb.slen, he, he']

theorem zipE_does {d : RawE → RawE → RawE} {g : FuncId} (ha : ExtsV H v a) (hb : ExtsV H w b) (hf : fl ≤ H.size) (hfa : FewE a) (hfb : FewE b) (hal : a.length < 1073741824)
    (hg : ∀ (fl : Nat) (G : Heap) (v w : Value) (e f : RawE), fl ≤ G.size → ExtV G v e → ExtV G w f → lenR e.2 < 67108864 → lenR f.2 < 67108864 → Does env fl g [v, w] G (fun r H' => ExtV H' r (d e f) ∧ Ext G H') (fun _ => False)) :
    Does env fl f_68 [v, w, .func (.func g) #[] #[]] H (fun r H' => ExtsV H' r (List.zipWith d a b) ∧ Ext H H') R := by
  refine does_ext e_68 hf (h := ?_)
  intro ρ h0
  obtain ⟨m, hm⟩ : ∃ m, m = min a.length b.length := ⟨_, rfl⟩
  have hmn : mnxA false (.int .i64 (a.length : Int)) [.int .i64 (b.length : Int)] = some (.int .i64 (m : Int)) := by
    simp only [mnxA, mn2]; congr 2; rw [hm]; split <;> (try split) <;> simp_all <;> omega
  simp [s_68, r_68_0, r_68_1, r_68_2, h0, ha.slen, hb.slen, hmn]
  refine W_for (n := m) (fun i ρ G => ρ 0 = v ∧ ρ 1 = w ∧ ρ 2 = .func (.func g) #[] #[] ∧ Ext H G ∧ Owns PE H.size G T_api_Ext 5 (ρ 7) ((List.zipWith d a b).take i))
    rfl rfl (by decide) (by omega) (by simp) (by simp) ?_ ?_ ?_ ?_
  · exact ⟨by simp [h0], by simp [h0], by simp [h0], Ext.refl H, by simpa using Owns.nil⟩
  · intro i ρ ρ' G h hI; simpa [h] using hI
  · clear h0 ρ
    rintro i ρ G hi gi gn ⟨g0, g1, g2, hx, ho⟩
    obtain ⟨s, g7⟩ : ∃ s, ρ 7 = s := ⟨_, rfl⟩
    rw [g7] at ho
    have hia : i < a.length := by omega
    have hib : i < b.length := by omega
    have ka := ha.mono monoPE hx
    have kb := hb.mono monoPE hx
    obtain ⟨wa, hla, k0⟩ := ExtsV.load ka hia
    obtain ⟨wb, hlb, k1⟩ := ExtsV.load kb hib
    simp [r_68_4, gi]
    refine W_draw ?_
    simp [r_68_5, g0, g1, g2, g7, ka.ia hia, kb.ia hib, hla, hlb]
    refine (hg _ _ _ _ _ _ hx.1 k0 k1 (hfa _ (List.getElem_mem hia)) (hfb _ (List.getElem_mem hib))).mono ?_
    rintro _ G2 ⟨⟨s1, s2, rfl, k2, k3⟩, hx2⟩
    (try replace hx := hx.trans hx2); (try replace k0 := k0.mono hx2); (try replace k1 := k1.mono hx2); (try replace k2 := k2.mono hx2); (try replace k3 := k3.mono hx2)
    replace ho := ho.mono monoPE hx2
    obtain ⟨s', G3, h1, h2, h3, h4⟩ := Owns.app (P := PE) (sz := 5) (e := T_api_Ext) (by decide) (fun G' cs x _ hl h => ExtV.lx h hl) ho (e2 := T_api_Ext) (c := 1) (bytes := 72) (new := [.int .i64 (d a[i] b[i]).1, .bool (d a[i] b[i]).2.1.1, s1, .bool (d a[i] b[i]).2.2.1, s2]) (x := d a[i] b[i]) ⟨s1, s2, rfl, k2, k3⟩ rfl (by simp [k2.plain, k3.plain]) (by simp; omega) (by omega) (by omega) hx.1
    simp [g0, g1, g2, g7, h1, k2.cells, k3.cells]
    exact Rnd.mk (by simp [gi]) (by simp [gn]) ⟨by simp [g0], by simp [g1], by simp [g2], h4 _ (Nat.le_refl _) hx, Owns.cast (v' := s') (by simp) (by rw [take_zip hia hib]; exact h2)⟩
  · clear h0 ρ
    rintro ρ G gi gn ⟨g0, g1, g2, hx, ho⟩
    obtain ⟨s, g7⟩ : ∃ s, ρ 7 = s := ⟨_, rfl⟩
    rw [g7] at ho
    simp [r_68_7, g7]
    have := ho.sls
    rw [List.take_of_length_le (by simp [hm])] at this
    exact fun _ => this
end Go.Proofs.YtjlohmnnldbjoaaGreat.AI

/- dom: Join, Meet, none, Right; templ.Right. -/
namespace Go.Proofs.YtjlohmnnldbjoaaGreat.AI
open Go
set_option maxHeartbeats 4000000

variable {fl : Nat} {H G : Heap} {R : PostP} {v w : Value} {a b : List RawE}

def maxE (e f : RawE) : RawE := canonE (if cmpE (valE e) (valE f) < 0 then valE f else valE e)
def minE (e f : RawE) : RawE := canonE (if 0 < cmpE (valE e) (valE f) then valE f else valE e)

theorem dom_Join_does (ha : ExtsV H v a) (hb : ExtsV H w b) (hf : fl ≤ H.size) (hfa : FewE a) (hfb : FewE b) (hal : a.length < 1073741824) :
    Does env fl f_31 [v, w] H (fun r H' => ExtsV H' r (List.zipWith maxE a b) ∧ Ext H H') R := by
  refine does_ext e_31 hf (h := ?_)
  intro ρ h0
  simp [s_31, r_31_0, r_31_1, h0]
  refine (zipE_does (d := maxE) ha hb (Nat.le_refl _) hfa hfb hal (fun fl G v w e f hf h k hn hm => ext_Max_does h k hf hn hm)).mono ?_
  rintro r G2 ⟨k0, hx2⟩
  simp
  exact fun _ => k0
theorem dom_Meet_does (ha : ExtsV H v a) (hb : ExtsV H w b) (hf : fl ≤ H.size) (hfa : FewE a) (hfb : FewE b) (hal : a.length < 1073741824) :
    Does env fl f_33 [v, w] H (fun r H' => ExtsV H' r (List.zipWith minE a b) ∧ Ext H H') R := by
  refine does_ext e_33 hf (h := ?_)
  intro ρ h0
  simp [s_33, r_33_0, r_33_1, h0]
  refine (zipE_does (d := minE) ha hb (Nat.le_refl _) hfa hfb hal (fun fl G v w e f hf h k hn hm => ext_Min_does h k hf hn hm)).mono ?_
  rintro r G2 ⟨k0, hx2⟩
  simp
  exact fun _ => k0

/-- is there one? are all? (simp looks not inside.) -/
def anyB {α : Type} (p : α → Bool) (l : List α) : Bool := l.any p
def allB {α : Type} (p : α → Bool) (l : List α) : Bool := l.all p
section
variable {α : Type} {p : α → Bool} {l : List α} {i : Nat}
theorem anyB_nil : anyB p [] = false := rfl
theorem allB_nil : allB p [] = true := rfl
theorem anyB_succ (h : i < l.length) : anyB p (l.take (i + 1)) = (anyB p (l.take i) || p l[i]) := by
  unfold anyB; rw [List.take_succ_eq_append_getElem h, List.any_append]; simp
theorem allB_succ (h : i < l.length) : allB p (l.take (i + 1)) = (allB p (l.take i) && p l[i]) := by
  unfold allB; rw [List.take_succ_eq_append_getElem h, List.all_append]; simp
theorem anyB_yes (h : i < l.length) (hp : p l[i] = true) : anyB p l = true := List.any_eq_true.2 ⟨_, List.getElem_mem h, hp⟩
theorem allB_no (h : i < l.length) (hp : p l[i] = false) : allB p l = false := by
  unfold allB; rw [List.all_eq_false]; exact ⟨l[i], List.getElem_mem h, by simp [hp]⟩
end

theorem IndexFunc_does {p : RawE → Bool} {g : FuncId} (ha : ExtsV H v a) (hf : fl ≤ H.size) (hfa : FewE a) (hal : a.length < 1073741824)
    (hg : ∀ (fl : Nat) (G : Heap) (v : Value) (e : RawE), fl ≤ G.size → ExtV G v e → lenR e.2 < 67108864 → Does env fl g [v] G (fun r H' => r = .bool (p e) ∧ Ext G H') R) :
    Does env fl f_98 [v, .func (.func g) #[] #[]] H (fun r H' => (∃ z : Int, r = .int .i64 z ∧ (0 ≤ z ↔ anyB p a = true)) ∧ Ext H H') R := by
  refine does_ext e_98 hf (h := ?_)
  intro ρ h0
  simp [s_98, r_98_0, r_98_1, h0, ha.slen]
  refine W_for (n := a.length) (fun i ρ G => ρ 0 = v ∧ ρ 1 = .func (.func g) #[] #[] ∧ Ext H G ∧ anyB p (a.take i) = false)
    rfl rfl (by decide) (by omega) (by simp) (by simp) ?_ ?_ ?_ ?_
  · exact ⟨by simp [h0], by simp [h0], Ext.refl H, by rw [List.take_zero]; exact anyB_nil⟩
  · intro i ρ ρ' G h hI; simpa [h] using hI
  · clear h0 ρ
    rintro i ρ G hi gi gn ⟨g0, g1, hx, hc⟩
    have ka := ha.mono monoPE hx
    obtain ⟨w, hl, k0⟩ := ExtsV.load ka hi
    simp [r_98_3, r_98_4, gi, g0, g1, ka.ia hi, hl]
    refine (hg _ _ _ _ hx.1 k0 (hfa _ (List.getElem_mem hi))).mono ?_
    rintro _ G2 ⟨rfl, hx2⟩
    have hx' := hx.trans hx2
    cases hp : p a[i]
    · simp
      refine Rnd.mk (by simp [gi]) (by simp [gn]) ⟨by simp [g0], by simp [g1], hx', by rw [anyB_succ hi, hc, hp]; rfl⟩
    · simp [r_98_5, gi]
      exact fun _ => anyB_yes hi hp
  · clear h0 ρ
    rintro ρ G gi gn ⟨g0, g1, hx, hc⟩
    rw [List.take_length] at hc
    simp [r_98_7, hc]

theorem ContainsFunc_does {p : RawE → Bool} {g : FuncId} (ha : ExtsV H v a) (hf : fl ≤ H.size) (hfa : FewE a) (hal : a.length < 1073741824)
    (hg : ∀ (fl : Nat) (G : Heap) (v : Value) (e : RawE), fl ≤ G.size → ExtV G v e → lenR e.2 < 67108864 → Does env fl g [v] G (fun r H' => r = .bool (p e) ∧ Ext G H') R) :
    Does env fl f_61 [v, .func (.func g) #[] #[]] H (fun r H' => r = .bool (anyB p a) ∧ Ext H H') R := by
  refine does_ext e_61 hf (h := ?_)
  intro ρ h0
  simp [s_61, r_61_0, r_61_1, h0]
  refine (IndexFunc_does (p := p) ha (Nat.le_refl _) hfa hal hg).mono ?_
  rintro _ G2 ⟨⟨z, rfl, hz⟩, hx2⟩
  simp
  intro _
  rw [Bool.eq_iff_iff, decide_eq_true_eq]; exact hz

theorem dom_Right_1_does {e : RawE} (h : ExtV H v e) (hf : fl ≤ H.size) (hn : lenR e.2 < 67108864) : Does env fl f_62 [v] H (fun r H' => r = .bool (!mayE e) ∧ Ext H H') R := by
  have k0 := h
  obtain ⟨s, u, rfl, hs, hu⟩ := h
  refine does_ext e_62 hf (h := ?_)
  intro ρ h0
  simp [s_62, r_62_0, r_62_1, h0]
  generalize hG : Array.push H _ = G
  obtain ⟨hx2, b0⟩ := new0 hG
  have hx := Ext.refl H
  clear hG
  (try replace b0 := hx2.blk b0); (try replace hx := hx.trans hx2); (try replace k0 := k0.mono hx2)
  try simp [b0]
  refine (ext_May_does k0 hx.1 hn).mono ?_
  rintro _ G2 ⟨rfl, hx2⟩
  simp

/-- a template as it lies. -/
def TemplV (H : Heap) (v : Value) (rows : List (List RawR)) : Prop := ∃ s, v = .agg #[s] ∧ RowsV H s rows
/-- is a template right for so many numbers? -/
def rowOk (n : Int) (r : List RawR) : Bool := decide ((r.length : Int) = n) && allB mayR r
def rightT (rows : List (List RawR)) (n : Int) : Bool := decide (0 ≤ n) && decide (n ≤ 6) && decide (rows.length ≤ 40) && allB (rowOk n) rows
theorem templ_Right_does {S : Nat} {rows : List (List RawR)} {n : Int} (h : TemplV H v rows) (hf : fl ≤ H.size) (hS : S < 67108864) (hr : ∀ r ∈ rows, Few S r ∧ r.length < 1073741824) (hrl : rows.length < 1073741824) :
    Does env fl f_60 [v, .int .i64 n] H (fun r H' => r = .bool (rightT rows n) ∧ Ext H H') R := by
  obtain ⟨s, rfl, hs⟩ := h
  refine does_ext e_60 hf (h := ?_)
  intro ρ h0
  simp [s_60, r_60_0, h0, hs.cells]
  generalize hG : Array.push H _ = G
  obtain ⟨hx2, b0⟩ := new0 hG
  have hx := Ext.refl H
  clear hG
  (try replace b0 := hx2.blk b0); (try replace b1 := hx2.blk b1); (try replace hx := hx.trans hx2); (try replace k0 := k0.mono hx2); (try replace k1 := k1.mono hx2); (try replace k2 := k2.mono hx2)
  unfold rightT
  by_cases h1 : n < 0
  · have h1' : ¬ 0 ≤ n := by omega
    simp [r_60_1, r_60_2, h0, h1, h1']
  · have h1' : 0 ≤ n := by omega
    by_cases h2 : 6 < n
    · have h2' : ¬ n ≤ 6 := by omega
      simp [r_60_1, r_60_2, h0, h1, h1', h2, h2']
    · have h2' : n ≤ 6 := by omega
      by_cases h3 : 40 < rows.length
      · have h3' : ¬ rows.length ≤ 40 := by omega
        have h3'' : (40 : Int) < (rows.length : Int) := by omega
        simp [r_60_1, r_60_2, h0, b0, (hs.mono monoPS hx).slen, hs.slen, h1, h1', h2, h2', h3, h3', h3'']
      · have h3' : rows.length ≤ 40 := by omega
        have h3'' : ¬ (40 : Int) < (rows.length : Int) := by omega
        simp [r_60_1, r_60_3, h0, b0, hs.slen, h1, h1', h2, h2', h3, h3', h3'']
        refine W_for (n := rows.length) (fun i ρ G => ρ 1 = .int .i64 n ∧ ρ 22 = s ∧ Ext H G ∧ allB (rowOk n) (rows.take i) = true)
          rfl rfl (by decide) (by omega) (by simp) (by simp) ?_ ?_ ?_ ?_
        · exact ⟨by simp [h0], by simp, hx, by rw [List.take_zero]; exact allB_nil⟩
        · intro i ρ ρ' G h hI; simpa [h] using hI
        · clear h0 ρ hx b0 hx2
          rintro i ρ G hi gi gn ⟨g1, g22, hx, hc⟩
          have ks := hs.mono monoPS hx
          obtain ⟨w, hl, kw⟩ := RowsV.load ks hi
          obtain ⟨hfew, hrl2⟩ := hr _ (List.getElem_mem hi)
          by_cases hlen : (rows[i].length : Int) = n
          · simp [r_60_5, r_60_6, r_60_8, g1, g22, gi, ks.ia hi, hl, kw.slen, hlen]
            refine W_forE (n := rows[i].length) (fun j ρ G => ρ 1 = .int .i64 n ∧ ρ 22 = s ∧ ρ 24 = .int .i64 (i : Int) ∧ ρ 23 = .int .i64 (rows.length : Int) ∧ ρ 32 = w ∧ Ext H G ∧ RatsV G w rows[i] ∧ allB mayR (rows[i].take j) = true)
              rfl rfl (by decide) (by omega) (by simp) (by simp [hlen]) ?_ ?_ ?_ ?_
            · exact ⟨by simp [g1], by simp [g22], by simp [gi], by simp [gn], by simp, hx, kw, by rw [List.take_zero]; exact allB_nil⟩
            · intro i ρ ρ' G h hI; simpa [h] using hI
            · clear g1 g22 gi gn hx kw hl ks ρ G
              rintro j ρ G hj gj gm ⟨g1, g22, gi, gn, g32, hx, kw, hcj⟩
              obtain ⟨x, hlx, k0⟩ := RatsV.load kw hj
              obtain ⟨s1, s2, rfl, k1, k2⟩ := id k0
              have hf2 := hfew _ (List.getElem_mem hj)
              have hsz := hx.1
              simp [r_60_10, g1, g22, g32, gj, kw.ia hj, hlx, k1.cells, k1.plain, k2.cells, k2.plain, hsz]
              generalize hN : Array.setIfInBounds (Array.push _ _) _ _ = G3
              obtain ⟨hx2, b1⟩ := new1 hN
              clear hN
              (try replace b0 := hx2.blk b0); (try replace b1 := hx2.blk b1); (try replace hx := hx.trans hx2); (try replace k0 := k0.mono hx2); (try replace k1 := k1.mono hx2); (try replace k2 := k2.mono hx2)
              replace kw := kw.mono monoPR hx2
              simp [r_60_11, b1]
              refine (rat_May_does k0 hx.1 (by omega)).mono ?_
              rintro _ G2 ⟨rfl, hx2⟩
              (try replace b0 := hx2.blk b0); (try replace b1 := hx2.blk b1); (try replace hx := hx.trans hx2); (try replace k0 := k0.mono hx2); (try replace k1 := k1.mono hx2); (try replace k2 := k2.mono hx2)
              replace kw := kw.mono monoPR hx2
              cases hm : mayR rows[i][j]
              · simp [r_60_12]
                intros
                exact allB_no hi (by unfold rowOk; rw [allB_no hj hm]; simp)
              · simp
                exact Rnd.mk (by simp [gj]) (by simp [gm]) ⟨by simp [g1], by simp [g22], by simp [gi], by simp [gn], by simp [g32], hx, kw, by rw [allB_succ hj, hcj, hm]; rfl⟩
            · rintro ρ G gj gm ⟨g1, g22, gi, gn, g32, hx, kw, hcj⟩
              rw [List.take_length] at hcj
              simp
              exact Rnd.mk gi gn ⟨g1, g22, hx, by rw [allB_succ hi, hc]; unfold rowOk; simp [hlen, hcj]⟩
          · simp [r_60_5, r_60_6, r_60_7, g1, g22, gi, ks.ia hi, hl, kw.slen, hlen]
            intro _
            exact allB_no hi (by unfold rowOk; simp [hlen])
        · clear h0 ρ hx b0 hx2
          rintro ρ G gi gn ⟨g1, g22, hx, hc⟩
          rw [List.take_length] at hc
          simp [r_60_15, hc]

/-- are values right? -/
def valuesT (rows : List (List RawR)) (n : Int) (d : List RawE) : Bool := rightT rows n && decide (d.length = rows.length) && !anyB (fun e => !mayE e) d
theorem dom_Right_does {S : Nat} {rows : List (List RawR)} {n : Int} {d : List RawE} (h : TemplV H v rows) (hd : ExtsV H w d) (hf : fl ≤ H.size) (hS : S < 67108864) (hr : ∀ r ∈ rows, Few S r ∧ r.length < 1073741824) (hrl : rows.length < 1073741824) (hfd : FewE d) (hdl : d.length < 1073741824) :
    Does env fl f_27 [v, .int .i64 n, w] H (fun r H' => r = .bool (valuesT rows n d) ∧ Ext H H') R := by
  have kt := h
  obtain ⟨s, rfl, hs⟩ := h
  refine does_ext e_27 hf (h := ?_)
  intro ρ h0
  simp [s_27, r_27_0, h0, hs.cells]
  generalize hG : Array.push H _ = G
  obtain ⟨hx2, b0⟩ := new0 hG
  have hx := Ext.refl H
  clear hG
  (try replace b0 := hx2.blk b0); (try replace hx := hx.trans hx2)
  have kt2 : TemplV G (.agg #[s]) rows := ⟨s, rfl, hs.mono monoPS hx⟩
  unfold valuesT
  simp [r_27_1, h0, b0]
  refine (templ_Right_does (n := n) kt2 hx.1 hS hr hrl).mono ?_
  rintro _ G2 ⟨rfl, hx2⟩
  (try replace b0 := hx2.blk b0); (try replace hx := hx.trans hx2)
  cases h1 : rightT rows n
  · simp
  · by_cases h2 : d.length = rows.length
    · have h2' : (d.length : Int) = (rows.length : Int) := by omega
      simp [h0, b0, hd.slen, hs.slen, h2, h2']
      refine (ContainsFunc_does (p := fun e => !mayE e) (hd.mono monoPE hx) hx.1 hfd hdl (fun fl G v e hf h hn => dom_Right_1_does h hf hn)).mono ?_
      rintro _ G2 ⟨rfl, hx2⟩
      simp
    · have h2' : ¬ (d.length : Int) = (rows.length : Int) := by omega
      simp [h0, b0, hd.slen, hs.slen, h2, h2']
end Go.Proofs.YtjlohmnnldbjoaaGreat.AI

/- dom: Has, own. -/
namespace Go.Proofs.YtjlohmnnldbjoaaGreat.AI
open Go
set_option maxHeartbeats 4000000

variable {fl : Nat} {H G : Heap} {R : PostP} {v w u : Value}

end Go.Proofs.YtjlohmnnldbjoaaGreat.AI

/- dom.Problem. -/
namespace Go.Proofs.YtjlohmnnldbjoaaGreat.AI
open Go
set_option maxHeartbeats 4000000

variable {fl : Nat} {H G : Heap} {R : PostP} {v w u : Value}

theorem RatsV.off {l : List RawR} {o : Option Nat} (h : RatsV H v l) (hx : ExtB o H G) (hne : slB v = none ∨ slB v ≠ o) (h2 : Lx H G) : RatsV G v l := by
  obtain ⟨cs, ⟨hl, hs⟩, hp⟩ := h
  refine ⟨cs, ⟨hl, ?_⟩, fun k hk => RatV.lx (hp k hk) h2⟩
  rcases hs with hs | ⟨b, off, cap, ro, cells, rfl, hb, ho, hcs⟩
  · exact .inl hs
  · refine .inr ⟨b, off, cap, ro, cells, rfl, ?_, ho, hcs⟩
    rw [hx.2 b (blk_lt hb) (by rcases hne with h | h; simp [slB] at h; exact fun h3 => h h3.symm)]; exact hb
theorem RatsV.lt {l : List RawR} (h : RatsV H v l) {b : Nat} (hb : slB v = some b) : b < H.size := by
  obtain ⟨cs, ⟨hl, ⟨rfl, _⟩ | ⟨b', off, cap, ro, cells, rfl, hb', ho, hcs⟩⟩, hp⟩ := h
  · simp [slB] at hb
  · simp [slB] at hb; subst hb; exact blk_lt hb'

/-- a linear problem as it lies. -/
structure LPt where
  n : Int
  A : List (List RawR)
  B : List RawR
  C : List RawR
theorem Owns.ne {α : Type} {Q : Heap → List Value → α → Prop} {fl e sz e' p : Nat} {v : Value} {l : List α} {cs : List Value} {ro : Bool} (h : Owns Q fl G e sz v l) (hb : Heap.blk G p = .row ro e' cs) (he : e ≠ e') : slB v ≠ some p := by
  obtain ⟨cs', ⟨hl, ⟨rfl, _⟩ | ⟨b, cap, rfl, hp, _⟩⟩, _⟩ := h
  · simp [slB]
  · simp [slB]; rintro rfl; rw [hp] at hb; cases hb; exact he rfl
theorem Owns.cells {α : Type} {Q : Heap → List Value → α → Prop} {fl e sz : Nat} {v : Value} {l : List α} (h : Owns Q fl G e sz v l) : cellsL v = [v] ∧ plainCell v = true := ⟨h.sls.cells, h.sls.plain⟩
theorem Owns.low {α : Type} {Q : Heap → List Value → α → Prop} {fl fl' e sz : Nat} {v : Value} {l : List α} (h : Owns Q fl G e sz v l) (hl : fl' ≤ fl) : Owns Q fl' G e sz v l := by
  obtain ⟨cs', ⟨hl', h1 | ⟨b', cap, rfl, hp, hf⟩⟩, h2⟩ := h
  · exact ⟨cs', ⟨hl', .inl h1⟩, h2⟩
  · exact ⟨cs', ⟨hl', .inr ⟨b', cap, rfl, hp, by omega⟩⟩, h2⟩
theorem Owns.off {α : Type} {Q : Heap → List Value → α → Prop} {fl e sz : Nat} {v : Value} {l : List α} {o : Option Nat} {G' : Heap} (h : Owns Q fl G e sz v l) (hx : ExtB o G G') (hne : slB v = none ∨ slB v ≠ o) (hQ : ∀ cs x, Q G cs x → Q G' cs x) : Owns Q fl G' e sz v l := by
  obtain ⟨cs', ⟨hl', h1 | ⟨b', cap, rfl, hp, hf⟩⟩, h2⟩ := h
  · exact ⟨cs', ⟨hl', .inl h1⟩, fun k hk => hQ _ _ (h2 k hk)⟩
  · refine ⟨cs', ⟨hl', .inr ⟨b', cap, rfl, ?_, hf⟩⟩, fun k hk => hQ _ _ (h2 k hk)⟩
    rw [hx.2 b' (blk_lt hp) (by rcases hne with h | h; simp [slB] at h; exact fun h3 => h h3.symm)]; exact hp
theorem Owns.blkOf {α : Type} {Q : Heap → List Value → α → Prop} {fl e sz : Nat} {v : Value} {l : List α} (h : Owns Q fl G e sz v l) : AI.blkW v = [] ∨ ∃ b, AI.blkW v = [b] ∧ slB v = some b := by
  obtain ⟨cs', ⟨hl', ⟨rfl, _⟩ | ⟨b', cap, rfl, hp, hf⟩⟩, h2⟩ := h
  · exact .inl rfl
  · by_cases h00 : l.length = 0 ∧ cap = 0
    · exact .inl (by simp only [AI.blkW]; rw [if_pos h00])
    · exact .inr ⟨b', by simp only [AI.blkW]; rw [if_neg h00], rfl⟩
end Go.Proofs.YtjlohmnnldbjoaaGreat.AI

/- Loops of three parts. -/
namespace Go.Proofs.YtjlohmnnldbjoaaGreat.AI
open Go

def CNext (nt i : Nat) (Inv : Nat → (Nat → Value) → Heap → Prop) (t : Tmps) (H : Heap) : Prop := ∃ ρ2, t = T nt ρ2 ∧ Inv (i + 1) ρ2 H
theorem CNext.mk {nt i : Nat} {Inv : Nat → (Nat → Value) → Heap → Prop} {ρ : Nat → Value} {H : Heap} (h : Inv (i + 1) ρ H) : CNext nt i Inv (T nt ρ) H := ⟨ρ, rfl, h⟩
theorem wrap_succ {n : Nat} (h : n < 4611686018427387904) : IntKind.i64.wrap ((n : Int) + 1) = ((n + 1 : Nat) : Int) := by rw [wrap64 (by omega) (by omega)]; omega
/-- where a round ends: what stands behind the body comes next. -/
def CEnd (E : Env) (fl nt : Nat) (rx : List SOper) (R : PostP) (i : Nat) (Inv : Nat → (Nat → Value) → Heap → Prop) (t : Tmps) (H : Heap) : Prop :=
  WR E fl rx t H (CNext nt i Inv) R
/-- where a round's test ends. -/
def CStep (E : Env) (fl nt tc b b2 n : Nat) (body : SCode) (rx : List SOper) (Z : Tmps → Heap → Prop) (Q : PostX) (R : PostP) (i : Nat) (Inv : Nat → (Nat → Value) → Heap → Prop) (t : Tmps) (H : Heap) : Prop :=
  ∃ ρ', t = T nt ρ' ∧ ρ' tc = .bool (decide (i < n)) ∧ (i < n → W E fl body (T nt ρ') H (forQ b2 b (CEnd E fl nt rx R i Inv) Z Q) R) ∧ (i = n → Z (T nt ρ') H)

section
variable {E : Env} {fl nt tc b b2 n i : Nat} {body : SCode} {rx rc : List SOper} {Z : Tmps → Heap → Prop} {Q : PostX} {R : PostP} {Inv : Nat → (Nat → Value) → Heap → Prop} {ρ : Nat → Value} {H : Heap}
theorem CStep.mk (h1 : ρ tc = .bool (decide (i < n))) (h2 : i < n → W E fl body (T nt ρ) H (forQ b2 b (CEnd E fl nt rx R i Inv) Z Q) R) (h3 : i = n → Z (T nt ρ) H) : CStep E fl nt tc b b2 n body rx Z Q R i Inv (T nt ρ) H := ⟨ρ, rfl, h1, h2, h3⟩

theorem W_cfor (Inv : Nat → (Nat → Value) → Heap → Prop) (n : Nat) (htc : tc < nt) (hI : Inv 0 ρ H)
    (step : ∀ i ρ G, i ≤ n → Inv i ρ G → WR E fl rc (T nt ρ) G (CStep E fl nt tc b b2 n body rx Z Q R i Inv) R) :
    W E fl (.loop (.seq (.seq (.reg rc) (.cond (.tmp tc) .skip (.exit b))) (.seq (.block b2 body) (.reg rx)))) (T nt ρ) H (blockW b (thenW Z Q)) R := by
  refine W_loopM (fun k t G => ∃ i ρ, i + k = n ∧ t = T nt ρ ∧ Inv i ρ G) Z n ⟨0, ρ, by omega, rfl, hI⟩ ?_ (fun _ _ h => h)
  clear hI
  rintro k t G ⟨i, ρ, hik, rfl, hI⟩
  refine W_seq (W_seq (W_reg ((step i ρ G (by omega) hI).mono ?_)))
  rintro t' G' ⟨ρ', rfl, h1, h2, h3⟩
  simp only [thenW_normal]
  by_cases hi : i < n
  · have hd : ρ' tc = .bool true := by rw [h1, decide_eq_true hi]
    refine W_cond true (by rw [ev_tmp, get_T htc, hd]) (fun _ => W_skip ?_) (by simp)
    simp only [thenW_normal]
    refine W_seq (W_block ((h2 hi).mono fun e t2 G2 hq => ?_))
    have fin : CEnd E fl nt rx R i Inv t2 G2 → thenW (fun t' H' => W E fl (.reg rx) t' H' (loopQ b (fun t' H' => ∃ k', k' < k ∧ ∃ i ρ, i + k' = n ∧ t' = T nt ρ ∧ Inv i ρ H') Z Q) R) (loopQ b (fun t' H' => ∃ k', k' < k ∧ ∃ i ρ, i + k' = n ∧ t' = T nt ρ ∧ Inv i ρ H') Z Q) .normal t2 G2 := by
      intro h
      refine W_reg (h.mono ?_)
      rintro t3 G3 ⟨ρ3, rfl, h4⟩
      exact ⟨k - 1, by omega, i + 1, ρ3, by omega, rfl, h4⟩
    cases e with
    | normal => exact fin hq
    | exit j =>
      simp only [forQ] at hq
      show (if j = b2 then _ else _)
      by_cases hj : j = b2
      · rw [if_pos hj] at hq ⊢; exact fin hq
      · rw [if_neg hj] at hq ⊢
        show (if j = b then _ else _)
        by_cases hj2 : j = b
        · rw [if_pos hj2] at hq ⊢; exact hq
        · rw [if_neg hj2] at hq ⊢; exact hq
    | ret => exact hq
  · have he : i = n := by omega
    have hd : ρ' tc = .bool false := by rw [h1, decide_eq_false hi]
    refine W_cond false (by rw [ev_tmp, get_T htc, hd]) (by simp) (fun _ => W_exit ?_)
    show (if b = b then _ else _)
    rw [if_pos rfl]
    exact h3 he
end

end Go.Proofs.YtjlohmnnldbjoaaGreat.AI

/- The references' own equality, limb by limb. -/
namespace Go.Proofs.YtjlohmnnldbjoaaGreat.AI
open Go
set_option maxHeartbeats 4000000

variable {fl : Nat} {H G : Heap} {R : PostP} {v w : Value}

theorem Same_does {i j : Bool × List Nat} (h : IntV H v i) (k : IntV H w j) (hf : fl ≤ H.size) (hn : i.2.length < 1073741824) : Does env fl f_128 [v, w] H (fun r H' => r = .bool (decide (i = j)) ∧ Ext H H') R := by
  obtain ⟨s, rfl, hs⟩ := h
  obtain ⟨u, rfl, hu⟩ := k
  obtain ⟨bi, li⟩ := i
  obtain ⟨bj, lj⟩ := j
  simp only at hs hu hn ⊢
  refine does_ext e_128 hf (h := ?_)
  intro ρ h0
  simp [s_128, r_128_0, h0]
  generalize hG : Array.push (Array.push H _) _ = G
  have hx2 : Ext H G := by rw [← hG]; exact (Ext.refl H).push.push
  have b0 : Heap.blk G H.size = .row false T_api_Int [.bool bi, s] := by rw [← hG]; simp
  have b1 : Heap.blk G (H.size + 1) = .row false T_api_Int [.bool bj, u] := by rw [← hG]; simp
  have hx := Ext.refl H
  clear hG
  (try replace b0 := hx2.blk b0); (try replace b1 := hx2.blk b1); (try replace hx := hx.trans hx2)
  have ks := hs.mono hx
  have ku := hu.mono hx
  by_cases hb : bi = bj
  · subst hb
    by_cases hl : li.length = lj.length
    · simp [r_128_1, r_128_3, h0, b0, b1, hs.slen, hu.slen, hl]
      refine W_cfor (fun n ρ G' => ρ 2 = .pointer (some ⟨H.size, 0, none⟩) ∧ ρ 3 = .pointer (some ⟨H.size + 1, 0, none⟩) ∧ ρ 5 = .int .i64 (n : Int) ∧ G' = G ∧ li.take n = lj.take n) li.length (by decide) (by simp) ?_
      rintro n ρ _ hn1 ⟨g2, g3, g5, rfl, hpre⟩
      simp [r_128_4, g2, g5, b0, ks.slen]
      refine CStep.mk (by simp) (fun hlt => ?_) (fun heq => ?_)
      · have hltj : n < lj.length := by omega
        simp
        refine W_draw ?_
        simp [r_128_5, g2, g3, g5, b0, b1, ks.ia hlt, ku.ia hltj, ks.load hlt (Ext.refl _), ku.load hltj (Ext.refl _)]
        have e1 : li.getD n 0 = li[n] := by simp [List.getD_eq_getElem?_getD, hlt]
        have e2 : lj.getD n 0 = lj[n] := by simp [List.getD_eq_getElem?_getD, hltj]
        refine ⟨fun hne => ?_, fun heq => ?_⟩
        · simp [r_128_6]
          exact fun _ he => hne (by subst he; rfl)
        · unfold CEnd
          simp [r_128_7, g5, wrap_succ (show n < 4611686018427387904 by omega)]
          refine CNext.mk ⟨by simp [g2], by simp [g3], by simp, rfl, ?_⟩
          rw [List.take_succ_eq_append_getElem hlt, List.take_succ_eq_append_getElem hltj, hpre, ← e1, ← e2, List.getD_eq_getElem?_getD, List.getD_eq_getElem?_getD, heq]
      · subst heq
        rw [List.take_length, hl, List.take_length] at hpre
        simp [r_128_8]
        exact fun _ => hpre
    · simp [r_128_1, r_128_2, h0, b0, b1, hs.slen, hu.slen, hl]
      exact fun _ he => hl (by rw [he])
  · simp [r_128_1, r_128_2, h0, b0, b1, hs.slen, hu.slen, hb]

theorem SameRat_does {a b : RawR} (h : RatV H v a) (k : RatV H w b) (hf : fl ≤ H.size) (hn : lenR a < 1073741824) : Does env fl f_94 [v, w] H (fun r H' => r = .bool (decide (a = b)) ∧ Ext H H') R := by
  obtain ⟨s, u, rfl, hs, hu⟩ := h
  obtain ⟨s', u', rfl, hs', hu'⟩ := k
  have hn1 : a.1.2.length < 1073741824 := by unfold lenR at hn; omega
  have hn2 : a.2.2.length < 1073741824 := by unfold lenR at hn; omega
  refine does_ext e_94 hf (h := ?_)
  intro ρ h0
  simp [s_94, r_94_0, h0]
  generalize hG : Array.push (Array.push H _) _ = G
  have hx2 : Ext H G := by rw [← hG]; exact (Ext.refl H).push.push
  have b0 : Heap.blk G H.size = .row false T_api_Rat [.bool a.1.1, s, .bool a.2.1, u] := by rw [← hG]; simp
  have b1 : Heap.blk G (H.size + 1) = .row false T_api_Rat [.bool b.1.1, s', .bool b.2.1, u'] := by rw [← hG]; simp
  have hx := Ext.refl H
  clear hG
  (try replace b0 := hx2.blk b0); (try replace b1 := hx2.blk b1); (try replace hx := hx.trans hx2)
  simp [r_94_1, h0, b0, b1]
  refine (Same_does (i := a.1) (j := b.1) ⟨s, rfl, hs.mono hx⟩ ⟨s', rfl, hs'.mono hx⟩ hx.1 hn1).mono ?_
  rintro _ G2 ⟨rfl, hx2⟩
  (try replace b0 := hx2.blk b0); (try replace b1 := hx2.blk b1); (try replace hx := hx.trans hx2)
  by_cases h1 : a.1 = b.1
  · simp [h1, b0, b1]
    refine (Same_does (i := a.2) (j := b.2) ⟨u, rfl, hu.mono hx⟩ ⟨u', rfl, hu'.mono hx⟩ hx.1 hn2).mono ?_
    rintro _ G2 ⟨rfl, hx2⟩
    have : (a = b) = (a.2 = b.2) := propext ⟨fun h => by rw [h], fun h => Prod.ext h1 h⟩
    simp [h1, this]
  · simp [h1]
    exact fun _ h => h1 (by rw [h])

theorem SameExt_does {a b : RawE} (h : ExtV H v a) (k : ExtV H w b) (hf : fl ≤ H.size) (hn : lenR a.2 < 1073741824) : Does env fl f_67 [v, w] H (fun r H' => r = .bool (decide (a = b)) ∧ Ext H H') R := by
  obtain ⟨s, u, rfl, hs, hu⟩ := h
  obtain ⟨s', u', rfl, hs', hu'⟩ := k
  refine does_ext e_67 hf (h := ?_)
  intro ρ h0
  simp [s_67, r_67_0, h0]
  generalize hG : Array.push (Array.push H _) _ = G
  have hx2 : Ext H G := by rw [← hG]; exact (Ext.refl H).push.push
  have b0 : Heap.blk G H.size = .row false T_api_Ext [.int .i64 a.1, .bool a.2.1.1, s, .bool a.2.2.1, u] := by rw [← hG]; simp
  have b1 : Heap.blk G (H.size + 1) = .row false T_api_Ext [.int .i64 b.1, .bool b.2.1.1, s', .bool b.2.2.1, u'] := by rw [← hG]; simp
  have hx := Ext.refl H
  clear hG
  (try replace b0 := hx2.blk b0); (try replace b1 := hx2.blk b1); (try replace hx := hx.trans hx2)
  simp [r_67_1, h0, b0, b1]
  by_cases h1 : a.1 = b.1
  · simp [h1, b0, b1]
    refine (SameRat_does (a := a.2) (b := b.2) ⟨s, u, rfl, hs.mono hx, hu.mono hx⟩ ⟨s', u', rfl, hs'.mono hx, hu'.mono hx⟩ hx.1 hn).mono ?_
    rintro _ G2 ⟨rfl, hx2⟩
    have : (a = b) = (a.2 = b.2) := propext ⟨fun h => by rw [h], fun h => Prod.ext h1 h⟩
    simp [h1, this]
  · simp [h1]
    exact fun _ h => h1 (by rw [h])

theorem SameExts_does {a b : List RawE} (ha : ExtsV H v a) (hb : ExtsV H w b) (hf : fl ≤ H.size) (hfa : FewE a) (hal : a.length < 1073741824) :
    Does env fl f_30 [v, w] H (fun r H' => r = .bool (decide (a = b)) ∧ Ext H H') R := by
  refine does_ext e_30 hf (h := ?_)
  intro ρ h0
  by_cases hl : a.length = b.length
  · simp [s_30, r_30_0, r_30_1, r_30_3, h0, ha.slen, hb.slen, hl]
    refine W_cfor (fun n ρ G => ρ 0 = v ∧ ρ 1 = w ∧ ρ 5 = .int .i64 (n : Int) ∧ Ext H G ∧ a.take n = b.take n) a.length (by decide) (by simp [h0]) ?_
    clear h0 ρ
    rintro n ρ G hn1 ⟨g0, g1, g5, hx, hpre⟩
    have ka := ha.mono monoPE hx
    have kb := hb.mono monoPE hx
    simp [r_30_4, g0, g5, ka.slen]
    refine CStep.mk (by simp) (fun hlt => ?_) (fun heq => ?_)
    · have hltb : n < b.length := by omega
      obtain ⟨wa, hla, k0⟩ := ExtsV.load ka hlt
      obtain ⟨wb, hlb, k1⟩ := ExtsV.load kb hltb
      simp
      refine W_draw ?_
      simp [r_30_5, g0, g1, g5, ka.ia hlt, kb.ia hltb, hla, hlb]
      refine (SameExt_does k0 k1 hx.1 (by have := hfa _ (List.getElem_mem hlt); omega)).mono ?_
      rintro _ G2 ⟨rfl, hx2⟩
      (try replace hx := hx.trans hx2); (try replace k0 := k0.mono hx2); (try replace k1 := k1.mono hx2)
      by_cases he : a[n] = b[n]
      · simp [he]
        unfold CEnd
        simp [r_30_7, g5, wrap_succ (show n < 4611686018427387904 by omega)]
        refine CNext.mk ⟨by simp [g0], by simp [g1], by simp, hx, ?_⟩
        rw [List.take_succ_eq_append_getElem hlt, List.take_succ_eq_append_getElem hltb, hpre, he]
      · simp [he, r_30_6]
        exact fun _ h => he (by subst h; rfl)
    · subst heq
      rw [List.take_length, hl, List.take_length] at hpre
      simp [r_30_8]
      exact fun _ => hpre
  · have hl' : ¬ ((a.length : Int) = (b.length : Int)) := by omega
    simp [s_30, r_30_0, r_30_1, r_30_2, h0, ha.slen, hb.slen, hl, hl']
    exact fun h => hl (by rw [h])

end Go.Proofs.YtjlohmnnldbjoaaGreat.AI

/- Which numbers are too long for a law. -/
namespace Go.Proofs.YtjlohmnnldbjoaaGreat.AI
open Go
set_option maxHeartbeats 4000000

variable {fl : Nat} {H G : Heap} {R : PostP} {v w : Value}

/-- where an element lies. -/
theorem Sls.at_ {α : Type} {P : Heap → List Value → α → Prop} {e sz : Nat} {l : List α} (h : Sls P H e sz v l) {j : Nat} (hj : j < l.length) (hs : 0 < sz) :
    ∃ b o cs, adr sz v j = .pointer (some ⟨b, o, none⟩) ∧ cs.length = sz ∧ P H cs l[j] ∧ loadA H true sz (.pointer (some ⟨b, o, none⟩)) = some (.agg cs.toArray) ∧
      (∀ k n, k + n ≤ sz → 0 < n → loadA H true n (.pointer (some ⟨b, o + k, none⟩)) = some (.agg ((cs.drop k).take n).toArray)) ∧
      ∀ k, k < sz → loadA H false 1 (.pointer (some ⟨b, o + k, none⟩)) = some (cs.getD k undef) := by
  obtain ⟨cs, ⟨hl, h1⟩, h2⟩ := h
  have h3 := h2 j hj
  rcases h1 with ⟨rfl, h1⟩ | ⟨b, off, cap, ro, cells, rfl, hb, ho, rfl⟩
  · omega
  · have hj2 : (j + 1) * sz ≤ l.length * sz := Nat.mul_le_mul_right sz hj
    rw [Nat.add_mul, Nat.one_mul] at hj2
    have e1 : (((cells.drop off).take (l.length * sz)).drop (j * sz)).take sz = (cells.drop (off + j * sz)).take sz := by
      rw [List.drop_take, List.take_take, List.drop_drop, Nat.min_eq_left (by omega)]
    rw [e1] at h3
    have agg : ∀ k n, k + n ≤ sz → 0 < n → loadA H true n (.pointer (some ⟨b, off + j * sz + k, none⟩)) = some (.agg ((((cells.drop (off + j * sz)).take sz).drop k).take n).toArray) := by
      intro k n hk hn
      have hc := cells_of (off := off + j * sz + k) (n := n) hb (by omega)
      simp only [loadA]
      rw [if_neg (by omega), if_neg (by simp)]
      simp only [if_true, hc]
      rw [List.drop_take, List.take_take, List.drop_drop, Nat.min_eq_left (by omega)]
    refine ⟨b, off + j * sz, _, rfl, by simp; omega, h3, ?_, agg, ?_⟩
    · have := agg 0 sz (by omega) hs
      simpa [List.take_take] using this
    · intro k hk
      have hc := cells_of (off := off + j * sz + k) (n := 1) hb (by omega)
      simp only [loadA]
      rw [if_neg (by simp), if_neg (by simp)]
      simp only [hc, Bool.false_eq_true, if_false]
      rw [List.head?_take, if_neg (by simp), List.head?_drop, List.getD_eq_getElem?_getD, List.getElem?_take, if_pos (by omega), List.getElem?_drop]
      rw [List.getElem?_eq_getElem (by omega)]
      rfl

def longR (a : RawR) : Bool := decide (6 < a.1.2.length) || decide (6 < a.2.2.length)
def longE (e : RawE) : Bool := longR e.2

theorem Great2_does {l : List RawR} (h : RatsV H v l) (hf : fl ≤ H.size) (hl : l.length < 1073741824) : Does env fl f_48 [v] H (fun r H' => r = .bool (anyB longR l) ∧ Ext H H') R := by
  refine does_ext e_48 hf (h := ?_)
  intro ρ h0
  simp [s_48, r_48_0, r_48_1, h0]
  refine W_cfor (fun n ρ G => ρ 0 = v ∧ ρ 3 = .int .i64 (n : Int) ∧ Ext H G ∧ anyB longR (l.take n) = false) l.length (by decide) (by simp [h0, anyB_nil]) ?_
  clear h0 ρ
  rintro n ρ G hn1 ⟨g0, g3, hx, hpre⟩
  have k := h.mono monoPR hx
  simp [r_48_2, g0, g3, k.slen]
  refine CStep.mk (by simp) (fun hlt => ?_) (fun heq => ?_)
  · obtain ⟨b, o, cs, ha, hcl, hp, hall, hagg, hc⟩ := k.at_ hlt (by decide)
    obtain ⟨s, u, hcs, hs, hu⟩ := hp
    have hcs2 : cs = [.bool l[n].1.1, s, .bool l[n].2.1, u] := by simpa using congrArg (fun v => match v with | Value.agg a => a.toList | _ => []) hcs
    subst hcs2
    have c1 := hc 1 (by decide)
    have c3 := hc 3 (by decide)
    simp at c1 c3
    have hb : anyB longR (l.take (n + 1)) = longR l[n] := by rw [anyB_succ hlt, hpre, Bool.false_or]
    have yes : longR l[n] = true → anyB longR l = true := anyB_yes hlt
    by_cases h1 : 6 < l[n].1.2.length
    · have h1' : (6 : Int) < (l[n].1.2.length : Int) := by omega
      simp [r_48_3, g0, g3, k.ia hlt, ha, c1, c3, hs.slen, hu.slen, h1, h1', r_48_4]
      exact fun _ => yes (by simp [longR, h1])
    · have h1' : ¬ (6 : Int) < (l[n].1.2.length : Int) := by omega
      by_cases h2 : 6 < l[n].2.2.length
      · have h2' : (6 : Int) < (l[n].2.2.length : Int) := by omega
        simp [r_48_3, g0, g3, k.ia hlt, ha, c1, c3, hs.slen, hu.slen, h1, h1', h2, h2', r_48_4]
        exact fun _ => yes (by simp [longR, h2])
      · have h2' : ¬ (6 : Int) < (l[n].2.2.length : Int) := by omega
        simp [r_48_3, g0, g3, k.ia hlt, ha, c1, c3, hs.slen, hu.slen, h1, h1', h2, h2']
        unfold CEnd
        simp [r_48_5, g3, wrap_succ (show n < 4611686018427387904 by omega)]
        refine CNext.mk ⟨by simp [g0], by simp, hx, ?_⟩
        rw [hb]; simp [longR, h1, h2]
  · subst heq
    rw [List.take_length] at hpre
    simp [r_48_6]
    exact fun _ => hpre

theorem ratsv_one {a : RawR} {p : Nat} {ro : Bool} {cs : List Value} (hb : H.blk p = .row ro T_api_Rat cs) (h : RatV H (.agg cs.toArray) a) : RatsV H (.slice (some ⟨p, 0, none⟩) 1 1) [a] := by
  have hl : cs.length = 4 := by
    obtain ⟨s, u, hc, _⟩ := h
    have hc' : cs = [.bool a.1.1, s, .bool a.2.1, u] := by simpa using congrArg (fun v => match v with | Value.agg a => a.toList | _ => []) hc
    rw [hc']; rfl
  refine ⟨cs, ⟨by simp [hl], .inr ⟨p, 0, 1, ro, cs, rfl, hb, by simp [hl], by simp [← hl]⟩⟩, ?_⟩
  intro j hj
  have : j = 0 := by simpa using hj
  subst this
  simp only [Nat.zero_mul, List.drop_zero, List.getElem_cons_zero]
  rw [← hl, List.take_length]
  exact h

theorem Great18_any {l : List RawE} (h : ExtsV H v l) (hf : fl ≤ H.size) : Does env fl f_19 [v] H (fun r H' => r = .bool (decide (100 < l.length) || anyB longE l) ∧ Ext H H') R := by
  refine does_ext e_19 hf (h := ?_)
  intro ρ h0
  by_cases h1 : 100 < l.length
  · have h1' : (100 : Int) < (l.length : Int) := by omega
    simp [s_19, r_19_0, r_19_1, r_19_2, h0, h.slen, h1, h1']
  have h1' : ¬ (100 : Int) < (l.length : Int) := by omega
  have hl : l.length < 1073741824 := by omega
  simp [s_19, r_19_0, r_19_1, r_19_3, h0, h.slen, h1, h1']
  refine W_cfor (fun n ρ G => ρ 0 = v ∧ ρ 3 = .int .i64 (n : Int) ∧ Ext H G ∧ anyB longE (l.take n) = false) l.length (by decide) (by simp [h0, anyB_nil]) ?_
  clear h0 ρ
  rintro n ρ G hn1 ⟨g0, g3, hx, hpre⟩
  have k := h.mono monoPE hx
  simp [r_19_4, g0, g3, k.slen]
  refine CStep.mk (by simp) (fun hlt => ?_) (fun heq => ?_)
  · obtain ⟨b, o, cs, ha, hcl, hp, hall, hagg, hc⟩ := k.at_ hlt (by decide)
    obtain ⟨s, u, hcs, hs, hu⟩ := hp
    have hcs2 : cs = [.int .i64 l[n].1, .bool l[n].2.1.1, s, .bool l[n].2.2.1, u] := by simpa using congrArg (fun v => match v with | Value.agg a => a.toList | _ => []) hcs
    subst hcs2
    have c1 := hagg 1 4 (by decide) (by decide)
    simp at c1
    have hb : anyB longE (l.take (n + 1)) = longE l[n] := by rw [anyB_succ hlt, hpre, Bool.false_or]
    have yes : longE l[n] = true → anyB longE l = true := anyB_yes hlt
    simp [r_19_5, g0, g3, k.ia hlt, ha, c1]
    generalize hG : Array.push G _ = G1
    obtain ⟨hx2, b0⟩ := new0 hG
    clear hG
    replace hx := hx.trans hx2
    replace k := k.mono monoPE hx2
    have k0 : RatsV G1 (.slice (some ⟨G.size, 0, none⟩) 1 1) [l[n].2] := ratsv_one b0 ⟨s, u, rfl, hs.mono hx2, hu.mono hx2⟩
    refine (Great2_does k0 hx.1 (by simp)).mono ?_
    rintro _ G2 ⟨rfl, hx2⟩
    replace hx := hx.trans hx2
    have hone : anyB longR [l[n].2] = longE l[n] := by simp [anyB, longE]
    by_cases h2 : longE l[n] = true
    · simp [hone, h2, r_19_6]
      exact fun _ => yes h2
    · rw [Bool.not_eq_true] at h2
      simp [hone, h2]
      unfold CEnd
      simp [r_19_7, g3, wrap_succ (show n < 4611686018427387904 by omega)]
      refine CNext.mk ⟨by simp [g0], by simp, hx, ?_⟩
      rw [hb, h2]
  · subst heq
    rw [List.take_length] at hpre
    simp [r_19_8]
    exact fun _ => hpre

end Go.Proofs.YtjlohmnnldbjoaaGreat.AI

/- What a law is handed, as lists. -/
namespace Go.Proofs.YtjlohmnnldbjoaaGreat.AI
open Go

variable {H : Heap} {v : Value} {m : Nat} {cs : List Value}

theorem exists_list {α : Type} {Q : Nat → α → Prop} : ∀ n, (∀ i, i < n → ∃ x, Q i x) → ∃ l : List α, l.length = n ∧ ∀ i (h : i < l.length), Q i l[i]
  | 0, _ => ⟨[], rfl, fun i h => by simp at h⟩
  | n + 1, h => by
    obtain ⟨l, h1, h2⟩ := exists_list n (fun i hi => h i (by omega))
    obtain ⟨x, hx⟩ := h n (by omega)
    refine ⟨l ++ [x], by simp [h1], fun i hi => ?_⟩
    by_cases h3 : i < l.length
    · rw [List.getElem_append_left h3]; exact h2 i h3
    · have : i = n := by simp at hi; omega
      subst this
      rw [List.getElem_append_right (by omega)]
      simpa [h1] using hx

theorem isSls {α : Type} {Pr : Program} {P : Heap → List Value → α → Prop} {t e : TypeId} {sz : Nat} (hu : Pr.underlying t = some (.slice e)) (hc : Pr.cellsOf e = sz)
    (hel : ∀ cs, cs.length = sz → IsT Pr H m e cs → ∃ x, P H cs x) (h : IsT Pr H (m + 1) t [v]) : ∃ l, Sls P H e sz v l := by
  unfold IsT at h
  rw [hu] at h
  rcases h with h | ⟨b, len, cap, cells, h1, h2, h3, h4, h5, h6⟩
  · have : v = .slice none 0 0 := by simpa using h
    subst this
    exact ⟨[], Sls.nil⟩
  · have : v = .slice (some ⟨b, 0, none⟩) len cap := by simpa using h1
    subst this
    rw [hc] at h5 h6
    have hj : ∀ i, i < len → i * sz + sz ≤ cells.length := by
      intro i hi
      have : (i + 1) * sz ≤ len * sz := Nat.mul_le_mul_right _ hi
      rw [Nat.add_mul, Nat.one_mul] at this
      omega
    obtain ⟨l, hl, hk⟩ := exists_list (Q := fun i x => P H ((cells.drop (i * sz)).take sz) x) len (fun i hi => hel _ (by have := hj i hi; simp; omega) (h6 i hi))
    subst hl
    refine ⟨l, cells, ⟨h5, .inr ⟨b, 0, cap, true, cells, rfl, h4, by omega, ?_⟩⟩, hk⟩
    rw [List.drop_zero, ← h5, List.take_length]

/-- the types that a law is handed. -/
structure Types (P : Program) : Prop where
  u3 : P.underlying 3 = some (.int .i64)
  u4 : P.underlying 4 = some .bool
  u103 : P.underlying 103 = some (.int .u32)
  u28 : P.underlying 28 = some (.slice 103)
  u30 : ∃ f g : Field, P.underlying 30 = some (.struct #[f, g]) ∧ f.type = 4 ∧ g.type = 28
  u32 : ∃ f g : Field, P.underlying 32 = some (.struct #[f, g]) ∧ f.type = 30 ∧ g.type = 30
  u34 : ∃ f g : Field, P.underlying 34 = some (.struct #[f, g]) ∧ f.type = 3 ∧ g.type = 32
  u37 : P.underlying 37 = some (.slice 32)
  u27 : P.underlying 27 = some (.slice 34)
  u23 : P.underlying 23 = some (.slice 37)
  u25 : ∃ f : Field, P.underlying 25 = some (.struct #[f]) ∧ f.type = 23
  c103 : P.cellsOf 103 = 1
  c37 : P.cellsOf 37 = 1
  c32 : P.cellsOf 32 = 4
  c34 : P.cellsOf 34 = 5
variable {P : Program}

theorem isLim (hP : Types P) (h : IsT P H (m + 2) 28 [v]) : ∃ l, Lim H v l := by
  obtain ⟨l, h⟩ := isSls (P := fun _ cs (x : Nat) => cs = [.int .u32 (x : Nat)] ∧ x < 4294967296) (sz := 1) hP.u28 hP.c103 (fun cs _ h => by
    unfold IsT at h
    rw [hP.u103] at h
    obtain ⟨n, rfl, hn⟩ := h
    simp only [Lit.wf, Bool.and_eq_true, decide_eq_true_eq] at hn
    have h0 : 0 ≤ n := hn.1
    have h1 : n ≤ 4294967295 := hn.2
    exact ⟨n.toNat, by rw [Int.toNat_of_nonneg h0], by omega⟩) h
  obtain ⟨cs, h1, h2⟩ := h
  refine ⟨l, ?_, fun x hx => ?_⟩
  · have : cs = u32s l := by
      apply List.ext_getElem
      · have := h1.1; simp [u32s]; omega
      · intro i h3 h4
        have h5 : i < l.length := by simpa using h4
        have h6 := (h2 i h5).1
        rw [Nat.mul_one, List.drop_eq_getElem_cons h3, List.take_succ_cons] at h6
        have h7 := (List.cons.inj h6).1
        rw [h7]; simp [u32s]
    rw [← this]; exact h1
  · obtain ⟨i, hi, rfl⟩ := List.getElem_of_mem hx
    exact (h2 i hi).2

theorem isBool (hP : Types P) (h : IsT P H (m + 1) 4 cs) : ∃ b, cs = [.bool b] := by
  unfold IsT at h
  rw [hP.u4] at h; exact h
theorem isWhole (hP : Types P) (h : IsT P H (m + 1) 3 cs) : ∃ n, cs = [.int .i64 n] := by
  unfold IsT at h
  rw [hP.u3] at h
  obtain ⟨n, h, _⟩ := h; exact ⟨n, h⟩
theorem isOne (hP : Types P) (h : IsT P H (m + 1) 28 cs) : ∃ v, cs = [v] := by
  unfold IsT at h
  rw [hP.u28] at h
  rcases h with h | ⟨b, len, cap, cells, h, _⟩ <;> exact ⟨_, h⟩

theorem isInt (hP : Types P) (h : IsT P H (m + 3) 30 cs) : ∃ b s l, cs = [.bool b, s] ∧ Lim H s l := by
  obtain ⟨f, g, hu, h1, h2⟩ := hP.u30
  unfold IsT at h
  rw [hu] at h
  obtain ⟨parts, rfl, hl, hp⟩ := h
  obtain ⟨p, q, rfl⟩ : ∃ p q, parts = [p, q] := by
    match parts, hl with
    | [p, q], _ => exact ⟨p, q, rfl⟩
  obtain ⟨b, rfl⟩ := isBool hP (by simpa [h1] using hp 0 _ rfl)
  have h1' : IsT P H (m + 2) 28 q := by simpa [h2] using hp 1 _ rfl
  obtain ⟨s, rfl⟩ := isOne hP h1'
  obtain ⟨l, hl⟩ := isLim hP h1'
  exact ⟨b, s, l, rfl, hl⟩

theorem isRat (hP : Types P) (h : IsT P H (m + 4) 32 cs) : ∃ a, RatV H (.agg cs.toArray) a := by
  obtain ⟨f, g, hu, h1, h2⟩ := hP.u32
  unfold IsT at h
  rw [hu] at h
  obtain ⟨parts, rfl, hl, hp⟩ := h
  obtain ⟨p, q, rfl⟩ : ∃ p q, parts = [p, q] := by
    match parts, hl with
    | [p, q], _ => exact ⟨p, q, rfl⟩
  obtain ⟨b, s, l, rfl, hs⟩ := isInt hP (by simpa [h1] using hp 0 _ rfl)
  obtain ⟨c, u, k, rfl, hu⟩ := isInt hP (by simpa [h2] using hp 1 _ rfl)
  exact ⟨((b, l), (c, k)), s, u, rfl, hs, hu⟩

theorem isExt (hP : Types P) (h : IsT P H (m + 5) 34 cs) : ∃ e, ExtV H (.agg cs.toArray) e := by
  obtain ⟨f, g, hu, h1, h2⟩ := hP.u34
  unfold IsT at h
  rw [hu] at h
  obtain ⟨parts, rfl, hl, hp⟩ := h
  obtain ⟨p, q, rfl⟩ : ∃ p q, parts = [p, q] := by
    match parts, hl with
    | [p, q], _ => exact ⟨p, q, rfl⟩
  obtain ⟨n, rfl⟩ := isWhole hP (by simpa [h1] using hp 0 _ rfl)
  obtain ⟨a, s, u, hc, hs, hu⟩ := isRat hP (by simpa [h2] using hp 1 _ rfl)
  have hc2 : q = [.bool a.1.1, s, .bool a.2.1, u] := by simpa using congrArg (fun v => match v with | Value.agg a => a.toList | _ => []) hc
  subst hc2
  exact ⟨(n, a), s, u, rfl, hs, hu⟩

theorem isRats (hP : Types P) (h : IsT P H (m + 5) 37 [v]) : ∃ l, RatsV H v l := isSls hP.u37 hP.c32 (fun _ _ h => isRat hP h) h
theorem isExts (hP : Types P) (h : IsT P H (m + 6) 27 [v]) : ∃ l, ExtsV H v l := isSls hP.u27 hP.c34 (fun _ _ h => isExt hP h) h
theorem isRows (hP : Types P) (h : IsT P H (m + 6) 23 [v]) : ∃ l, RowsV H v l := isSls hP.u23 hP.c37 (fun cs hc h => by
  obtain ⟨w, rfl⟩ : ∃ w, cs = [w] := by
    match cs, hc with
    | [w], _ => exact ⟨w, rfl⟩
  obtain ⟨l, hl⟩ := isRats hP h
  exact ⟨l, w, rfl, hl⟩) h

theorem argExts (hP : Types P) (h : IsV P H (m + 6) 27 v) : ∃ l, ExtsV H v l := by
  unfold IsV at h; rw [hP.u27] at h; exact isExts hP h
theorem argWhole (hP : Types P) (h : IsV P H (m + 1) 3 v) : ∃ n, v = .int .i64 n := by
  unfold IsV at h; rw [hP.u3] at h
  obtain ⟨n, h⟩ := isWhole hP h; exact ⟨n, by simpa using h⟩
theorem argTempl (hP : Types P) (h : IsV P H (m + 7) 25 v) : ∃ rows, TemplV H v rows := by
  obtain ⟨f, hu, h1⟩ := hP.u25
  unfold IsV at h; rw [hu] at h
  obtain ⟨cs, rfl, h⟩ := h
  unfold IsT at h
  rw [hu] at h
  obtain ⟨parts, hc, hl, hp⟩ := h
  obtain ⟨p, rfl⟩ : ∃ p, parts = [p] := by
    match parts, hl with
    | [p], _ => exact ⟨p, rfl⟩
  have h1' : IsT P H (m + 6) 23 p := by simpa [h1] using hp 0 _ rfl
  obtain ⟨s, rfl⟩ : ∃ s, p = [s] := by
    unfold IsT at h1'
    rw [hP.u23] at h1'
    rcases h1' with h | ⟨b, len, cap, cells, h, _⟩ <;> exact ⟨_, h⟩
  obtain ⟨l, hl⟩ := isRows hP h1'
  have : cs = #[s] := by rw [← Array.toList_inj]; simpa using hc
  exact ⟨l, s, by rw [this], hl⟩

/-- the first so many. -/
theorem Sls.first {α : Type} {P : Heap → List Value → α → Prop} {e sz : Nat} {l : List α} (h : Sls P H e sz v l) {n : Nat} (hn : n ≤ l.length) {k : IntKind} :
    ∃ v', sliceA sz v none (some (.int k n)) none = some v' ∧ Sls P H e sz v' (l.take n) ∧ elemOk H e v = true := by
  obtain ⟨cs, h1, h2⟩ := h
  obtain ⟨v', h3, h4⟩ := h1.slice (lo := 0) (hi := n) (x := none) (y := some (.int k n)) (Nat.zero_le _) hn rfl (by simp [bnd])
  refine ⟨v', h3, ⟨_, by rw [List.length_take, Nat.min_eq_left hn]; simpa using h4, ?_⟩, h1.elemOk (Ext.refl _)⟩
  intro j hj
  have hj2 : j < n := by simp at hj; omega
  have hj3 : (j + 1) * sz ≤ n * sz := Nat.mul_le_mul_right _ hj2
  rw [Nat.add_mul, Nat.one_mul] at hj3
  have := h2 j (by omega)
  simp only [List.getElem_take, Nat.sub_zero, Nat.zero_mul, List.drop_zero]
  rw [List.drop_take, List.take_take, Nat.min_eq_left (by omega)]
  exact this

theorem types : Types Tryz.prog where
  u3 := Tryz.underlying3
  u4 := by kernel_rfl
  u103 := Tryz.underlying103
  u28 := Tryz.underlying28
  u30 := ⟨_, _, Tryz.underlying30, rfl, rfl⟩
  u32 := ⟨_, _, Tryz.underlying32, rfl, rfl⟩
  u34 := ⟨_, _, Tryz.underlying34, rfl, rfl⟩
  u37 := Tryz.underlying37
  u27 := Tryz.underlying27
  u23 := Tryz.underlying23
  u25 := ⟨_, Tryz.underlying25, rfl⟩
  c103 := by kernel_rfl
  c37 := by kernel_rfl
  c32 := by kernel_rfl
  c34 := by kernel_rfl

end Go.Proofs.YtjlohmnnldbjoaaGreat.AI

/- The abstract machine's operations as effects on a heap that is only asked: the same machine can then run over another kind of heap. -/
namespace Go.Proofs.YtjlohmnnldbjoaaGreat.AI
open Go

/-- what an operation does to the heap. -/
inductive Eff where
  | same
  | push (b : Blk)
  | set (k : Nat) (b : Blk)
  | mv (k : Nat) (b : Blk)

def Eff.app (H : Heap) : Eff → Heap
  | .same => H
  | .push b => H.push b
  | .set k b => H.setIfInBounds k b
  | .mv k b => (H.setIfInBounds k .dead).push b

inductive OpResE where
  | bad
  | val (v : Value) (e : Eff)
  | pan (v : Value)
  | call (f : FuncId) (args : List Value) (lone : Bool)

def OpResE.on (H : Heap) : OpResE → OpRes
  | .bad => .bad
  | .val v e => .val v (e.app H)
  | .pan v => .pan v
  | .call f args lone => .call f args lone

def evG (g : Nat → Value) : Opd → Value
  | .tmp i => g i
  | .const v => v
  | .fn f => .func (.func f) #[] #[]
theorem evG_get (t : Tmps) : evG (get t) = ev t := by funext x; cases x <;> rfl

def partsG (g : Nat → Value) (ps : List (Nat × Nat × Opd)) : List (Nat × Nat × Value) := ps.map fun p => (p.1, p.2.1, evG g p.2.2)

section
variable (blk : Nat → Blk) (size : Nat)

def cellsG (b off n : Nat) : Option (List Value) :=
  match blk b with
  | .row _ _ cs => if off + n ≤ cs.length then some ((cs.drop off).take n) else none
  | .dead => none

def writeG (fl b off : Nat) (vs : List Value) : Option Eff :=
  match blk b with
  | .row false e cs => if fl ≤ b ∧ off + vs.length ≤ cs.length ∧ vs.all plainCell = true then some (.set b (.row false e (writeL cs off vs))) else none
  | _ => none

def elemG (e : TypeId) : Value → Bool
  | .slice (some p) _ cap => if cap = 0 then true else match blk p.block with | .row true _ _ => true | .row false e' _ => e' == e | .dead => false
  | _ => true

def loadG (agg : Bool) (n : Nat) (a : Value) : Option Value :=
  match a with
  | .pointer (some p) =>
    if agg = true ∧ n = 0 then some (.agg #[]) else
    if p.spot.isSome = true then none else
    match cellsG blk p.block p.off (if agg then n else 1) with
    | some cs => if agg then some (.agg cs.toArray) else cs.head?
    | none => none
  | _ => none

def appG (fl : Nat) (elem : TypeId) (sz bytes : Nat) (s x : Value) : Option (Value × Eff) :=
  match s, x with
  | .slice base len cap, .slice xb n _ =>
    if n = 0 then some (.slice base len cap, .same) else
    if len + n ≤ 1073741824 ∧ bytes ≤ 1024 ∧ 0 < sz then
      match xb with
      | none => none
      | some xp =>
        match cellsG blk xp.block xp.off (n * sz) with
        | none => none
        | some new =>
          if new.all plainCell = false then none else
          match base with
          | none => if len = 0 ∧ cap = 0 then some (.slice (some ⟨size, 0, none⟩) n unk, .push (.row false elem new)) else none
          | some sp =>
            if len = 0 ∧ cap = 0 then some (.slice (some ⟨size, 0, none⟩) n unk, .push (.row false elem new)) else
            match cellsG blk sp.block sp.off (len * sz) with
            | none => none
            | some old =>
              if cap ≠ unk ∧ cap < len + n then some (.slice (some ⟨size, 0, none⟩) (len + n) unk, .push (.row false elem (old ++ new)))
              else
                match blk sp.block with
                | .row false e _ =>
                  if e = elem ∧ fl ≤ sp.block then some (.slice (some ⟨size, 0, none⟩) (len + n) unk, .mv sp.block (.row false elem (old ++ new)))
                  else none
                | _ => none
    else none
  | _, _ => none

def optE : Option Value → OpResE
  | some v => .val v .same
  | none => .bad

def optE2 : Option (Value × Eff) → OpResE
  | some (v, e) => .val v e
  | none => .bad

def opE (fl : Nat) (g : Nat → Value) : SOp → OpResE
  | .mv x => .val (evG g x) .same
  | .pick c a b => match evG g c with | .bool true => .val (evG g a) .same | .bool false => .val (evG g b) .same | _ => .bad
  | .alloc e z => .val (.pointer (some ⟨size, 0, none⟩)) (.push (.row false e z))
  | .box e x => .val (.pointer (some ⟨size, 0, none⟩)) (.push (.row false e (cellsL (evG g x))))
  | .build z ps => optE ((fillL z (partsG g ps)).map fun cs => .agg cs.toArray)
  | .lit e z n ps =>
    match fillL (repl z n) (partsG g ps) with
    | some cs => .val (.slice (some ⟨size, 0, none⟩) n n) (.push (.row false e cs))
    | none => .bad
  | .load agg n a => optE (loadG blk agg n (evG g a))
  | .store n a x =>
    match evG g a with
    | .pointer (some p) =>
      if p.spot.isSome = true ∨ (cellsL (evG g x)).length ≠ n then .bad else
      match writeG blk fl p.block p.off (cellsL (evG g x)) with
      | some e => .val undef e
      | none => .bad
    | _ => .bad
  | .chk x =>
    match evG g x with
    | .pointer (some a) => .val (.pointer (some a)) .same
    | .func (.func f) a b => .val (.func (.func f) a b) .same
    | .iface a b => .val (.iface a b) .same
    | _ => .bad
  | .bin tag b x y => optE (binA tag b (evG g x) (evG g y))
  | .un u x => optE (unA u (evG g x))
  | .conv k x => match evG g x with | .int _ n => .val (.int k (k.wrap n)) .same | _ => .bad
  | .iface ty x => .val (.iface ty (evG g x)) .same
  | .mkfn f a b => .val (.func f (a.map (evG g)).toArray (b.map (evG g)).toArray) .same
  | .mk e bytes z len cap =>
    match evG g len, evG g cap with
    | .int _ l, .int _ c =>
      if 0 ≤ l ∧ l ≤ c ∧ c ≤ 1073741824 ∧ bytes ≤ 1024 then .val (.slice (some ⟨size, 0, none⟩) l.toNat c.toNat) (.push (.row false e (repl z l.toNat))) else .bad
    | _, _ => .bad
  | .sl e sz x lo hi mx => if elemG blk e (evG g x) = false then .bad else optE (sliceA sz (evG g x) (lo.map (evG g)) (hi.map (evG g)) (mx.map (evG g)))
  | .fa off a => match evG g a with | .pointer (some p) => if p.spot.isSome = true then .bad else .val (.pointer (some ⟨p.block, p.off + off, none⟩)) .same | _ => .bad
  | .fa0 e a =>
    match evG g a with
    | .pointer (some p) =>
      match blk p.block with
      | .row false e' _ => if p.spot.isSome = false ∧ e' = e ∧ p.off = 0 then .val (.pointer (some ⟨p.block, 0, none⟩)) .same else .bad
      | _ => .bad
    | _ => .bad
  | .fld agg off n x => optE (fldA agg off n (evG g x))
  | .ia sz x i =>
    match evG g x, evG g i with
    | .slice (some p) n _, .int _ j => if 0 ≤ j ∧ j < n then .val (.pointer (some ⟨p.block, p.off + j.toNat * sz, none⟩)) .same else .bad
    | _, _ => .bad
  | .ext x i => match evG g x with | .tuple vs => optE vs[i]? | _ => .bad
  | .call f args lone => .call f (args.map (evG g)) lone
  | .callv x args lone => match evG g x with | .func (.func f) first captured => .call f (first.toList ++ args.map (evG g) ++ captured.toList) lone | _ => .bad
  | .inv x tbl args lone =>
    match evG g x with
    | .iface ty v => match tbl.lookup ty with | some f => .call f (v :: args.map (evG g)) lone | none => .bad
    | _ => .bad
  | .len x => match evG g x with | .slice _ n _ => .val (.int .i64 n) .same | _ => .bad
  | .mnx big x ys => optE (mnxA big (evG g x) (ys.map (evG g)))
  | .app e sz bytes s x => optE2 (appG blk size fl e sz bytes (evG g s) (evG g x))
  | .pan x => match evG g x with | .iface a b => .pan (.iface a b) | _ => .bad
end

variable {H : Heap} {fl : Nat} {t : Tmps}

theorem cellsG_eq (b off n : Nat) : cellsG H.blk b off n = H.cells? b off n := rfl
theorem loadG_eq (agg : Bool) (n : Nat) (a : Value) : loadG H.blk agg n a = loadA H agg n a := rfl
theorem elemG_eq (e : TypeId) (v : Value) : elemG H.blk e v = elemOk H e v := rfl
theorem writeG_eq (b off : Nat) (vs : List Value) : H.write? fl b off vs = (writeG H.blk fl b off vs).map (·.app H) := by
  unfold writeG Heap.write?
  cases H.blk b with
  | dead => rfl
  | row ro e cs =>
    cases ro with
    | true => rfl
    | false => simp only; split <;> rfl
theorem appG_eq (e sz bytes : Nat) (s x : Value) : appA fl H e sz bytes s x = (appG H.blk H.size fl e sz bytes s x).map fun p => (p.1, p.2.app H) := by
  unfold appG appA
  simp only [cellsG_eq]
  split
  · rename_i base len cap xb n xc
    simp only
    by_cases h1 : n = 0
    · rw [if_pos h1, if_pos h1]; rfl
    rw [if_neg h1, if_neg h1]
    by_cases h2 : len + n ≤ 1073741824 ∧ bytes ≤ 1024 ∧ 0 < sz
    · rw [if_pos h2, if_pos h2]
      cases xb with
      | none => rfl
      | some xp =>
        simp only
        cases H.cells? xp.block xp.off (n * sz) with
        | none => rfl
        | some new =>
          simp only
          by_cases h3 : new.all plainCell = false
          · rw [if_pos h3, if_pos h3]; rfl
          rw [if_neg h3, if_neg h3]
          cases base with
          | none => simp only; split <;> rfl
          | some sp =>
            simp only
            by_cases h4 : len = 0 ∧ cap = 0
            · rw [if_pos h4, if_pos h4]; rfl
            rw [if_neg h4, if_neg h4]
            cases H.cells? sp.block sp.off (len * sz) with
            | none => rfl
            | some old =>
              simp only
              by_cases h5 : cap ≠ unk ∧ cap < len + n
              · rw [if_pos h5, if_pos h5]; rfl
              rw [if_neg h5, if_neg h5]
              cases H.blk sp.block with
              | dead => rfl
              | row ro e' cs =>
                cases ro with
                | true => rfl
                | false => simp only; split <;> rfl
    · rw [if_neg h2, if_neg h2]; rfl
  · rename_i h
    split
    · exact absurd rfl (h _ _ _ _ _ _ rfl)
    · rfl

theorem optE_on (o : Option Value) : (optE o).on H = ofOpt H o := by cases o <;> rfl

theorem opA_E (op : SOp) : opA fl t H op = (opE H.blk H.size fl (get t) op).on H := by
  cases op <;> simp only [opA, opE, evG_get, partsG, evParts, loadG_eq, elemG_eq]
  case mv => rfl
  case pick c a b =>
    generalize ev t c = v
    cases v <;> try rfl
    rename_i b; cases b <;> rfl
  case alloc => rfl
  case box => rfl
  case build => exact (optE_on _).symm
  case lit e z n ps =>
    cases fillL (repl z n) (ps.map fun p => (p.1, p.2.1, ev t p.2.2)) <;> rfl
  case load => exact (optE_on _).symm
  case store n a x =>
    generalize ev t a = v
    cases v <;> try rfl
    rename_i p; cases p with
    | none => rfl
    | some p =>
      simp only
      split
      · rfl
      · rw [writeG_eq]; cases writeG H.blk fl p.block p.off (cellsL (ev t x)) <;> rfl
  case chk x =>
    generalize ev t x = v
    cases v <;> try rfl
    · rename_i p; cases p <;> rfl
    · rename_i f _ _; cases f <;> rfl
  case bin => exact (optE_on _).symm
  case un => exact (optE_on _).symm
  case conv k x => generalize ev t x = v; cases v <;> rfl
  case iface => rfl
  case mkfn => rfl
  case mk e bytes z len cap =>
    generalize ev t len = v; generalize ev t cap = u
    cases v <;> try rfl
    cases u <;> try rfl
    simp only; split <;> rfl
  case sl e sz x lo hi mx =>
    cases elemOk H e (ev t x)
    · rfl
    · exact (optE_on _).symm
  case fa off a =>
    generalize ev t a = v
    cases v <;> try rfl
    rename_i p; cases p with
    | none => rfl
    | some p => simp only; split <;> rfl
  case fa0 e a =>
    generalize ev t a = v
    cases v <;> try rfl
    rename_i p; cases p with
    | none => rfl
    | some p =>
      simp only
      cases H.blk p.block with
      | dead => rfl
      | row ro e' cs =>
        cases ro with
        | true => rfl
        | false => simp only; split <;> rfl
  case fld => exact (optE_on _).symm
  case ia sz x i =>
    generalize ev t x = v; generalize ev t i = u
    cases v <;> try rfl
    rename_i p n _; cases p with
    | none => rfl
    | some p => cases u <;> try rfl
                simp only; split <;> rfl
  case ext x i =>
    generalize ev t x = v
    cases v <;> try rfl
    exact (optE_on _).symm
  case call => rfl
  case callv x args lone =>
    generalize ev t x = v
    cases v <;> try rfl
    rename_i f _ _; cases f <;> rfl
  case inv x tbl args lone =>
    generalize ev t x = v
    cases v <;> try rfl
    rename_i ty v
    simp only
    cases tbl.lookup ty <;> rfl
  case len x => generalize ev t x = v; cases v <;> rfl
  case mnx => exact (optE_on _).symm
  case app e sz bytes s x =>
    rw [appG_eq]
    cases appG H.blk H.size fl e sz bytes (ev t s) (ev t x) <;> rfl
  case pan x => generalize ev t x = v; cases v <;> rfl

section
def e_chk (blk : Nat → Blk) (size fl : Nat) (g : Nat → Value) (x : Opd) : OpResE :=
    match evG g x with
    | .pointer (some a) => .val (.pointer (some a)) .same
    | .func (.func f) a b => .val (.func (.func f) a b) .same
    | .iface a b => .val (.iface a b) .same
    | _ => .bad

def e_un (blk : Nat → Blk) (size fl : Nat) (g : Nat → Value) (u : UnOp) (x : Opd) : OpResE := optE (unA u (evG g x))

def e_iface (blk : Nat → Blk) (size fl : Nat) (g : Nat → Value) (ty : TypeId) (x : Opd) : OpResE := .val (.iface ty (evG g x)) .same

def e_mkfn (blk : Nat → Blk) (size fl : Nat) (g : Nat → Value) (f : Fn) (a : List Opd) (b : List Opd) : OpResE := .val (.func f (a.map (evG g)).toArray (b.map (evG g)).toArray) .same

def e_mk (blk : Nat → Blk) (size fl : Nat) (g : Nat → Value) (e : TypeId) (bytes : Nat) (z : List Value) (len : Opd) (cap : Opd) : OpResE :=
    match evG g len, evG g cap with
    | .int _ l, .int _ c =>
      if 0 ≤ l ∧ l ≤ c ∧ c ≤ 1073741824 ∧ bytes ≤ 1024 then .val (.slice (some ⟨size, 0, none⟩) l.toNat c.toNat) (.push (.row false e (repl z l.toNat))) else .bad
    | _, _ => .bad

def e_sl (blk : Nat → Blk) (size fl : Nat) (g : Nat → Value) (e : TypeId) (sz : Nat) (x : Opd) (lo : Option Opd) (hi : Option Opd) (mx : Option Opd) : OpResE := if elemG blk e (evG g x) = false then .bad else optE (sliceA sz (evG g x) (lo.map (evG g)) (hi.map (evG g)) (mx.map (evG g)))

def e_fa0 (blk : Nat → Blk) (size fl : Nat) (g : Nat → Value) (e : TypeId) (a : Opd) : OpResE :=
    match evG g a with
    | .pointer (some p) =>
      match blk p.block with
      | .row false e' _ => if p.spot.isSome = false ∧ e' = e ∧ p.off = 0 then .val (.pointer (some ⟨p.block, 0, none⟩)) .same else .bad
      | _ => .bad
    | _ => .bad

def e_callv (blk : Nat → Blk) (size fl : Nat) (g : Nat → Value) (x : Opd) (args : List Opd) (lone : Bool) : OpResE := match evG g x with | .func (.func f) first captured => .call f (first.toList ++ args.map (evG g) ++ captured.toList) lone | _ => .bad

def e_inv (blk : Nat → Blk) (size fl : Nat) (g : Nat → Value) (x : Opd) (tbl : List (TypeId × FuncId)) (args : List Opd) (lone : Bool) : OpResE :=
    match evG g x with
    | .iface ty v => match tbl.lookup ty with | some f => .call f (v :: args.map (evG g)) lone | none => .bad
    | _ => .bad

def e_mnx (blk : Nat → Blk) (size fl : Nat) (g : Nat → Value) (big : Bool) (x : Opd) (ys : List Opd) : OpResE := optE (mnxA big (evG g x) (ys.map (evG g)))

def e_pan (blk : Nat → Blk) (size fl : Nat) (g : Nat → Value) (x : Opd) : OpResE := match evG g x with | .iface a b => .pan (.iface a b) | _ => .bad
end

end Go.Proofs.YtjlohmnnldbjoaaGreat.AI
