/- Part 7 of the proof: AiNum6, AiNum7, AiNum8, AiNum9, AiBits, AiNum10, AiNum11, AiNum12, AiNum13, AiNum14, AiNum15, AiNum16, AiWd. -/
import Derived.Test.YtjlohmnnldbjoaaGreatM05
set_option linter.unusedVariables false
set_option linter.unusedSimpArgs false
set_option linter.unusedSectionVars false

/- num.Neg, Sub, Add, Cmp. -/
namespace Go.Proofs.YtjlohmnnldbjoaaGreat.AI
open Go
set_option maxHeartbeats 4000000

variable {fl : Nat} {H : Heap} {R : PostP} {v w : Value} {i j : Bool × List Nat}

theorem num_Neg_does (h : IntV H v i) (hf : fl ≤ H.size) (hn : i.2.length ≤ 1073741824) :
    Does env fl f_151 [v] H (fun r H' => IntV H' r (canonI (-valI i)) ∧ Ext H H') R := by
  have hh := h
  obtain ⟨s, rfl, hs⟩ := h
  refine does_ext e_151 hf (h := ?_)
  intro ρ h0
  simp [s_151, r_151_0, h0]
  generalize hG : Array.push (Array.push H _) _ = G
  have hx : Ext H G := by rw [← hG]; simp
  have b0 : Heap.blk G H.size = .row false T_api_Int [.bool i.1, s] := by rw [← hG]; simp
  have b1 : Heap.blk G (H.size + 1) = .row false T_api_Int [.bool false, .slice none 0 0] := by rw [← hG]; simp
  have hz : H.size + 1 < G.size := blk_lt b1
  refine W_draw ?_
  simp [r_151_1, h0, b0, b1]
  refine (neg_does (hh.mono hx) (by omega) (by omega)).mono ?_
  rintro _ G2 ⟨rfl, hx2⟩
  replace b0 := hx2.blk b0
  replace b1 := hx2.blk b1
  replace hx := hx.trans hx2
  simp [h0, b0, b1]
  refine (limbs_does (hh.mono hx) hx.1 (by omega)).mono ?_
  rintro l G3 ⟨hl, hx3⟩
  replace b1 := hx3.blk b1
  replace hx := hx.trans hx3
  try simp [h0]
  have := len_digits_val hh.ok
  refine (made_does (-valI i) hl hx.1 (by omega) (by rw [natL_digits]; simp; split <;> omega)).mono ?_
  rintro _ G4 ⟨⟨s', rfl, hs'⟩, hx4⟩
  replace b1 := hx4.blk b1
  have hz := blk_lt b1
  simp [b1, hs'.cells, hs'.plain, hz]
  exact fun _ => ⟨s', rfl, hs'.setT b1 (by decide)⟩

theorem num_Add_does (h : IntV H v i) (k : IntV H w j) (hf : fl ≤ H.size) (hn : i.2.length < 536870912) (hm : j.2.length < 536870912) :
    Does env fl f_88 [v, w] H (fun r H' => IntV H' r (canonI (valI i + valI j)) ∧ Ext H H') R := by
  have hh := h
  have kk := k
  obtain ⟨s, rfl, hs⟩ := h
  obtain ⟨u, rfl, hu⟩ := k
  refine does_ext e_88 hf (h := ?_)
  intro ρ h0
  simp [s_88, r_88_0, h0]
  generalize hG : Array.push (Array.push (Array.push H _) _) _ = G
  have hx : Ext H G := by rw [← hG]; exact (Ext.refl H).push.push.push
  have b0 : Heap.blk G H.size = .row false T_api_Int [.bool i.1, s] := by rw [← hG]; simp
  have b1 : Heap.blk G (H.size + 1) = .row false T_api_Int [.bool j.1, u] := by rw [← hG]; simp
  have b2 : Heap.blk G (H.size + 2) = .row false T_api_Int [.bool false, .slice none 0 0] := by rw [← hG]; simp
  have hz : H.size + 1 < G.size := blk_lt b1
  clear hG
  refine W_draw ?_
  simp [r_88_1, h0, b0, b1]
  refine (limbs_does (hh.mono hx) (by omega) (by omega)).mono ?_
  rintro x G2 ⟨hl, hx2⟩
  replace b0 := hx2.blk b0
  replace b1 := hx2.blk b1
  replace b2 := hx2.blk b2
  replace hx := hx.trans hx2
  try simp [h0, b0, b1]
  refine (limbs_does (kk.mono hx) hx.1 (by omega)).mono ?_
  rintro y G3 ⟨hl2, hx3⟩
  replace b0 := hx3.blk b0
  replace b1 := hx3.blk b1
  replace b2 := hx3.blk b2
  replace hx := hx.trans hx3
  replace hl := hl.mono hx3
  try simp [h0]
  refine W_draw ?_
  simp [r_88_2, h0, b0, b1]
  refine (neg_does (hh.mono hx) (by have := hx.1; omega) (by omega)).mono ?_
  rintro _ G2 ⟨rfl, hx2⟩
  replace b0 := hx2.blk b0
  replace b1 := hx2.blk b1
  replace b2 := hx2.blk b2
  replace hx := hx.trans hx2
  replace hl := hl.mono hx2
  replace hl2 := hl2.mono hx2
  try simp [h0, b0, b1]
  refine (neg_does (kk.mono hx) hx.1 (by omega)).mono ?_
  rintro _ G2 ⟨rfl, hx2⟩
  replace b0 := hx2.blk b0
  replace b1 := hx2.blk b1
  replace b2 := hx2.blk b2
  replace hx := hx.trans hx2
  replace hl := hl.mono hx2
  replace hl2 := hl2.mono hx2
  clear hs hu hz hx2
  have l1 := len_digits_val hh.ok
  have l2 := len_digits_val kk.ok
  simp [h0]
  refine ⟨fun hsame => ?_, fun hdiff => ?_⟩
  · simp [r_88_3, h0, b0]
    refine (neg_does (hh.mono hx) hx.1 (by omega)).mono ?_
    rintro _ G2 ⟨rfl, hx2⟩
    replace b0 := hx2.blk b0
    replace b1 := hx2.blk b1
    replace b2 := hx2.blk b2
    replace hx := hx.trans hx2
    replace hl := hl.mono hx2
    replace hl2 := hl2.mono hx2
    try simp [h0]
    refine (num_plus_does hl hl2 hx.1 (by omega) (by omega)).mono ?_
    rintro r G2 ⟨⟨o, ho, hon, hol⟩, hx2⟩
    replace b0 := hx2.blk b0
    replace b1 := hx2.blk b1
    replace b2 := hx2.blk b2
    replace hx := hx.trans hx2
    replace hl := hl.mono hx2
    replace hl2 := hl2.mono hx2
    try simp [h0]
    rw [natL_digits, natL_digits] at hon
    refine (made_does (valI i + valI j) ho hx.1 (by omega) (by rw [hon]; simp; split <;> omega)).mono ?_
    rintro _ G2 ⟨⟨s', rfl, hs'⟩, hx2⟩
    replace b0 := hx2.blk b0
    replace b1 := hx2.blk b1
    replace b2 := hx2.blk b2
    replace hx := hx.trans hx2
    replace hl := hl.mono hx2
    replace hl2 := hl2.mono hx2
    have hz := blk_lt b2
    simp [b2, hs'.cells, hs'.plain, hz]
    exact fun _ => ⟨s', rfl, hs'.setT b2 (by decide)⟩
  · simp [r_88_4, h0]
    refine (num_cmp_does hl hl2 hx.1 (by omega)).mono ?_
    rintro _ G2 ⟨rfl, hx2⟩
    replace b0 := hx2.blk b0
    replace b1 := hx2.blk b1
    replace b2 := hx2.blk b2
    replace hx := hx.trans hx2
    replace hl := hl.mono hx2
    replace hl2 := hl2.mono hx2
    rw [cmpL_digits, cmpZ_cast]
    try simp [h0]
    refine ⟨fun hge => ?_, fun hlt => ?_⟩
    · have hab : (valI j).natAbs ≤ (valI i).natAbs := by
        (repeat' split at hge) <;> omega
      simp [r_88_5, h0, b0]
      refine (neg_does (hh.mono hx) hx.1 (by omega)).mono ?_
      rintro _ G2 ⟨rfl, hx2⟩
      replace b0 := hx2.blk b0
      replace b1 := hx2.blk b1
      replace b2 := hx2.blk b2
      replace hx := hx.trans hx2
      replace hl := hl.mono hx2
      replace hl2 := hl2.mono hx2
      try simp [h0]
      refine (num_minus_does hl hl2 hx.1 (by omega) (digits_mono hab) (by rw [natL_digits, natL_digits]; exact hab)).mono ?_
      rintro r G2 ⟨⟨o, ho, hon, hol⟩, hx2⟩
      replace b0 := hx2.blk b0
      replace b1 := hx2.blk b1
      replace b2 := hx2.blk b2
      replace hx := hx.trans hx2
      replace hl := hl.mono hx2
      replace hl2 := hl2.mono hx2
      try simp [h0]
      rw [natL_digits, natL_digits] at hon
      refine (made_does (valI i + valI j) ho hx.1 (by omega) (by rw [hon]; simp; split <;> omega)).mono ?_
      rintro _ G2 ⟨⟨s', rfl, hs'⟩, hx2⟩
      replace b0 := hx2.blk b0
      replace b1 := hx2.blk b1
      replace b2 := hx2.blk b2
      replace hx := hx.trans hx2
      replace hl := hl.mono hx2
      replace hl2 := hl2.mono hx2
      have hz := blk_lt b2
      simp [b2, hs'.cells, hs'.plain, hz]
      exact fun _ => ⟨s', rfl, hs'.setT b2 (by decide)⟩
    · have hab : (valI i).natAbs ≤ (valI j).natAbs := by
        (repeat' split at hlt) <;> omega
      simp [r_88_6, h0, b1]
      refine (neg_does (kk.mono hx) hx.1 (by omega)).mono ?_
      rintro _ G2 ⟨rfl, hx2⟩
      replace b0 := hx2.blk b0
      replace b1 := hx2.blk b1
      replace b2 := hx2.blk b2
      replace hx := hx.trans hx2
      replace hl := hl.mono hx2
      replace hl2 := hl2.mono hx2
      try simp [h0]
      refine (num_minus_does hl2 hl hx.1 (by omega) (digits_mono hab) (by rw [natL_digits, natL_digits]; exact hab)).mono ?_
      rintro r G2 ⟨⟨o, ho, hon, hol⟩, hx2⟩
      replace b0 := hx2.blk b0
      replace b1 := hx2.blk b1
      replace b2 := hx2.blk b2
      replace hx := hx.trans hx2
      replace hl := hl.mono hx2
      replace hl2 := hl2.mono hx2
      try simp [h0]
      rw [natL_digits, natL_digits] at hon
      refine (made_does (valI i + valI j) ho hx.1 (by omega) (by rw [hon]; simp; split <;> omega)).mono ?_
      rintro _ G2 ⟨⟨s', rfl, hs'⟩, hx2⟩
      replace b0 := hx2.blk b0
      replace b1 := hx2.blk b1
      replace b2 := hx2.blk b2
      replace hx := hx.trans hx2
      replace hl := hl.mono hx2
      replace hl2 := hl2.mono hx2
      have hz := blk_lt b2
      simp [b2, hs'.cells, hs'.plain, hz]
      exact fun _ => ⟨s', rfl, hs'.setT b2 (by decide)⟩
end Go.Proofs.YtjlohmnnldbjoaaGreat.AI

/- num.Sub, num.Cmp. -/
namespace Go.Proofs.YtjlohmnnldbjoaaGreat.AI
open Go
set_option maxHeartbeats 4000000

variable {fl : Nat} {H : Heap} {R : PostP} {v w : Value} {i j : Bool × List Nat}

theorem len_canon (z : Int) : (canonI z).2.length = (digits z.natAbs).length := rfl

theorem num_Sub_does (h : IntV H v i) (k : IntV H w j) (hf : fl ≤ H.size) (hn : i.2.length < 536870912) (hm : j.2.length < 536870912) :
    Does env fl f_207 [v, w] H (fun r H' => IntV H' r (canonI (valI i - valI j)) ∧ Ext H H') R := by
  have hh := h
  have kk := k
  obtain ⟨s, rfl, hs⟩ := h
  obtain ⟨u, rfl, hu⟩ := k
  refine does_ext e_207 hf (h := ?_)
  intro ρ h0
  simp [s_207, r_207_0, h0]
  generalize hG : Array.push (Array.push (Array.push H _) _) _ = G
  have hx : Ext H G := by rw [← hG]; exact (Ext.refl H).push.push.push
  have b0 : Heap.blk G H.size = .row false T_api_Int [.bool i.1, s] := by rw [← hG]; simp
  have b1 : Heap.blk G (H.size + 1) = .row false T_api_Int [.bool j.1, u] := by rw [← hG]; simp
  have b2 : Heap.blk G (H.size + 2) = .row false T_api_Int [.bool false, .slice none 0 0] := by rw [← hG]; simp
  clear hG
  refine W_draw ?_
  simp [r_207_1, h0, b0, b1]
  refine (num_Neg_does (kk.mono hx) (by have := hx.1; omega) (by omega)).mono ?_
  rintro x G2 ⟨hl, hx2⟩
  replace b0 := hx2.blk b0
  replace b1 := hx2.blk b1
  replace b2 := hx2.blk b2
  replace hx := hx.trans hx2
  try simp [h0]
  have hlen : (canonI (-valI j)).2.length < 536870912 := by
    rw [len_canon, Int.natAbs_neg]; have := len_digits_val kk.ok; omega
  refine (num_Add_does (hh.mono hx) hl hx.1 hn hlen).mono ?_
  rintro _ G2 ⟨⟨s', rfl, hs'⟩, hx2⟩
  replace b0 := hx2.blk b0
  replace b1 := hx2.blk b1
  replace b2 := hx2.blk b2
  replace hx := hx.trans hx2
  have hz := blk_lt b2
  simp [b2, hs'.cells, hs'.plain, hz]
  rw [val_canon] at hs' ⊢
  exact fun _ => ⟨s', by rw [Int.sub_eq_add_neg], by rw [Int.sub_eq_add_neg]; exact hs'.setT b2 (by decide)⟩

theorem num_Cmp_does (h : IntV H v i) (k : IntV H w j) (hf : fl ≤ H.size) (hn : i.2.length < 536870912) (hm : j.2.length < 536870912) :
    Does env fl f_127 [v, w] H (fun r H' => r = .int .i64 (cmpZ (valI i) (valI j)) ∧ Ext H H') R := by
  have hh := h
  have kk := k
  obtain ⟨s, rfl, hs⟩ := h
  obtain ⟨u, rfl, hu⟩ := k
  refine does_ext e_127 hf (h := ?_)
  intro ρ h0
  simp [s_127, r_127_0, h0]
  generalize hG : Array.push (Array.push H _) _ = G
  have hx : Ext H G := by rw [← hG]; exact (Ext.refl H).push.push
  have b0 : Heap.blk G H.size = .row false T_api_Int [.bool i.1, s] := by rw [← hG]; simp
  have b1 : Heap.blk G (H.size + 1) = .row false T_api_Int [.bool j.1, u] := by rw [← hG]; simp
  clear hG
  simp [r_127_1, h0, b0, b1]
  have l1 := len_digits_val hh.ok
  have l2 := len_digits_val kk.ok
  refine (neg_does (hh.mono hx) hx.1 (by omega)).mono ?_
  rintro _ G2 ⟨rfl, hx2⟩
  replace b0 := hx2.blk b0
  replace b1 := hx2.blk b1
  replace hx := hx.trans hx2
  by_cases hI : valI i < 0
  · simp [hI, b1]
    refine (neg_does (kk.mono hx) hx.1 (by omega)).mono ?_
    rintro _ G2 ⟨rfl, hx2⟩
    replace b0 := hx2.blk b0
    replace b1 := hx2.blk b1
    replace hx := hx.trans hx2
    by_cases hJ : valI j < 0
    · simp [hJ, r_127_3, h0, b0, b1]
      refine (neg_does (hh.mono hx) hx.1 (by omega)).mono ?_
      rintro _ G2 ⟨rfl, hx2⟩
      replace b0 := hx2.blk b0
      replace b1 := hx2.blk b1
      replace hx := hx.trans hx2
      simp [hI, r_127_5, h0, b0, b1]
      refine (neg_does (hh.mono hx) hx.1 (by omega)).mono ?_
      rintro _ G2 ⟨rfl, hx2⟩
      replace b0 := hx2.blk b0
      replace b1 := hx2.blk b1
      replace hx := hx.trans hx2
      simp [hI, h0]
      refine W_draw ?_
      simp [r_127_6, h0, b0, b1]
      refine (limbs_does (kk.mono hx) (by have := hx.1; omega) (by omega)).mono ?_
      rintro x G2 ⟨hl, hx2⟩
      replace b0 := hx2.blk b0
      replace b1 := hx2.blk b1
      replace hx := hx.trans hx2
      try simp [h0, b0]
      refine (limbs_does (hh.mono hx) hx.1 (by omega)).mono ?_
      rintro y G2 ⟨hl2, hx2⟩
      replace hl := hl.mono hx2
      replace b0 := hx2.blk b0
      replace b1 := hx2.blk b1
      replace hx := hx.trans hx2
      try simp [h0, b0]
      refine (num_cmp_does hl hl2 hx.1 (by omega)).mono ?_
      rintro _ G2 ⟨rfl, hx2⟩
      rw [cmpL_digits, cmpZ_cast]
      have : (if (valI j).natAbs < (valI i).natAbs then (-1 : Int) else if (valI i).natAbs < (valI j).natAbs then 1 else 0) = cmpZ (valI i) (valI j) := by
        unfold cmpZ; (repeat' split) <;> omega
      simp [this]
    · simp [hJ, r_127_2, h0]
      have : cmpZ (valI i) (valI j) = -1 := by unfold cmpZ; rw [if_pos (by omega)]
      simp [this]
  · simp [hI, r_127_3, h0, b0, b1]
    refine (neg_does (hh.mono hx) hx.1 (by omega)).mono ?_
    rintro _ G2 ⟨rfl, hx2⟩
    replace b0 := hx2.blk b0
    replace b1 := hx2.blk b1
    replace hx := hx.trans hx2
    simp [hI, h0, b1]
    refine (neg_does (kk.mono hx) hx.1 (by omega)).mono ?_
    rintro _ G2 ⟨rfl, hx2⟩
    replace b0 := hx2.blk b0
    replace b1 := hx2.blk b1
    replace hx := hx.trans hx2
    by_cases hJ : valI j < 0
    · simp [hJ, r_127_4, h0]
      have : cmpZ (valI i) (valI j) = 1 := by unfold cmpZ; rw [if_neg (by omega), if_pos (by omega)]
      simp [this]
    · simp [hJ, r_127_5, h0, b0]
      refine (neg_does (hh.mono hx) hx.1 (by omega)).mono ?_
      rintro _ G2 ⟨rfl, hx2⟩
      replace b0 := hx2.blk b0
      replace b1 := hx2.blk b1
      replace hx := hx.trans hx2
      simp [hI, h0]
      refine W_draw ?_
      simp [r_127_7, h0, b0, b1]
      refine (limbs_does (hh.mono hx) (by have := hx.1; omega) (by omega)).mono ?_
      rintro x G2 ⟨hl, hx2⟩
      replace b0 := hx2.blk b0
      replace b1 := hx2.blk b1
      replace hx := hx.trans hx2
      try simp [h0, b1]
      refine (limbs_does (kk.mono hx) hx.1 (by omega)).mono ?_
      rintro y G2 ⟨hl2, hx2⟩
      replace hl := hl.mono hx2
      replace b0 := hx2.blk b0
      replace b1 := hx2.blk b1
      replace hx := hx.trans hx2
      try simp [h0, b0]
      refine (num_cmp_does hl hl2 hx.1 (by omega)).mono ?_
      rintro _ G2 ⟨rfl, hx2⟩
      rw [cmpL_digits, cmpZ_cast]
      have : (if (valI i).natAbs < (valI j).natAbs then (-1 : Int) else if (valI j).natAbs < (valI i).natAbs then 1 else 0) = cmpZ (valI i) (valI j) := by
        unfold cmpZ; (repeat' split) <;> omega
      simp [this]
end Go.Proofs.YtjlohmnnldbjoaaGreat.AI

/- num.Of. -/
namespace Go.Proofs.YtjlohmnnldbjoaaGreat.AI
open Go
set_option maxHeartbeats 4000000

variable {fl : Nat} {H : Heap} {R : PostP} {v w : Value} {i j : Bool × List Nat}

theorem num_Of_does {n : Int} (hf : fl ≤ H.size) (h1 : -9223372036854775808 ≤ n) (h2 : n < 9223372036854775808) :
    Does env fl f_126 [.int .i64 n] H (fun r H' => IntV H' r (canonI n) ∧ Ext H H') R := by
  refine does_ext e_126 hf (h := ?_)
  intro ρ h0
  simp only [s_126]
  refine W_seq (W_reg ?_)
  simp [-We_seq, r_126_0, h0]
  generalize hG : Array.push H _ = G
  have hx : Ext H G := by rw [← hG]; exact (Ext.refl H).push
  have b2 : Heap.blk G H.size = .row false T_api_Int [.bool false, .slice none 0 0] := by rw [← hG]; simp
  clear hG
  refine W_seq (W_reg ?_)
  simp [-We_seq, r_126_1, h0]
  refine W_seq (W_mid (fun t G' => G' = G ∧ t.length = 19 ∧ get t 0 = .int .i64 n ∧ get t 2 = .pointer (some ⟨H.size, 0, none⟩) ∧ get t 3 = .int .u64 ((n.natAbs : Nat) : Int)) ?_ ?_)
  · have e1 : 0 ≤ n → IntKind.u64.wrap n = ((n.natAbs : Nat) : Int) := fun _ => by rw [wrapu64]; omega
    have e2 : n < 0 → IntKind.u64.wrap (-IntKind.u64.wrap n) = ((n.natAbs : Nat) : Int) := fun _ => by rw [wrapu64, wrapu64]; omega
    simp [r_126_2, r_126_3, h0]
    exact ⟨e2, e1⟩
  clear h0 ρ
  rintro t G' ⟨rfl, ht, g0, g2, g3⟩
  obtain ⟨ρ, rfl⟩ := toT ht
  simp only [get_T, Nat.reduceLT] at g0 g2 g3
  simp [r_126_4, g0, g2, g3]
  refine (num_low_uint64_does hx.1).mono ?_
  rintro _ G2 ⟨rfl, hx2⟩
  replace b2 := hx2.blk b2
  replace hx := hx.trans hx2
  try simp [g0, g2, g3]
  rw [show ((n.natAbs : Nat) : Int) / 4294967296 = ((n.natAbs / 4294967296 : Nat) : Int) by omega]
  refine (num_low_uint64_does hx.1).mono ?_
  rintro _ G2 ⟨rfl, hx2⟩
  replace b2 := hx2.blk b2
  replace hx := hx.trans hx2
  simp
  have hl : Lim (Array.push G2 (.row false T_uint32 [.int .u32 (((n.natAbs : Nat) : Int) % 4294967296), .int .u32 (((n.natAbs : Nat) : Int) / 4294967296 % 4294967296)]))
      (.slice (some ⟨Array.size G2, 0, none⟩) 2 2) [n.natAbs % 4294967296, n.natAbs / 4294967296 % 4294967296] := by
    refine ⟨(Own.mk (fl := 0) (n := 2) (sz := 1) (cs := u32s [n.natAbs % 4294967296, n.natAbs / 4294967296 % 4294967296]) ?_ rfl (Nat.zero_le _)).sl, ?_⟩
    · rw [blk_push_self]; simp [u32s]
    · intro x hx; simp at hx; omega
  have hx2 : Ext G2 (Array.push G2 (.row false T_uint32 [.int .u32 (((n.natAbs : Nat) : Int) % 4294967296), .int .u32 (((n.natAbs : Nat) : Int) / 4294967296 % 4294967296)])) := (Ext.refl G2).push
  replace b2 := hx2.blk b2
  replace hx := hx.trans hx2
  refine (made_does n hl hx.1 (by simp) (by simp [natL]; split <;> omega)).mono ?_
  rintro _ G2 ⟨⟨s', rfl, hs'⟩, hx2⟩
  replace b2 := hx2.blk b2
  replace hx := hx.trans hx2
  have hz := blk_lt b2
  simp [b2, hs'.cells, hs'.plain, hz]
  exact fun _ => ⟨s', rfl, hs'.setT b2 (by decide)⟩
end Go.Proofs.YtjlohmnnldbjoaaGreat.AI

/- num.Mul. -/
namespace Go.Proofs.YtjlohmnnldbjoaaGreat.AI
open Go
set_option maxHeartbeats 4000000

variable {fl : Nat} {H : Heap} {R : PostP} {v w : Value} {i j : Bool × List Nat}

theorem natL_set : ∀ (l : List Nat) (j z : Nat), j < l.length → natL (l.set j z) + 4294967296 ^ j * l.getD j 0 = natL l + 4294967296 ^ j * z
  | [], j, z, h => by simp at h
  | x :: l, 0, z, _ => by simp [natL]; omega
  | x :: l, j + 1, z, h => by
    have ih := natL_set l j z (by simpa using h)
    rw [List.set_cons_succ, List.getD_cons_succ, natL, natL, Nat.pow_succ]
    have e1 : 4294967296 ^ j * 4294967296 * l.getD j 0 = 4294967296 * (4294967296 ^ j * l.getD j 0) := by rw [Nat.mul_comm (4294967296 ^ j), Nat.mul_assoc]
    have e2 : 4294967296 ^ j * 4294967296 * z = 4294967296 * (4294967296 ^ j * z) := by rw [Nat.mul_comm (4294967296 ^ j), Nat.mul_assoc]
    rw [e1, e2]; omega

theorem u32s_set (l : List Nat) (j z : Nat) : u32s (l.set j z) = (u32s l).set j (.int .u32 (z : Nat)) := by simp [u32s, List.map_set]

theorem LimOk_set {l : List Nat} {j z : Nat} (h : LimOk l) (hz : z < 4294967296) : LimOk (l.set j z) := by
  intro x hx
  rcases List.mem_or_eq_of_mem_set hx with hx | rfl
  · exact h x hx
  · exact hz

/-- one element of a slice of one's own, read. -/
theorem own_load {G : Heap} {e n p cap : Nat} {l : List Nat} (hb : G.blk p = .row false e (u32s l)) {k : IntKind} {z : Nat} (hz : z < l.length) (hn : l.length = n) :
    iaV 1 (.slice (some ⟨p, 0, none⟩) n cap) (.int k (z : Int)) = some (.pointer (some ⟨p, z, none⟩)) ∧ rd (G.blk p) z = some (.int .u32 ((l.getD z 0 : Nat) : Int)) := by
  refine ⟨?_, ?_⟩
  · simp only [iaV]; rw [if_pos (by omega)]; simp
  · rw [hb]; simp [u32s, List.getD_eq_getElem?_getD, hz]

theorem getD_set_ne' {l : List Nat} {a b z : Nat} (h : a ≠ b) : (l.set a z).getD b 0 = l.getD b 0 := by
  rw [List.getD_eq_getElem?_getD, List.getD_eq_getElem?_getD, List.getElem?_set_ne h]

theorem num_Mul_does (h : IntV H v i) (k : IntV H w j) (hf : fl ≤ H.size) (hn : i.2.length < 268435456) (hm : j.2.length < 268435456) :
    Does env fl f_89 [v, w] H (fun r H' => IntV H' r (canonI (valI i * valI j)) ∧ Ext H H') R := by
  have hh := h
  have kk := k
  obtain ⟨s, rfl, hs⟩ := h
  obtain ⟨u, rfl, hu⟩ := k
  refine does_ext e_89 hf (h := ?_)
  intro ρ h0
  simp [s_89, r_89_0, h0]
  generalize hG : Array.push (Array.push (Array.push H _) _) _ = G
  have hx : Ext H G := by rw [← hG]; exact (Ext.refl H).push.push.push
  have b0 : Heap.blk G H.size = .row false T_api_Int [.bool i.1, s] := by rw [← hG]; simp
  have b1 : Heap.blk G (H.size + 1) = .row false T_api_Int [.bool j.1, u] := by rw [← hG]; simp
  have b2 : Heap.blk G (H.size + 2) = .row false T_api_Int [.bool false, .slice none 0 0] := by rw [← hG]; simp
  clear hG
  have l1 := len_digits_val hh.ok
  have l2 := len_digits_val kk.ok
  refine W_draw ?_
  simp [r_89_1, h0, b0, b1]
  refine (limbs_does (hh.mono hx) (by have := hx.1; omega) (by omega)).mono ?_
  rintro x G2 ⟨hl, hx2⟩
  replace b0 := hx2.blk b0
  replace b1 := hx2.blk b1
  replace b2 := hx2.blk b2
  replace hx := hx.trans hx2
  try simp [h0, b1]
  refine (limbs_does (kk.mono hx) hx.1 (by omega)).mono ?_
  rintro y G2 ⟨hl2, hx2⟩
  replace hl := hl.mono hx2
  replace b0 := hx2.blk b0
  replace b1 := hx2.blk b1
  replace b2 := hx2.blk b2
  replace hx := hx.trans hx2
  generalize hA : digits (valI i).natAbs = A at hl l1
  generalize hB : digits (valI j).natAbs = B at hl2 l2
  have w1 : IntKind.i64.wrap ((A.length : Int) + (B.length : Int)) = ((A.length + B.length : Nat) : Int) := by rw [wrap64 (by omega) (by omega)]; omega
  have hmk := mkV_int (bytes := 4) (k := .i64) (k' := .i64) (l := A.length + B.length) (c := A.length + B.length) (Nat.le_refl _) (by omega) (by omega)
  simp [-Int.natCast_add, r_89_2, r_89_3, h0, hl.slen, hl2.slen, w1, hmk]
  have hP : H.size ≤ G2.size := hx.1
  generalize hPd : G2.size = P at hP
  generalize hSL : Value.slice (some ⟨P, 0, none⟩) (A.length + B.length) (A.length + B.length) = SL
  refine W_loopM (fun k t G' => ∃ a o, a + k = A.length ∧ t.length = 78 ∧ get t 2 = .pointer (some ⟨H.size, 0, none⟩) ∧ get t 3 = .pointer (some ⟨H.size + 1, 0, none⟩) ∧ get t 4 = .pointer (some ⟨H.size + 2, 0, none⟩) ∧
      get t 6 = y ∧ get t 7 = SL ∧ get t 23 = x ∧ get t 24 = .int .i64 A.length ∧ get t 25 = .int .i64 ((a : Nat) : Int) ∧
      Ext G2 G' ∧ Heap.blk G' P = .row false T_uint32 (u32s o) ∧ o.length = A.length + B.length ∧ LimOk o ∧ natL o = natL (A.take a) * natL B ∧ ∀ q, a + B.length ≤ q → o.getD q 0 = 0)
    (fun t G' => ∃ o, t.length = 78 ∧ get t 2 = .pointer (some ⟨H.size, 0, none⟩) ∧ get t 3 = .pointer (some ⟨H.size + 1, 0, none⟩) ∧ get t 4 = .pointer (some ⟨H.size + 2, 0, none⟩) ∧ get t 7 = SL ∧
      Ext G2 G' ∧ Heap.blk G' P = .row false T_uint32 (u32s o) ∧ o.length = A.length + B.length ∧ LimOk o ∧ natL o = natL A * natL B) A.length ?_ ?_ ?_
  · refine ⟨0, List.replicate (A.length + B.length) 0, by omega, by simp, by simp, by simp, by simp, by simp, by simp, by simp, by simp, by simp, Ext.push (Ext.refl _), ?_, by simp, ?_, ?_, ?_⟩
    · rw [← hPd, blk_push_self]
      congr 1
      generalize A.length + B.length = n
      induction n with
      | zero => rfl
      | succ n ih => rw [repl, ih]; rfl
    · intro z hz; rw [List.mem_replicate] at hz; omega
    · simp only [List.take_zero, natL, Nat.zero_mul]
      generalize A.length + B.length = n
      induction n with
      | zero => rfl
      | succ n ih => rw [List.replicate_succ, natL, ih]
    · intro q _; rw [List.getD_eq_getElem?_getD, List.getElem?_replicate]; split <;> rfl
  · clear h0 ρ w1 hmk
    rintro k t G' ⟨a, o, hak, ht, g2, g3, g4, g6, g7, g23, g24, g25, hx2, hb, hol, hok, hs, hz⟩
    obtain ⟨ρ, rfl⟩ := toT ht
    simp only [get_T, Nat.reduceLT] at g2 g3 g4 g6 g7 g23 g24 g25
    by_cases ha : a < A.length
    · have hla := hl.load ha hx2
      have hia := hl.ia (k := .i64) ha
      have hA2 := natL_take_succ ha
      have hA3 : A.getD a 0 < 4294967296 := hl.2 _ (by rw [List.getD_eq_getElem?_getD, List.getElem?_eq_getElem ha]; exact List.getElem_mem ha)
      generalize A.getD a 0 = U at hla hA2 hA3
      simp [r_89_4, r_89_5, r_89_6, r_89_7, g2, g3, g4, g6, g7, g23, g24, g25, ha, hla, hia, hl2.slen]
      refine W_loopM (fun k2 t G' => ∃ q c o, q + k2 = B.length ∧ t.length = 78 ∧ get t 2 = .pointer (some ⟨H.size, 0, none⟩) ∧ get t 3 = .pointer (some ⟨H.size + 1, 0, none⟩) ∧ get t 4 = .pointer (some ⟨H.size + 2, 0, none⟩) ∧
          get t 6 = y ∧ get t 7 = SL ∧ get t 23 = x ∧ get t 24 = .int .i64 A.length ∧ get t 25 = .int .i64 ((a : Nat) : Int) ∧ get t 8 = .int .i64 ((a : Nat) : Int) ∧ get t 9 = .int .u32 ((U : Nat) : Int) ∧
          get t 10 = .int .u64 ((c : Nat) : Int) ∧ get t 30 = y ∧ get t 31 = .int .i64 B.length ∧ get t 32 = .int .i64 ((q : Nat) : Int) ∧
          Ext G2 G' ∧ Heap.blk G' P = .row false T_uint32 (u32s o) ∧ o.length = A.length + B.length ∧ LimOk o ∧ c < 4294967296 ∧
          natL o + 4294967296 ^ (a + q) * c = natL (A.take a) * natL B + 4294967296 ^ a * (U * natL (B.take q)) ∧ ∀ q, a + B.length ≤ q → o.getD q 0 = 0)
        (fun t G' => ∃ c o, t.length = 78 ∧ get t 2 = .pointer (some ⟨H.size, 0, none⟩) ∧ get t 3 = .pointer (some ⟨H.size + 1, 0, none⟩) ∧ get t 4 = .pointer (some ⟨H.size + 2, 0, none⟩) ∧
          get t 6 = y ∧ get t 7 = SL ∧ get t 23 = x ∧ get t 24 = .int .i64 A.length ∧ get t 25 = .int .i64 ((a : Nat) : Int) ∧ get t 8 = .int .i64 ((a : Nat) : Int) ∧
          get t 10 = .int .u64 ((c : Nat) : Int) ∧
          Ext G2 G' ∧ Heap.blk G' P = .row false T_uint32 (u32s o) ∧ o.length = A.length + B.length ∧ LimOk o ∧ c < 4294967296 ∧
          natL o + 4294967296 ^ (a + B.length) * c = natL (A.take (a + 1)) * natL B ∧ ∀ q, a + B.length ≤ q → o.getD q 0 = 0) B.length ?_ ?_ ?_
      · exact ⟨0, 0, o, by omega, by simp, by simp [g2], by simp [g3], by simp [g4], by simp [g6], by simp [g7], by simp [g23], by simp [g24], by simp [g25], by simp, by simp, by simp, by simp, by simp, by simp,
          hx2, hb, hol, hok, by omega, by simp [hs, natL], hz⟩
      · clear hs hz hok hol hb hx2 hla o g2 g3 g4 g6 g7 g23 g24 g25 ht ρ G'
        rintro k2 t G' ⟨q, c, o, hqk, ht, g2, g3, g4, g6, g7, g23, g24, g25, g8, g9, g10, g30, g31, g32, hx2, hb, hol, hok, hc, hs, hz⟩
        obtain ⟨ρ, rfl⟩ := toT ht
        simp only [get_T, Nat.reduceLT] at g2 g3 g4 g6 g7 g23 g24 g25 g8 g9 g10 g30 g31 g32
        by_cases hq : q < B.length
        · have hlb := hl2.load hq hx2
          have hib := hl2.ia (k := .i64) hq
          have hB2 := natL_take_succ hq
          have hB3 : B.getD q 0 < 4294967296 := hl2.2 _ (by rw [List.getD_eq_getElem?_getD, List.getElem?_eq_getElem hq]; exact List.getElem_mem hq)
          generalize B.getD q 0 = V at hlb hB2 hB3
          have hlo : a + q < o.length := by omega
          obtain ⟨hio, hro⟩ := own_load (k := .i64) (cap := A.length + B.length) hb hlo hol
          rw [hSL] at hio
          have hset := natL_set o (a + q) ((c + (U * V + o.getD (a + q) 0)) % 4294967296) hlo
          have hW3 : o.getD (a + q) 0 < 4294967296 := hok _ (by rw [List.getD_eq_getElem?_getD, List.getElem?_eq_getElem hlo]; exact List.getElem_mem hlo)
          generalize o.getD (a + q) 0 = Wd at hro hset hW3
          have hUV : U * V ≤ 4294967295 * 4294967295 := Nat.mul_le_mul (by omega) (by omega)
          have e1 : IntKind.u64.wrap (U : Int) = (U : Int) := by rw [wrapu64]; omega
          have e2 : IntKind.u64.wrap (V : Int) = (V : Int) := by rw [wrapu64]; omega
          have e3 : IntKind.u64.wrap (Wd : Int) = (Wd : Int) := by rw [wrapu64]; omega
          have e4 : IntKind.u64.wrap ((U : Int) * (V : Int)) = ((U * V : Nat) : Int) := by rw [wrapu64, ← Int.natCast_mul]; omega
          have e5 : IntKind.u64.wrap (((U * V : Nat) : Int) + (Wd : Int)) = ((U * V + Wd : Nat) : Int) := by rw [wrapu64]; omega
          have e6 : IntKind.u64.wrap ((c : Int) + ((U * V + Wd : Nat) : Int)) = ((c + (U * V + Wd) : Nat) : Int) := by rw [wrapu64]; omega
          have e7 : IntKind.i64.wrap ((a : Int) + (q : Int)) = ((a + q : Nat) : Int) := by rw [wrap64 (by omega) (by omega)]; omega
          have e8 : IntKind.i64.wrap ((q : Int) + 1) = ((q + 1 : Nat) : Int) := by rw [wrap64 (by omega) (by omega)]; omega
          simp [-Int.natCast_add, -Int.natCast_mul, r_89_8, r_89_9, r_89_10, r_89_11, r_89_12, r_89_13, g2, g3, g4, g6, g7, g23, g24, g25, g8, g9, g10, g30, g31, g32, hq, hlb, hib, e1, e2, e3, e4, e5, e6, e7, e8, hio, hro]
          refine (num_low_uint64_does (by have := hx2.1; omega)).mono ?_
          rintro _ G3 ⟨rfl, hx3⟩
          replace hb := hx3.blk hb
          have hxx := hx2.trans hx3
          have hPl := blk_lt hb
          have hle : a + q + 1 ≤ o.length := hlo
          generalize hc1 : c + (U * V + Wd) = c1 at *
          simp [-Int.natCast_emod, -Int.natCast_ediv, -Int.natCast_add, hb, hP, hle]
          refine ⟨k2 - 1, by omega, q + 1, by omega, c1 / 4294967296, by omega, rfl, hxx.set (by omega), o.set (a + q) (c1 % 4294967296), by rw [blk_set_self hPl, u32s_set], by simp [hol], LimOk_set hok (by omega), by omega, ?_, ?_⟩
          · have f1 : 4294967296 ^ (a + (q + 1)) * (c1 / 4294967296) = 4294967296 ^ (a + q) * (4294967296 * (c1 / 4294967296)) := by
              rw [show a + (q + 1) = a + q + 1 by omega, Nat.pow_succ, Nat.mul_assoc]
            have f2 : 4294967296 ^ (a + q) * (c1 % 4294967296) + 4294967296 ^ (a + q) * (4294967296 * (c1 / 4294967296)) = 4294967296 ^ (a + q) * c1 := by rw [← Nat.mul_add, Nat.mod_add_div]
            have f3 : 4294967296 ^ (a + q) * c1 = 4294967296 ^ (a + q) * c + (4294967296 ^ (a + q) * (U * V) + 4294967296 ^ (a + q) * Wd) := by rw [← hc1, Nat.mul_add, Nat.mul_add]
            have f4 : 4294967296 ^ a * (U * (natL (List.take q B) + 4294967296 ^ q * V)) = 4294967296 ^ a * (U * natL (List.take q B)) + 4294967296 ^ (a + q) * (U * V) := by
              rw [Nat.mul_add, Nat.mul_add, Nat.pow_add]
              congr 1
              rw [Nat.mul_assoc, Nat.mul_left_comm U]
            rw [hB2, f4, f1]
            omega
          · intro r hr
            have := hz r hr
            rw [← List.getD_eq_getElem?_getD, getD_set_ne' (by omega)]; exact this
        · simp [r_89_8, g2, g3, g4, g6, g7, g23, g24, g25, g8, g9, g10, g30, g31, g32, hq]
          have : q = B.length := by omega
          subst this
          refine ⟨c, rfl, hx2, o, hb, hol, hok, hc, ?_, by simpa using hz⟩
          rw [hs, List.take_of_length_le (Nat.le_refl _), hA2, Nat.add_mul, Nat.mul_assoc]
      · clear hs hz hok hol hb hx2 hla o g2 g3 g4 g6 g7 g23 g24 g25 ht ρ G'
        rintro t G' ⟨c, o, ht, g2, g3, g4, g6, g7, g23, g24, g25, g8, g10, hx2, hb, hol, hok, hc, hs, hz⟩
        obtain ⟨ρ, rfl⟩ := toT ht
        simp only [get_T, Nat.reduceLT] at g2 g3 g4 g6 g7 g23 g24 g25 g8 g10
        have hlo : a + B.length < o.length := by omega
        obtain ⟨hio, hro⟩ := own_load (k := .i64) (cap := A.length + B.length) hb hlo hol
        rw [hSL] at hio
        have hset := natL_set o (a + B.length) (c % 4294967296) hlo
        rw [hz _ (Nat.le_refl _)] at hset
        have e7 : IntKind.i64.wrap ((a : Int) + (B.length : Int)) = ((a + B.length : Nat) : Int) := by rw [wrap64 (by omega) (by omega)]; omega
        have e8 : IntKind.i64.wrap ((a : Int) + 1) = ((a + 1 : Nat) : Int) := by rw [wrap64 (by omega) (by omega)]; omega
        simp [-Int.natCast_add, r_89_14, g2, g3, g4, g6, g7, g23, g24, g25, g8, g10, hl2.slen, e7, hio]
        refine (num_low_uint64_does (by have := hx2.1; omega)).mono ?_
        rintro _ G3 ⟨rfl, hx3⟩
        replace hb := hx3.blk hb
        have hxx := hx2.trans hx3
        have hPl := blk_lt hb
        have hle : a + B.length + 1 ≤ o.length := hlo
        simp [-Int.natCast_emod, -Int.natCast_ediv, -Int.natCast_add, r_89_15, g2, g3, g4, g6, g7, g23, g24, g25, hb, hP, hle, e8]
        refine ⟨k - 1, by omega, a + 1, by omega, rfl, hxx.set (by omega), o.set (a + B.length) (c % 4294967296), by rw [blk_set_self hPl, u32s_set], by simp [hol], LimOk_set hok (by omega), ?_, ?_⟩
        · rw [Nat.mod_eq_of_lt hc] at hset ⊢
          omega
        · intro r hr
          have := hz r (by omega)
          rw [← List.getD_eq_getElem?_getD, getD_set_ne' (by omega)]; exact this
    · simp [r_89_4, g2, g3, g4, g6, g7, g23, g24, g25, ha]
      have : a = A.length := by omega
      subst this
      exact ⟨hx2, o, hb, hol, hok, by rw [hs, List.take_of_length_le (Nat.le_refl _)]⟩
  · clear h0 ρ w1 hmk
    rintro t G' ⟨o, ht, g2, g3, g4, g7, hx2, hb, hol, hok, hs⟩
    obtain ⟨ρ, rfl⟩ := toT ht
    simp only [get_T, Nat.reduceLT] at g2 g3 g4 g7
    replace b0 := hx2.blk b0
    replace b1 := hx2.blk b1
    replace b2 := hx2.blk b2
    replace hx := hx.trans hx2
    have hy : Lim G' SL o := by
      rw [← hSL, ← hol]
      exact ⟨(Own.mk (fl := 0) hb (by simp) (Nat.zero_le _)).sl, hok⟩
    refine W_draw ?_
    simp [r_89_16, g2, g3, g4, g7, b0, b1]
    refine (neg_does (hh.mono hx) (by have := hx.1; omega) (by omega)).mono ?_
    rintro _ G2 ⟨rfl, hx2⟩
    replace b0 := hx2.blk b0
    replace b1 := hx2.blk b1
    replace b2 := hx2.blk b2
    replace hx := hx.trans hx2
    replace hy := hy.mono hx2
    try simp [g2, g3, g4, g7, b1]
    refine (neg_does (kk.mono hx) hx.1 (by omega)).mono ?_
    rintro _ G2 ⟨rfl, hx2⟩
    replace b0 := hx2.blk b0
    replace b1 := hx2.blk b1
    replace b2 := hx2.blk b2
    replace hx := hx.trans hx2
    replace hy := hy.mono hx2
    try simp [g2, g3, g4, g7, b1]
    have hAn : natL A = (valI i).natAbs := by rw [← hA, natL_digits]
    have hBn : natL B = (valI j).natAbs := by rw [← hB, natL_digits]
    rw [hAn, hBn, ← Int.natAbs_mul] at hs
    have hsgn : (if (decide (valI i < 0) != decide (valI j < 0)) = true then -((valI i * valI j).natAbs : Int) else ((valI i * valI j).natAbs : Int)) = valI i * valI j := by
      by_cases hi : valI i < 0 <;> by_cases hj : valI j < 0
      · have := Int.mul_pos_of_neg_of_neg hi hj
        simp [hi, hj]; omega
      · have := Int.mul_nonpos_of_nonpos_of_nonneg (Int.le_of_lt hi) (show 0 ≤ valI j by omega)
        simp [hi, hj]; omega
      · have := Int.mul_nonpos_of_nonneg_of_nonpos (show 0 ≤ valI i by omega) (Int.le_of_lt hj)
        simp [hi, hj]; omega
      · have := Int.mul_nonneg (show 0 ≤ valI i by omega) (show 0 ≤ valI j by omega)
        simp [hi, hj]; omega
    refine (made_does (valI i * valI j) hy hx.1 (by omega) (by rw [hs]; exact hsgn)).mono ?_
    rintro _ G2 ⟨⟨s', rfl, hs'⟩, hx2⟩
    replace b0 := hx2.blk b0
    replace b1 := hx2.blk b1
    replace b2 := hx2.blk b2
    replace hx := hx.trans hx2
    have hz := blk_lt b2
    simp [b2, hs'.cells, hs'.plain, hz, g4]
    exact fun _ => ⟨s', rfl, hs'.setT b2 (by decide)⟩
end Go.Proofs.YtjlohmnnldbjoaaGreat.AI

/- Shifts and masks of words. -/
namespace Go.Proofs.YtjlohmnnldbjoaaGreat.AI
open Go

section
variable {tag : Nat}
theorem wrapN64 (n : Nat) : IntKind.u64.wrap (n : Int) = ((n % 18446744073709551616 : Nat) : Int) := by rw [wrapu64]; omega
theorem wrapN32 (n : Nat) : IntKind.u32.wrap (n : Int) = ((n % 4294967296 : Nat) : Int) := by rw [wrapu32]; omega

theorem shl64 {n s : Nat} {k' : IntKind} (hs : s ≤ 64) : binA tag .shl (.int .u64 (n : Int)) (.int k' (s : Int)) = some (.int .u64 ((n * 2 ^ s % 18446744073709551616 : Nat) : Int)) := by
  rw [binA_shl (by omega)]
  have : min (s : Int).toNat IntKind.u64.bits = s := by show min (s : Int).toNat 64 = s; omega
  rw [this]
  have e : (n : Int) * 2 ^ s = ((n * 2 ^ s : Nat) : Int) := by simp
  rw [e, wrapN64]
theorem shl_u32 {n s : Nat} {k' : IntKind} (hs : s ≤ 32) : binA tag .shl (.int .u32 (n : Int)) (.int k' (s : Int)) = some (.int .u32 ((n * 2 ^ s % 4294967296 : Nat) : Int)) := by
  rw [binA_shl (by omega)]
  have : min (s : Int).toNat IntKind.u32.bits = s := by show min (s : Int).toNat 32 = s; omega
  rw [this]
  have e : (n : Int) * 2 ^ s = ((n * 2 ^ s : Nat) : Int) := by simp
  rw [e, wrapN32]
theorem shr64 {n s : Nat} {k' : IntKind} (hs : s ≤ 64) : binA tag .shr (.int .u64 (n : Int)) (.int k' (s : Int)) = some (.int .u64 ((n / 2 ^ s : Nat) : Int)) := by
  rw [binA_shr (by omega)]
  have : min (s : Int).toNat IntKind.u64.bits = s := by show min (s : Int).toNat 64 = s; omega
  rw [this]
  have e : (2 : Int) ^ s = ((2 ^ s : Nat) : Int) := by simp
  rw [e, fdivN]
theorem shr_u32 {n s : Nat} {k' : IntKind} (hs : s ≤ 32) : binA tag .shr (.int .u32 (n : Int)) (.int k' (s : Int)) = some (.int .u32 ((n / 2 ^ s : Nat) : Int)) := by
  rw [binA_shr (by omega)]
  have : min (s : Int).toNat IntKind.u32.bits = s := by show min (s : Int).toNat 32 = s; omega
  rw [this]
  have e : (2 : Int) ^ s = ((2 ^ s : Nat) : Int) := by simp
  rw [e, fdivN]
theorem or64 {a b : Nat} (ha : a < 18446744073709551616) (hb : b < 18446744073709551616) : binA tag .or (.int .u64 (a : Int)) (.int .u64 (b : Int)) = some (.int .u64 ((a ||| b : Nat) : Int)) := by
  rw [binA_or]
  have e1 : (BitVec.ofInt IntKind.u64.bits (a : Int) ||| BitVec.ofInt IntKind.u64.bits (b : Int)).toNat = a ||| b := by
    show (BitVec.ofInt 64 (a : Int) ||| BitVec.ofInt 64 (b : Int)).toNat = a ||| b
    rw [BitVec.toNat_or]
    simp only [BitVec.ofInt_natCast, BitVec.toNat_ofNat]
    rw [Nat.mod_eq_of_lt (by omega), Nat.mod_eq_of_lt (by omega)]
  rw [e1, wrapN64]
  have : a ||| b < 2 ^ 64 := Nat.or_lt_two_pow (by omega) (by omega)
  rw [Nat.mod_eq_of_lt (by omega)]
theorem and64 {a : Nat} : binA tag .and (.int .u64 (a : Int)) (.int .u64 4294967295) = some (.int .u64 ((a % 4294967296 : Nat) : Int)) := by
  rw [binA_and]
  have e1 : (BitVec.ofInt IntKind.u64.bits (a : Int) &&& BitVec.ofInt IntKind.u64.bits (4294967295 : Int)).toNat = a % 4294967296 := by
    show (BitVec.ofInt 64 (a : Int) &&& BitVec.ofInt 64 (4294967295 : Int)).toNat = a % 4294967296
    rw [BitVec.toNat_and]
    have : (BitVec.ofInt 64 (4294967295 : Int)).toNat = 2 ^ 32 - 1 := rfl
    rw [this, Nat.and_two_pow_sub_one_eq_mod]
    simp only [BitVec.ofInt_natCast, BitVec.toNat_ofNat]
    omega
  rw [e1, wrapN64, Nat.mod_eq_of_lt (by omega)]
theorem or_add32 {x y : Nat} (h : y < 4294967296) : x * 4294967296 ||| y = x * 4294967296 + y := by
  have := Nat.two_pow_add_eq_or_of_lt (i := 32) (b := y) (by omega) x
  rw [Nat.mul_comm] at this
  exact this.symm
theorem quo64 {a b : Nat} (ha : a < 18446744073709551616) (hb : b ≠ 0) : binA tag .quo (.int .u64 (a : Int)) (.int .u64 (b : Int)) = some (.int .u64 ((a / b : Nat) : Int)) := by
  rw [binA_quo (by omega), Int.tdiv_eq_ediv_of_nonneg (by omega)]
  have : (a : Int) / (b : Int) = ((a / b : Nat) : Int) := rfl
  rw [this, wrapN64, Nat.mod_eq_of_lt (Nat.lt_of_le_of_lt (Nat.div_le_self a b) ha)]
theorem rem64 {a b : Nat} (hb : b ≠ 0) : binA tag .rem (.int .u64 (a : Int)) (.int .u64 (b : Int)) = some (.int .u64 ((a % b : Nat) : Int)) := by
  rw [binA_rem (by omega), Int.tmod_eq_emod_of_nonneg (by omega)]
  rfl
end

end Go.Proofs.YtjlohmnnldbjoaaGreat.AI

/- num.small. -/
namespace Go.Proofs.YtjlohmnnldbjoaaGreat.AI
open Go
set_option maxHeartbeats 4000000

variable {fl : Nat} {H : Heap} {R : PostP} {v w : Value} {a : List Nat}

theorem natL_drop {l : List Nat} {n : Nat} (h : n < l.length) : natL (l.drop n) = l.getD n 0 + 4294967296 * natL (l.drop (n + 1)) := by
  rw [List.drop_eq_getElem_cons h, natL, List.getD_eq_getElem?_getD, List.getElem?_eq_getElem h]; rfl

theorem num_small_does {d : Nat} (ha : Lim H v a) (hf : fl ≤ H.size) (hna : a.length ≤ 1073741824) (hd : 0 < d) (hd2 : d < 4294967296) :
    Does env fl f_172 [v, .int .u32 (d : Int)] H (fun r H' => (∃ q o, r = .tuple #[q, .int .u32 ((natL a % d : Nat) : Int)] ∧ Lim H' q o ∧ natL o = natL a / d ∧ o.length = a.length) ∧ Ext H H') R := by
  refine does_ext e_172 hf (h := ?_)
  intro ρ h0
  simp only [s_172]
  have hm := mkV_int (bytes := 4) (k := .i64) (k' := .i64) (l := a.length) (c := a.length) (Nat.le_refl _) (by omega) (by omega)
  have w1 : IntKind.i64.wrap ((a.length : Int) - 1) = (a.length : Int) - 1 := wrap64 (by omega) (by omega)
  simp [r_172_0, r_172_1, r_172_2, r_172_3, h0, ha.slen, hm, w1]
  generalize hPd : H.size = P
  have hP : H.size ≤ P := by omega
  generalize hSL : Value.slice (some ⟨P, 0, none⟩) a.length a.length = SL
  refine W_loopM (fun k t G' => ∃ r o, t.length = 42 ∧ get t 0 = v ∧ get t 1 = .int .u32 (d : Int) ∧ get t 6 = SL ∧ get t 7 = .int .u64 ((r : Nat) : Int) ∧ get t 8 = .int .i64 ((k : Int) - 1) ∧ k ≤ a.length ∧
      Ext H G' ∧ Heap.blk G' P = .row false T_uint32 (u32s o) ∧ o.length = a.length ∧ LimOk o ∧ r < d ∧ natL (o.drop k) * d + r = natL (a.drop k))
    (fun t G' => ∃ r o, t.length = 42 ∧ get t 6 = SL ∧ get t 7 = .int .u64 ((r : Nat) : Int) ∧
      Ext H G' ∧ Heap.blk G' P = .row false T_uint32 (u32s o) ∧ o.length = a.length ∧ LimOk o ∧ r < d ∧ natL o * d + r = natL a) a.length ?_ ?_ ?_
  · refine ⟨0, List.replicate a.length 0, by simp, by simp [h0], by simp [h0], by simp, by simp, by simp, by omega, Ext.push (Ext.refl _), ?_, by simp, ?_, hd, ?_⟩
    · rw [← hPd, blk_push_self]
      congr 1
      generalize a.length = n
      induction n with
      | zero => rfl
      | succ n ih => rw [repl, ih]; rfl
    · intro z hz; rw [List.mem_replicate] at hz; omega
    · simp [natL]
  · clear h0 ρ hm w1
    rintro k t G' ⟨r, o, ht, g0, g1, g6, g7, g8, hk, hx2, hb, hol, hok, hr, hs⟩
    obtain ⟨ρ, rfl⟩ := toT ht
    simp only [get_T, Nat.reduceLT] at g0 g1 g6 g7 g8
    by_cases hk0 : k = 0
    · subst hk0
      simp [r_172_4, g0, g1, g6, g7, g8]
      exact ⟨r, rfl, hx2, o, hb, hol, hok, hr, by simpa using hs⟩
    · have e0 : (k : Int) - 1 = ((k - 1 : Nat) : Int) := by omega
      have hka : k - 1 < a.length := by omega
      rw [e0] at g8
      have hla := ha.load hka hx2
      have hia := ha.ia (k := .i64) hka
      have hA2 := natL_drop hka
      have hA3 : a.getD (k - 1) 0 < 4294967296 := ha.2 _ (by rw [List.getD_eq_getElem?_getD, List.getElem?_eq_getElem hka]; exact List.getElem_mem hka)
      generalize a.getD (k - 1) 0 = A at hla hA2 hA3
      have hlo : k - 1 < o.length := by omega
      obtain ⟨hio, hro⟩ := own_load (k := .i64) (cap := a.length) hb hlo hol
      rw [hSL] at hio
      have s2 : r * 2 ^ 32 % 18446744073709551616 = r * 4294967296 := by omega
      have s1 : binA 0 .shl (.int .u64 (r : Int)) (.int .u64 32) = some (.int .u64 ((r * 4294967296 : Nat) : Int)) := by
        have := shl64 (tag := 0) (n := r) (s := 32) (k' := .u64) (by omega)
        rw [s2] at this; exact this
      have s3 := or64 (tag := 0) (a := r * 4294967296) (b := A) (by omega) (by omega)
      rw [or_add32 hA3] at s3
      have eA : IntKind.u64.wrap (A : Int) = (A : Int) := by rw [wrapu64]; omega
      have eD : IntKind.u64.wrap (d : Int) = (d : Int) := by rw [wrapu64]; omega
      have s4 := quo64 (tag := 0) (a := r * 4294967296 + A) (b := d) (by omega) (by omega)
      have s5 := rem64 (tag := 0) (a := r * 4294967296 + A) (b := d) (by omega)
      have w2 : IntKind.i64.wrap (((k - 1 : Nat) : Int) - 1) = ((k - 1 : Nat) : Int) - 1 := wrap64 (by omega) (by omega)
      simp [-Int.natCast_add, -Int.natCast_mul, -Int.natCast_ediv, -Int.natCast_emod, r_172_4, r_172_5, r_172_6, r_172_7, r_172_8, g0, g1, g6, g7, g8, hla, hia, s1, s3, eA, eD, s4, s5, hio, w2]
      have hq1 : (r * 4294967296 + A) / d < 4294967296 := by
        rw [Nat.div_lt_iff_lt_mul hd]
        have : (r + 1) * 4294967296 ≤ d * 4294967296 := Nat.mul_le_mul_right _ hr
        rw [Nat.mul_comm 4294967296 d]; omega
      have hq2 := Nat.div_add_mod (r * 4294967296 + A) d
      have hq3 := Nat.mod_lt (r * 4294967296 + A) hd
      clear s4 s5
      generalize (r * 4294967296 + A) / d = Q at hq1 hq2 ⊢
      generalize (r * 4294967296 + A) % d = r2 at hq2 hq3 ⊢
      refine (num_low_uint64_does (by have := hx2.1; omega)).mono ?_
      rintro _ G3 ⟨rfl, hx3⟩
      replace hb := hx3.blk hb
      have hxx := hx2.trans hx3
      have hPl := blk_lt hb
      have hle : k - 1 + 1 ≤ o.length := hlo
      rw [Nat.mod_eq_of_lt hq1]
      simp [-Int.natCast_emod, -Int.natCast_ediv, -Int.natCast_add, hb, hle]
      refine ⟨k - 1, by omega, r2, rfl, rfl, by omega, hxx.set (by omega), o.set (k - 1) Q, by rw [blk_set_self hPl, u32s_set], by simp [hol], LimOk_set hok hq1, hq3, ?_⟩
      have hdr : natL ((o.set (k - 1) Q).drop (k - 1)) = Q + 4294967296 * natL (o.drop k) := by
        rw [natL_drop (by simpa using hlo), List.getD_eq_getElem?_getD, List.getElem?_set_self hlo, show k - 1 + 1 = k by omega, List.drop_set_of_lt (by omega)]; rfl
      rw [hdr, hA2, show k - 1 + 1 = k by omega, ← hs, Nat.add_mul, Nat.mul_assoc, Nat.mul_comm Q d]
      generalize natL (List.drop k o) * d = Z
      omega
  · clear h0 ρ hm w1
    rintro t G' ⟨r, o, ht, g6, g7, hx2, hb, hol, hok, hr, hs⟩
    obtain ⟨ρ, rfl⟩ := toT ht
    simp only [get_T, Nat.reduceLT] at g6 g7
    have hy : Lim G' SL o := by
      rw [← hSL, ← hol]
      exact ⟨(Own.mk (fl := 0) hb (by simp) (Nat.zero_le _)).sl, hok⟩
    simp [r_172_9, g6, g7]
    refine (num_low_uint64_does (by have := hx2.1; omega)).mono ?_
    rintro _ G3 ⟨rfl, hx3⟩
    have e1 : natL a % d = r := by rw [← hs, Nat.mul_comm, Nat.mul_add_mod, Nat.mod_eq_of_lt hr]
    have e2 : natL a / d = natL o := by rw [← hs, Nat.mul_comm, Nat.mul_add_div hd, Nat.div_eq_of_lt hr]; rfl
    have e3 : ((natL a : Nat) : Int) % (d : Int) = ((r : Nat) : Int) := by rw [← e1]; rfl
    rw [Nat.mod_eq_of_lt (by omega), e3, e2]
    simp
    exact fun _ => ⟨o, hy.mono hx3, rfl, hol⟩
end Go.Proofs.YtjlohmnnldbjoaaGreat.AI

/- num.shifted. -/
namespace Go.Proofs.YtjlohmnnldbjoaaGreat.AI
open Go
set_option maxHeartbeats 4000000

variable {fl : Nat} {H : Heap} {R : PostP} {v w : Value} {a b : List Nat}

theorem or_addN {x y s : Nat} (h : y < 2 ^ s) : y ||| x * 2 ^ s = y + x * 2 ^ s := by
  have := Nat.two_pow_add_eq_or_of_lt (i := s) (b := y) h x
  rw [Nat.or_comm, Nat.mul_comm x, ← this, Nat.add_comm]

theorem num_shifted_does {n : Nat} (ha : Lim H v a) (hf : fl ≤ H.size) (hna : a.length < 1073741824) (hn : n < 32) :
    Does env fl f_182 [v, .int .i64 (n : Int)] H (fun r H' => (∃ o, Own H.size H' T_uint32 1 r (a.length + 1) (u32s o) ∧ LimOk o ∧ natL o = natL a * 2 ^ n ∧ o.length = a.length + 1) ∧ Ext H H') R := by
  refine does_ext e_182 hf (h := ?_)
  intro ρ h0
  simp only [s_182]
  have hm := mkVZ (bytes := 4) (k := .i64) (k' := .i64) (l := 0) (c := (a.length : Int) + 1) (by omega) (by omega) (by omega) (by omega)
  have w1 : IntKind.i64.wrap ((a.length : Int) + 1) = (a.length : Int) + 1 := wrap64 (by omega) (by omega)
  simp [r_182_0, r_182_1, r_182_2, r_182_3, h0, ha.slen, hm, w1]
  have hp : 2 ^ n ≤ 2147483648 := Nat.pow_le_pow_right (n := 2) (by omega) (show n ≤ 31 by omega)
  have hp0 : 0 < 2 ^ n := Nat.two_pow_pos n
  refine W_loopM (fun k t G' => ∃ i c out s, i + k = a.length ∧ t.length = 38 ∧ get t 1 = .int .i64 (n : Int) ∧ get t 5 = s ∧ get t 6 = .int .u64 ((c : Nat) : Int) ∧ get t 13 = v ∧ get t 14 = .int .i64 a.length ∧ get t 15 = .int .i64 ((i : Nat) : Int) ∧
      Ext H G' ∧ Own H.size G' T_uint32 1 s i (u32s out) ∧ LimOk out ∧ out.length = i ∧ c < 2 ^ n ∧ natL out + 4294967296 ^ i * c = natL (a.take i) * 2 ^ n)
    (fun t G' => ∃ c out s, t.length = 38 ∧ get t 5 = s ∧ get t 6 = .int .u64 ((c : Nat) : Int) ∧
      Ext H G' ∧ Own H.size G' T_uint32 1 s a.length (u32s out) ∧ LimOk out ∧ out.length = a.length ∧ c < 2 ^ n ∧ natL out + 4294967296 ^ a.length * c = natL a * 2 ^ n) a.length ?_ ?_ ?_
  · exact ⟨0, 0, [], .slice (some ⟨H.size, 0, none⟩) 0 (a.length + 1), by omega, by simp, by simp [h0], by simp, by simp, by simp [h0], by simp, by simp, by simp,
      Own.mk (by simp [u32s]) rfl (Nat.le_refl _), by intro x hx; simp at hx, rfl, hp0, by simp [natL]⟩
  · clear hm w1 h0 ρ
    rintro k t G' ⟨i, c, out, s, hik, ht, g1, g5, g6, g13, g14, g15, hx, ho, hok, hol, hc, hs⟩
    obtain ⟨ρ, rfl⟩ := toT ht
    simp only [get_T, Nat.reduceLT] at g1 g5 g6 g13 g14 g15
    by_cases hi : i < a.length
    · have hla := ha.load hi hx
      have hia := ha.ia (k := .i64) hi
      have hA2 := natL_take_succ hi
      have hA3 : a.getD i 0 < 4294967296 := ha.2 _ (by rw [List.getD_eq_getElem?_getD, List.getElem?_eq_getElem hi]; exact List.getElem_mem hi)
      generalize a.getD i 0 = A at hla hA2 hA3
      have eA : IntKind.u64.wrap (A : Int) = (A : Int) := by rw [wrapu64]; omega
      have hAn : A * 2 ^ n ≤ 4294967295 * 2147483648 := Nat.mul_le_mul (by omega) hp
      have s1 := shl64 (tag := 0) (n := A) (s := n) (k' := .i64) (by omega)
      rw [Nat.mod_eq_of_lt (by omega)] at s1
      have s2 := or64 (tag := 0) (a := c) (b := A * 2 ^ n) (by omega) (by omega)
      rw [or_addN hc] at s2
      have e9 : IntKind.i64.wrap ((i : Int) + 1) = ((i + 1 : Nat) : Int) := by rw [wrap64 (by omega) (by omega)]; omega
      simp [-Int.natCast_add, -Int.natCast_mul, -Int.natCast_pow, r_182_4, r_182_5, r_182_6, r_182_7, r_182_8, r_182_9, g1, g5, g6, g13, g14, g15, hi, hia, hla, eA, s1, s2]
      generalize hD : c + A * 2 ^ n = D
      refine (num_low_uint64_does hx.1).mono ?_
      rintro _ G2 ⟨rfl, hx2⟩
      obtain ⟨s', G3, h1, h2, h3, h4⟩ := app_lit (e2 := T_uint32) (new := [.int .u32 ((D % 4294967296 : Nat) : Int)]) (c := 1) (bytes := 4) (ho.mono hx2) rfl rfl (by omega) (by omega) (by omega) (by have := hx.1; have := hx2.1; omega)
      simp [-Int.natCast_emod, -Int.natCast_add, h1, g1, g5, g6, g13, g14, g15, e9]
      have hDq : D / 4294967296 < 2 ^ n := by
        rw [Nat.div_lt_iff_lt_mul (by omega), ← hD]
        have : (A + 1) * 2 ^ n ≤ 4294967296 * 2 ^ n := Nat.mul_le_mul_right _ hA3
        rw [Nat.add_mul] at this
        rw [Nat.mul_comm (2 ^ n)]; omega
      refine ⟨k - 1, by omega, i + 1, by omega, D / 4294967296, rfl, rfl, h4 _ (Nat.le_refl _) (hx.trans hx2), out ++ [D % 4294967296], by simpa [u32s] using h2, ?_, by simp [hol], hDq, ?_⟩
      · intro x hx
        rcases List.mem_append.1 hx with hx | hx
        · exact hok x hx
        · simp at hx; omega
      · rw [natL_snoc, hol, hA2, Nat.pow_succ, Nat.add_mul, ← hs]
        have e3 : 4294967296 ^ i * 4294967296 * (D / 4294967296) = 4294967296 ^ i * (4294967296 * (D / 4294967296)) := Nat.mul_assoc ..
        have e4 : 4294967296 ^ i * (D % 4294967296) + 4294967296 ^ i * (4294967296 * (D / 4294967296)) = 4294967296 ^ i * D := by rw [← Nat.mul_add, Nat.mod_add_div]
        have e5 : 4294967296 ^ i * D = 4294967296 ^ i * c + 4294967296 ^ i * A * 2 ^ n := by rw [← hD, Nat.mul_add, Nat.mul_assoc]
        omega
    · simp [r_182_4, g1, g5, g6, g13, g14, g15, hi]
      have : i = a.length := by omega
      subst this
      refine ⟨c, rfl, hx, out, ho, hok, hol, hc, ?_⟩
      rw [hs, List.take_of_length_le (Nat.le_refl _)]
  · clear hm w1 h0 ρ
    rintro t G' ⟨c, out, s, ht, g5, g6, hx, ho, hok, hol, hc, hs⟩
    obtain ⟨ρ, rfl⟩ := toT ht
    simp only [get_T, Nat.reduceLT] at g5 g6
    simp [r_182_10, g5, g6]
    refine (num_low_uint64_does hx.1).mono ?_
    rintro _ G2 ⟨rfl, hx2⟩
    obtain ⟨s', G3, h1, h2, h3, h4⟩ := app_lit (e2 := T_uint32) (new := [.int .u32 ((c % 4294967296 : Nat) : Int)]) (c := 1) (bytes := 4) (ho.mono hx2) rfl rfl (by omega) (by omega) (by omega) (by have := hx.1; have := hx2.1; omega)
    simp [-Int.natCast_emod, -Int.natCast_add, h1]
    refine fun _ => ⟨out ++ [c % 4294967296], by simpa [hol, u32s] using h2, ?_, ?_, by simp [hol]⟩
    · intro x hx
      rcases List.mem_append.1 hx with hx | hx
      · exact hok x hx
      · simp at hx; omega
    · rw [natL_snoc, hol, Nat.mod_eq_of_lt (by omega)]; exact hs
end Go.Proofs.YtjlohmnnldbjoaaGreat.AI

/- num.back. -/
namespace Go.Proofs.YtjlohmnnldbjoaaGreat.AI
open Go
set_option maxHeartbeats 4000000

variable {fl : Nat} {H : Heap} {R : PostP} {v w : Value} {a b : List Nat}

/-- a limb of what is shifted down. -/
theorem back_limb {n A N A1 M : Nat} (hn : n < 32) (hA : A < 4294967296) (hN : N = A1 + 4294967296 * M) :
    (A + 4294967296 * N) / 2 ^ n = (A + A1 * 4294967296) / 2 ^ n % 4294967296 + 4294967296 * (N / 2 ^ n) := by
  have hB : (4294967296 : Nat) = 2 ^ n * 2 ^ (32 - n) := by rw [← Nat.pow_add, show n + (32 - n) = 32 by omega]
  have hP := Nat.two_pow_pos n
  have hQ := Nat.two_pow_pos (32 - n)
  generalize 2 ^ n = P at *
  generalize 2 ^ (32 - n) = Q at *
  have e1 : (A + 4294967296 * N) / P = A / P + Q * N := by rw [hB, Nat.mul_assoc, Nat.add_mul_div_left _ _ hP]
  have e2 : (A + A1 * 4294967296) / P = A / P + Q * A1 := by rw [Nat.mul_comm A1, hB, Nat.mul_assoc, Nat.add_mul_div_left _ _ hP]
  have e3 : N % P = A1 % P := by rw [hN, hB, Nat.mul_assoc, Nat.add_mul_mod_self_left]
  have e4 : Q * N = 4294967296 * (N / P) + Q * (A1 % P) := by
    have := Nat.div_add_mod N P
    rw [e3] at this
    calc Q * N = Q * (P * (N / P) + A1 % P) := by rw [this]
      _ = _ := by rw [Nat.mul_add, ← Nat.mul_assoc, Nat.mul_comm Q P, ← hB]
  have e5 : Q * A1 = 4294967296 * (A1 / P) + Q * (A1 % P) := by
    have := Nat.div_add_mod A1 P
    calc Q * A1 = Q * (P * (A1 / P) + A1 % P) := by rw [this]
      _ = _ := by rw [Nat.mul_add, ← Nat.mul_assoc, Nat.mul_comm Q P, ← hB]
  have h1 : A / P < Q := by rw [Nat.div_lt_iff_lt_mul hP, Nat.mul_comm, ← hB]; exact hA
  have h2 : Q * (A1 % P) + Q ≤ 4294967296 := by
    have := Nat.mod_lt A1 hP
    have : Q * (A1 % P + 1) ≤ Q * P := Nat.mul_le_mul_left Q this
    rw [Nat.mul_add, Nat.mul_comm Q P, ← hB] at this
    omega
  rw [e1, e2, e4, e5]
  clear e1 e2 e3 e4 e5 hN
  generalize A / P = x at *
  generalize N / P = y at *
  generalize A1 / P = z at *
  generalize Q * (A1 % P) = q at *
  omega

theorem natL_take_set {o : List Nat} {i z : Nat} (hlo : i < o.length) : natL (List.take (i + 1) (o.set i z)) = natL (List.take i o) + 4294967296 ^ i * z := by
  rw [take_succ_getD (by simpa using hlo), natL_snoc, List.length_take, List.length_set, Nat.min_eq_left (by omega), List.take_set_of_le (by omega), List.getD_eq_getElem?_getD, List.getElem?_set_self hlo, Option.getD_some]
theorem back_fin {x y z s i q : Nat} (h : x = y + 4294967296 ^ i * z) (hs : y + 4294967296 ^ i * (z + 4294967296 * q) = s) : x + 4294967296 ^ (i + 1) * q = s := by
  rw [h, ← hs, Nat.pow_succ, Nat.mul_add, Nat.mul_assoc, Nat.add_assoc]

theorem num_back_does {n : Nat} (ha : Lim H v a) (hf : fl ≤ H.size) (hna : a.length < 1073741824) (hn : n < 32) :
    Does env fl f_185 [v, .int .i64 (n : Int)] H (fun r H' => (∃ o, Lim H' r o ∧ natL o = natL a / 2 ^ n ∧ o.length = a.length) ∧ Ext H H') R := by
  refine does_ext e_185 hf (h := ?_)
  intro ρ h0
  simp only [s_185]
  have hm := mkV_int (bytes := 4) (k := .i64) (k' := .i64) (l := a.length) (c := a.length) (Nat.le_refl _) (by omega) (by omega)
  simp [r_185_0, r_185_1, r_185_2, h0, ha.slen, hm]
  generalize hPd : H.size = P
  generalize hSL : Value.slice (some ⟨P, 0, none⟩) a.length a.length = SL
  refine W_loopM (fun k t G' => ∃ i o, i + k = a.length ∧ t.length = 44 ∧ get t 0 = v ∧ get t 1 = .int .i64 (n : Int) ∧ get t 5 = SL ∧ get t 12 = .int .i64 a.length ∧ get t 13 = .int .i64 ((i : Nat) : Int) ∧
      Ext H G' ∧ Heap.blk G' P = .row false T_uint32 (u32s o) ∧ o.length = a.length ∧ LimOk o ∧ natL (o.take i) + 4294967296 ^ i * (natL (a.drop i) / 2 ^ n) = natL a / 2 ^ n)
    (fun t G' => ∃ o, t.length = 44 ∧ get t 5 = SL ∧
      Ext H G' ∧ Heap.blk G' P = .row false T_uint32 (u32s o) ∧ o.length = a.length ∧ LimOk o ∧ natL o = natL a / 2 ^ n) a.length ?_ ?_ ?_
  · refine ⟨0, List.replicate a.length 0, by omega, by simp, by simp [h0], by simp [h0], by simp, by simp, by simp, Ext.push (Ext.refl _), ?_, by simp, ?_, by simp [natL]⟩
    · rw [← hPd, blk_push_self]
      congr 1
      generalize a.length = n
      induction n with
      | zero => rfl
      | succ n ih => rw [repl, ih]; rfl
    · intro z hz; rw [List.mem_replicate] at hz; omega
  · clear h0 ρ hm
    rintro k t G' ⟨i, o, hik, ht, g0, g1, g5, g12, g13, hx2, hb, hol, hok, hs⟩
    obtain ⟨ρ, rfl⟩ := toT ht
    simp only [get_T, Nat.reduceLT] at g0 g1 g5 g12 g13
    by_cases hi : i < a.length
    · have hla := ha.load hi hx2
      have hia := ha.ia (k := .i64) hi
      have hA2 := natL_drop hi
      have hA3 : a.getD i 0 < 4294967296 := ha.2 _ (by rw [List.getD_eq_getElem?_getD, List.getElem?_eq_getElem hi]; exact List.getElem_mem hi)
      generalize a.getD i 0 = A at hla hA2 hA3
      have hlo : i < o.length := by omega
      obtain ⟨hio, hro⟩ := own_load (k := .i64) (cap := a.length) hb hlo hol
      rw [hSL] at hio
      have eA : IntKind.u64.wrap (A : Int) = (A : Int) := by rw [wrapu64]; omega
      have e9 : IntKind.i64.wrap ((i : Int) + 1) = ((i + 1 : Nat) : Int) := by rw [wrap64 (by omega) (by omega)]; omega
      by_cases hi1 : i + 1 < a.length
      · have hla1 := ha.load hi1 hx2
        have hia1 := ha.ia (k := .i64) hi1
        have hN := natL_drop hi1
        have hA13 : a.getD (i + 1) 0 < 4294967296 := ha.2 _ (by rw [List.getD_eq_getElem?_getD, List.getElem?_eq_getElem hi1]; exact List.getElem_mem hi1)
        generalize a.getD (i + 1) 0 = A1 at hla1 hN hA13
        have eA1 : IntKind.u64.wrap (A1 : Int) = (A1 : Int) := by rw [wrapu64]; omega
        have s1 : binA 0 .shl (.int .u64 (A1 : Int)) (.int .u64 32) = some (.int .u64 ((A1 * 4294967296 : Nat) : Int)) := by
          have := shl64 (tag := 0) (n := A1) (s := 32) (k' := .u64) (by omega)
          rw [show A1 * 2 ^ 32 % 18446744073709551616 = A1 * 4294967296 by omega] at this; exact this
        have s2 := or64 (tag := 0) (a := A) (b := A1 * 4294967296) (by omega) (by omega)
        rw [show A ||| A1 * 4294967296 = A + A1 * 4294967296 from or_addN (s := 32) hA3] at s2
        have s3 := shr64 (tag := 0) (n := A + A1 * 4294967296) (s := n) (k' := .i64) (by omega)
        simp [-Int.natCast_add, -Int.natCast_mul, -Int.natCast_pow, -Int.natCast_ediv, r_185_3, r_185_4, r_185_5, r_185_6, r_185_7, r_185_8, r_185_9, g0, g1, g5, g12, g13, hi, hi1, hia, hla, hia1, hla1, eA, eA1, e9, s1, s2, s3, ha.slen, hio]
        refine (num_low_uint64_does (by have := hx2.1; omega)).mono ?_
        rintro _ G3 ⟨rfl, hx3⟩
        replace hb := hx3.blk hb
        have hxx := hx2.trans hx3
        have hPl := blk_lt hb
        have hle : i + 1 ≤ o.length := hlo
        have hbl := back_limb hn hA3 hN
        simp [-Int.natCast_emod, -Int.natCast_ediv, -Int.natCast_add, hb, hle]
        have hz : (A + A1 * 4294967296) / 2 ^ n % 4294967296 < 4294967296 := Nat.mod_lt _ (by omega)
        rw [hA2, hbl] at hs
        generalize (A + A1 * 4294967296) / 2 ^ n % 4294967296 = z at hs hz ⊢
        have hset : natL (List.take (i + 1) (o.set i z)) = natL (List.take i o) + 4294967296 ^ i * z := natL_take_set hlo
        refine ⟨k - 1, by omega, i + 1, by omega, rfl, hxx.set (by omega), o.set i z, by rw [blk_set_self hPl, u32s_set], by simp [hol], LimOk_set hok hz, ?_⟩
        exact back_fin hset hs
      · obtain ⟨A1, hA1⟩ : ∃ x : Nat, x = 0 := ⟨0, rfl⟩
        have hN : natL (List.drop (i + 1) a) = A1 + 4294967296 * 0 := by rw [List.drop_eq_nil_of_le (by omega), hA1]; simp [natL]
        have s3 : binA 0 .shr (.int .u64 (A : Int)) (.int .i64 (n : Int)) = some (.int .u64 (((A + A1 * 4294967296) / 2 ^ n : Nat) : Int)) := by
          rw [shr64 (by omega), show A + A1 * 4294967296 = A by rw [hA1]; omega]
        clear hA1
        simp [-Int.natCast_add, -Int.natCast_mul, -Int.natCast_pow, -Int.natCast_ediv, r_185_3, r_185_4, r_185_5, r_185_6, r_185_7, r_185_8, r_185_9, g0, g1, g5, g12, g13, hi, hi1, hia, hla, eA, e9, s3, ha.slen, hio]
        refine (num_low_uint64_does (by have := hx2.1; omega)).mono ?_
        rintro _ G3 ⟨rfl, hx3⟩
        replace hb := hx3.blk hb
        have hxx := hx2.trans hx3
        have hPl := blk_lt hb
        have hle : i + 1 ≤ o.length := hlo
        have hbl := back_limb hn hA3 hN
        simp [-Int.natCast_emod, -Int.natCast_ediv, -Int.natCast_add, hb, hle]
        have hz : (A + A1 * 4294967296) / 2 ^ n % 4294967296 < 4294967296 := Nat.mod_lt _ (by omega)
        rw [hA2, hbl] at hs
        generalize (A + A1 * 4294967296) / 2 ^ n % 4294967296 = z at hs hz ⊢
        have hset : natL (List.take (i + 1) (o.set i z)) = natL (List.take i o) + 4294967296 ^ i * z := natL_take_set hlo
        refine ⟨k - 1, by omega, i + 1, by omega, rfl, hxx.set (by omega), o.set i z, by rw [blk_set_self hPl, u32s_set], by simp [hol], LimOk_set hok hz, ?_⟩
        exact back_fin hset hs
    · simp [r_185_3, g0, g1, g5, g12, g13, hi]
      have : i = a.length := by omega
      subst this
      refine ⟨hx2, o, hb, hol, hok, ?_⟩
      rw [List.take_of_length_le (by omega), List.drop_eq_nil_of_le (Nat.le_refl _)] at hs
      simpa [natL] using hs
  · clear h0 ρ hm
    rintro t G' ⟨o, ht, g5, hx2, hb, hol, hok, hs⟩
    obtain ⟨ρ, rfl⟩ := toT ht
    simp only [get_T, Nat.reduceLT] at g5
    have hy : Lim G' SL o := by
      rw [← hSL, ← hol]
      exact ⟨(Own.mk (fl := 0) hb (by simp) (Nat.zero_le _)).sl, hok⟩
    simp [r_185_10, g5]
    exact fun _ => ⟨o, hy, hs, hol⟩
end Go.Proofs.YtjlohmnnldbjoaaGreat.AI

/- num.take, num.give: limbs of one's own, changed. -/
namespace Go.Proofs.YtjlohmnnldbjoaaGreat.AI
open Go
set_option maxHeartbeats 4000000

variable {fl : Nat} {H G : Heap} {R : PostP} {v w : Value} {a b : List Nat} {K : PostV}

/-- of a function that writes. -/
theorem does_wr {E : Env} {f : FuncId} {args : List Value} {sf : SFun} (hc : E.code f = some sf) (hl : args.length = sf.np := by rfl) (hnt : args.length ≤ sf.nt := by exact of_decide_eq_true rfl)
    (h : ∀ ρ : Nat → Value, (∀ i, ρ i = args.getD i undef) → W E fl sf.body (T sf.nt ρ) H (endQ (fun t' H' => resP H' t' sf.res fun v => K v H')) R) :
    Does E fl f args H K R :=
  does_fun (K := K) hc hl hnt (fun t h1 h2 => by
    have h3 := h (get t) h2
    rw [← T_get h1] at h3
    refine h3.mono fun e t' H' hq => ?_
    cases e with
    | exit i => exact absurd hq id
    | normal => exact ⟨trivial, hq⟩
    | ret => exact ⟨trivial, hq⟩)

@[simp] theorem resP_none {t : Tmps} {P : Value → Prop} : resP H t [] P = P (.tuple #[]) := by simp [resP, resAll, packRes]

theorem ExtB.refl {o : Option Nat} : ExtB o H H := (Ext.refl H).extB
theorem ExtB.trans {o : Option Nat} {H1 H2 H3 : Heap} (h : ExtB o H1 H2) (k : ExtB o H2 H3) : ExtB o H1 H3 :=
  ⟨Nat.le_trans h.1 k.1, fun b hb hne => (k.2 b (Nat.lt_of_lt_of_le hb h.1) hne).trans (h.2 b hb hne)⟩
theorem ExtB.set {p : Nat} {r : Blk} (h : ExtB (some p) H G) : ExtB (some p) H (G.setIfInBounds p r) :=
  ⟨by have := h.1; simpa using this, fun b hb hne => by rw [blk_set_ne (by simpa using hne)]; exact h.2 b hb hne⟩
theorem ExtB.ext {p : Nat} {H0 : Heap} (h : ExtB (some p) H G) (hp : H0.size ≤ p) (h0 : Ext H0 H) : Ext H0 G :=
  ⟨Nat.le_trans h0.1 h.1, fun b hb => (h.2 b (Nat.lt_of_lt_of_le hb h0.1) (by simp; omega)).trans (h0.2 b hb)⟩

/-- a slice that leads elsewhere. -/
theorem Sl.off {e sz n p : Nat} {cs : List Value} (h : Sl H e sz v n cs) (hx : ExtB (some p) H G) (hne : slB v ≠ some p) : Sl G e sz v n cs := by
  obtain ⟨hl, h | ⟨b, off, cap, ro, cells, rfl, hb, ho, hcs⟩⟩ := h
  · exact ⟨hl, .inl h⟩
  · exact ⟨hl, .inr ⟨b, off, cap, ro, cells, rfl, by rw [hx.2 b (blk_lt hb) (fun h => hne (by simp only [slB]; exact h.symm))]; exact hb, ho, hcs⟩⟩
theorem Lim.off {p : Nat} (h : Lim H v a) (hx : ExtB (some p) H G) (hne : slB v ≠ some p) : Lim G v a := ⟨h.1.off hx hne, h.2⟩

/-- so many limbs of a list, from one on. -/
def win (L : List Nat) (o : Nat) : Nat → Nat
  | 0 => 0
  | i + 1 => win L o i + 4294967296 ^ i * L.getD (o + i) 0
theorem win_congr {L L' : List Nat} {o : Nat} : ∀ {i : Nat}, (∀ j, j < i → L.getD (o + j) 0 = L'.getD (o + j) 0) → win L o i = win L' o i
  | 0, _ => rfl
  | i + 1, h => by rw [win, win, win_congr (fun j hj => h j (by omega)), h i (by omega)]
theorem win_set {L : List Nat} {o i j z : Nat} (h : o + i ≤ j) : win (L.set j z) o i = win L o i :=
  win_congr fun k hk => getD_set_ne' (by omega)
theorem getD_lt {L : List Nat} (h : LimOk L) (i : Nat) : L.getD i 0 < 4294967296 := by
  rw [List.getD_eq_getElem?_getD]
  by_cases hi : i < L.length
  · rw [List.getElem?_eq_getElem hi]; exact h _ (List.getElem_mem hi)
  · rw [List.getElem?_eq_none (by omega)]; simp
theorem win_lt {L : List Nat} (h : LimOk L) (o : Nat) : ∀ i, win L o i < 4294967296 ^ i
  | 0 => by simp [win]
  | i + 1 => by
    rw [win, Nat.pow_succ]
    have h1 := win_lt h o i
    have h2 := getD_lt h (o + i)
    have : 4294967296 ^ i * (L.getD (o + i) 0 + 1) ≤ 4294967296 ^ i * 4294967296 := Nat.mul_le_mul_left _ h2
    rw [Nat.mul_add, Nat.mul_one] at this
    omega
theorem natL_win {L : List Nat} : ∀ {i : Nat}, i ≤ L.length → natL (L.take i) = win L 0 i
  | 0, _ => by simp [natL, win]
  | i + 1, h => by rw [natL_take_succ (by omega), natL_win (by omega), win, Nat.zero_add]

theorem win_all {L : List Nat} {n : Nat} (h : L.length ≤ n) : win L 0 n = natL L := by
  obtain ⟨k, rfl⟩ : ∃ k, n = L.length + k := ⟨n - L.length, by omega⟩
  clear h
  induction k with
  | zero => rw [Nat.add_zero, ← natL_win (Nat.le_refl _), List.take_length]
  | succ k ih => rw [← Nat.add_assoc, win, ih, List.getD_eq_getElem?_getD, List.getElem?_eq_none (by omega)]; simp

/-- a slice of one's own limbs, read and written. -/
theorem own_at {e p o n cap : Nat} {L : List Nat} (hb : G.blk p = .row false e (u32s L)) (hL : o + n ≤ L.length) {k : IntKind} {z : Nat} (hz : z < n) :
    iaV 1 (.slice (some ⟨p, o, none⟩) n cap) (.int k (z : Int)) = some (.pointer (some ⟨p, o + z, none⟩)) ∧ rd (G.blk p) (o + z) = some (.int .u32 ((L.getD (o + z) 0 : Nat) : Int)) := by
  refine ⟨?_, ?_⟩
  · simp only [iaV]; rw [if_pos (by omega)]; simp
  · rw [hb]; simp [u32s, List.getD_eq_getElem?_getD, show o + z < L.length by omega]

theorem take_step {x y u v g c t ch cm bo B P : Nat} (h : x + g * y = u + c * P) (ht : t = c + v * g) (hc : t = ch * B + cm) {z w : Nat} (hz : z + cm = w + bo * B) :
    (x + P * z) + g * (y + P * v) = (u + P * w) + (ch + bo) * (P * B) := by
  have h1 : P * z + P * cm = P * w + P * (bo * B) := by rw [← Nat.mul_add, hz, Nat.mul_add]
  have h2 : P * (c + v * g) = P * (ch * B) + P * cm := by rw [← ht, hc, Nat.mul_add]
  rw [Nat.mul_add] at h2 ⊢
  rw [Nat.add_mul]
  have e1 : g * (P * v) = P * (v * g) := by grind
  have e2 : ch * (P * B) = P * (ch * B) := by grind
  have e3 : bo * (P * B) = P * (bo * B) := by grind
  have e4 : c * P = P * c := by grind
  omega

theorem give_step {x y u v c t ch cm B P w : Nat} (h : x + c * P = u + y) (ht : t = c + w + v) (hc : t = ch * B + cm) :
    (x + P * cm) + ch * (P * B) = (u + P * w) + (y + P * v) := by
  have h2 : P * (c + w + v) = P * (ch * B) + P * cm := by rw [← ht, hc, Nat.mul_add]
  rw [Nat.mul_add, Nat.mul_add] at h2
  have e2 : ch * (P * B) = P * (ch * B) := by grind
  have e4 : c * P = P * c := by grind
  omega

/-- what stands in a window of limbs, once a loop has come so far. -/
def Won (L X : List Nat) (o i : Nat) : Prop := X.length = L.length ∧ LimOk X ∧ ∀ j, j < o ∨ o + i ≤ j → X.getD j 0 = L.getD j 0
theorem Won.zero {L : List Nat} {o : Nat} (h : LimOk L) : Won L L o 0 := ⟨rfl, h, fun _ _ => rfl⟩
theorem Won.step {L X : List Nat} {o i z : Nat} (h : Won L X o i) (hz : z < 4294967296) : Won L (X.set (o + i) z) o (i + 1) :=
  ⟨by simp [h.1], LimOk_set h.2.1 hz, fun j hj => by rw [getD_set_ne' (by omega)]; exact h.2.2 j (by omega)⟩
theorem Won.win {L X : List Nat} {o i z : Nat} (h : Won L X o i) (hi : o + i < L.length) : AI.win (X.set (o + i) z) o (i + 1) = AI.win X o i + 4294967296 ^ i * z := by
  rw [AI.win, win_set (by omega), List.getD_eq_getElem?_getD, List.getElem?_set_self (by rw [h.1]; exact hi)]; rfl

theorem num_take_does {L : List Nat} {p o n cap g : Nat} (hb : H.blk p = .row false T_uint32 (u32s L)) (hok : LimOk L) (hL : o + n ≤ L.length) (hv : Lim H v a) (hne : slB v ≠ some p) (hf : fl ≤ p) (hg : g < 4294967296) (hn : n < 1073741824) (ha : a.length ≤ n) :
    Does env fl f_183 [.slice (some ⟨p, o, none⟩) n cap, v, .int .u64 (g : Int)] H (fun r G => ∃ X c, r = .bool (c != 0) ∧ G.blk p = .row false T_uint32 (u32s X) ∧ ExtB (some p) H G ∧ Won L X o n ∧ win X o n + g * natL a = win L o n + c * 4294967296 ^ n) R := by
  refine does_wr e_183 (h := ?_)
  intro ρ h0
  simp only [s_183]
  simp [r_183_0, r_183_1, r_183_2, h0, slenV]
  generalize hSL : Value.slice (some ⟨p, o, none⟩) n cap = SL
  refine W_loopM (fun k t G => ∃ i c X, i + k = n ∧ t.length = 49 ∧ get t 0 = SL ∧ get t 1 = v ∧ get t 2 = .int .u64 ((g : Nat) : Int) ∧ get t 7 = .int .u64 ((c : Nat) : Int) ∧ get t 11 = .int .i64 n ∧ get t 12 = .int .i64 ((i : Nat) : Int) ∧
      G.blk p = .row false T_uint32 (u32s X) ∧ ExtB (some p) H G ∧ Won L X o i ∧ c ≤ 4294967296 ∧ win X o i + g * win a 0 i = win L o i + c * 4294967296 ^ i)
    (fun t G => ∃ c X, t.length = 49 ∧ get t 7 = .int .u64 ((c : Nat) : Int) ∧ G.blk p = .row false T_uint32 (u32s X) ∧ ExtB (some p) H G ∧ Won L X o n ∧ win X o n + g * win a 0 n = win L o n + c * 4294967296 ^ n) n ?_ ?_ ?_
  · exact ⟨0, 0, L, by omega, by simp, by simp [h0, hSL], by simp [h0], by simp [h0], by simp, by simp, by simp, hb, ExtB.refl, Won.zero hok, by omega, by simp [win]⟩
  · clear h0 ρ
    rintro k t G ⟨i, c, X, hik, ht, g0, g1, g2, g7, g11, g12, hX, hx, hw, hc, hs⟩
    obtain ⟨ρ, rfl⟩ := toT ht
    simp only [get_T, Nat.reduceLT] at g0 g1 g2 g7 g11 g12
    by_cases hi : i < n
    · have e9 : IntKind.i64.wrap ((i : Int) + 1) = ((i + 1 : Nat) : Int) := by rw [wrap64 (by omega) (by omega)]; omega
      obtain ⟨hi1, hi2⟩ := own_at (k := .i64) (cap := cap) hX (by rw [hw.1]; exact hL) hi
      rw [hSL] at hi1
      have hXl : X.getD (o + i) 0 = L.getD (o + i) 0 := hw.2.2 _ (by omega)
      have hA := getD_lt hok (o + i)
      rw [hXl] at hi2
      have hLw : win L o (i + 1) = win L o i + 4294967296 ^ i * L.getD (o + i) 0 := rfl
      have haw : win a 0 (i + 1) = win a 0 i + 4294967296 ^ i * a.getD i 0 := by rw [win, Nat.zero_add]
      generalize L.getD (o + i) 0 = A at hi2 hA hLw
      have eA : IntKind.u64.wrap (A : Int) = (A : Int) := by rw [wrapu64]; omega
      have hv' := hv.off hx hne
      have hV := getD_lt hv.ok i
      by_cases hia : i < a.length
      · have hla := hv'.load hia (Ext.refl _)
        have hia2 := hv'.ia (k := .i64) hia
        generalize a.getD i 0 = V at hla haw hV
        have eV : IntKind.u64.wrap (V : Int) = (V : Int) := by rw [wrapu64]; omega
        have hVg : V * g ≤ 4294967295 * 4294967295 := Nat.mul_le_mul (by omega) (by omega)
        have e1 : IntKind.u64.wrap ((V : Int) * (g : Int)) = ((V * g : Nat) : Int) := by rw [wrapu64, ← Int.natCast_mul]; omega
        have e2 : IntKind.u64.wrap ((c : Int) + ((V * g : Nat) : Int)) = ((c + V * g : Nat) : Int) := by rw [wrapu64, ← Int.natCast_add]; omega
        have e3 := and64 (tag := 0) (a := c + V * g)
        simp [-Int.natCast_add, -Int.natCast_mul, -Int.natCast_ediv, -Int.natCast_emod, r_183_3, r_183_4, r_183_5, r_183_6, r_183_7, r_183_8, r_183_9, r_183_10, g0, g1, g2, g7, g11, g12, hi, hv'.slen, hia, hia2, hla, eV, e1, e2, hi1, hi2, e3, eA]
        generalize hD : c + V * g = D at *
        have hDD : D = (D / 4294967296) * 4294967296 + D % 4294967296 := (Nat.div_add_mod' D 4294967296).symm
        have hcm := Nat.mod_lt D (show 0 < 4294967296 by omega)
        generalize D / 4294967296 = ch at *
        generalize D % 4294967296 = cm at *
        have hbo : IntKind.u64.wrap ((A : Int) - (cm : Int)) = ((if cm ≤ A then A - cm else A + 18446744073709551616 - cm : Nat) : Int) := by rw [wrapu64]; split <;> omega
        have hchb : ch ≤ 4294967295 := by omega
        obtain ⟨bo, z, q, hbq, hz1, hz2, hq1, hq2, hq3⟩ : ∃ bo z q : Nat, (if cm ≤ A then A - cm else A + 18446744073709551616 - cm : Nat) = q ∧ z + cm = A + bo * 4294967296 ∧ z < 4294967296 ∧ q % 4294967296 = z ∧ q / 9223372036854775808 = bo ∧ bo ≤ 1 := by
          by_cases h : cm ≤ A
          · exact ⟨0, A - cm, A - cm, by rw [if_pos h], by omega, by omega, by omega, by omega, by omega⟩
          · exact ⟨1, A + 4294967296 - cm, A + 18446744073709551616 - cm, by rw [if_neg h], by omega, by omega, by omega, by omega, by omega⟩
        have e8 : IntKind.u64.wrap ((ch : Int) + (bo : Int)) = ((ch + bo : Nat) : Int) := by rw [wrapu64]; omega
        rw [hbq] at hbo
        simp [-Int.natCast_add, -Int.natCast_mul, -Int.natCast_ediv, -Int.natCast_emod, hbo, g0, g7, g11, g12]
        refine (num_low_uint64_does (by have := blk_lt hX; omega)).mono ?_
        rintro _ G3 ⟨rfl, hx3⟩
        rw [hq1, hq2]
        have hX3 := hx3.blk hX
        have hpl := blk_lt hX3
        have hle : o + i + 1 ≤ X.length := by rw [hw.1]; omega
        simp [-Int.natCast_add, -Int.natCast_mul, -Int.natCast_ediv, -Int.natCast_emod, hi1, hX3, hle, hf, e8, e9]
        refine ⟨k - 1, by omega, i + 1, by omega, ch + bo, rfl, rfl, X.set (o + i) z, by rw [blk_set_self hpl, u32s_set], (hx.trans hx3.extB).set, hw.step hz2, by omega, ?_⟩
        rw [hw.win (by omega), haw, hLw, Nat.pow_succ]
        exact take_step hs hD.symm hDD hz1
      · have hV0 : a.getD i 0 = 0 := by rw [List.getD_eq_getElem?_getD, List.getElem?_eq_none (by omega)]; rfl
        rw [hV0] at haw
        obtain ⟨V, hV⟩ : ∃ V, V = 0 := ⟨0, rfl⟩
        replace haw : win a 0 (i + 1) = win a 0 i + 4294967296 ^ i * V := by rw [haw, hV]
        have hVg : V * g = 0 := by rw [hV, Nat.zero_mul]
        have e3 := and64 (tag := 0) (a := c)
        have ec : c = c + V * g := by omega
        rw [ec] at e3 g7
        have hDb : c + V * g ≤ 4294967296 := by omega
        simp [-Int.natCast_add, -Int.natCast_mul, -Int.natCast_ediv, -Int.natCast_emod, r_183_3, r_183_4, r_183_5, r_183_6, r_183_7, r_183_8, r_183_9, r_183_10, g0, g1, g2, g7, g11, g12, hi, hv'.slen, hia, hi1, hi2, e3, eA]
        generalize hD : c + V * g = D at *
        have hDD : D = (D / 4294967296) * 4294967296 + D % 4294967296 := (Nat.div_add_mod' D 4294967296).symm
        have hcm := Nat.mod_lt D (show 0 < 4294967296 by omega)
        generalize D / 4294967296 = ch at *
        generalize D % 4294967296 = cm at *
        have hbo : IntKind.u64.wrap ((A : Int) - (cm : Int)) = ((if cm ≤ A then A - cm else A + 18446744073709551616 - cm : Nat) : Int) := by rw [wrapu64]; split <;> omega
        have hchb : ch ≤ 4294967295 := by omega
        obtain ⟨bo, z, q, hbq, hz1, hz2, hq1, hq2, hq3⟩ : ∃ bo z q : Nat, (if cm ≤ A then A - cm else A + 18446744073709551616 - cm : Nat) = q ∧ z + cm = A + bo * 4294967296 ∧ z < 4294967296 ∧ q % 4294967296 = z ∧ q / 9223372036854775808 = bo ∧ bo ≤ 1 := by
          by_cases h : cm ≤ A
          · exact ⟨0, A - cm, A - cm, by rw [if_pos h], by omega, by omega, by omega, by omega, by omega⟩
          · exact ⟨1, A + 4294967296 - cm, A + 18446744073709551616 - cm, by rw [if_neg h], by omega, by omega, by omega, by omega, by omega⟩
        have e8 : IntKind.u64.wrap ((ch : Int) + (bo : Int)) = ((ch + bo : Nat) : Int) := by rw [wrapu64]; omega
        rw [hbq] at hbo
        simp [-Int.natCast_add, -Int.natCast_mul, -Int.natCast_ediv, -Int.natCast_emod, hbo, g0, g7, g11, g12]
        refine (num_low_uint64_does (by have := blk_lt hX; omega)).mono ?_
        rintro _ G3 ⟨rfl, hx3⟩
        rw [hq1, hq2]
        have hX3 := hx3.blk hX
        have hpl := blk_lt hX3
        have hle : o + i + 1 ≤ X.length := by rw [hw.1]; omega
        simp [-Int.natCast_add, -Int.natCast_mul, -Int.natCast_ediv, -Int.natCast_emod, hi1, hX3, hle, hf, e8, e9]
        refine ⟨k - 1, by omega, i + 1, by omega, ch + bo, rfl, rfl, X.set (o + i) z, by rw [blk_set_self hpl, u32s_set], (hx.trans hx3.extB).set, hw.step hz2, by omega, ?_⟩
        rw [hw.win (by omega), haw, hLw, Nat.pow_succ]
        exact take_step hs hD.symm hDD hz1
    · simp [r_183_3, g0, g1, g2, g7, g11, g12, hi]
      have : i = n := by omega
      subst this
      exact ⟨c, rfl, X, hX, hx, hw, hs⟩
  · clear h0 ρ
    rintro t G ⟨c, X, ht, g7, hX, hx, hw, hs⟩
    obtain ⟨ρ, rfl⟩ := toT ht
    simp only [get_T, Nat.reduceLT] at g7
    simp [r_183_11, g7]
    refine ⟨X, c, rfl, hX, hx, hw, ?_⟩
    rw [← hs]
    congr 2
    rw [win_all ha]

theorem num_give_does {L : List Nat} {p o n cap : Nat} (hb : H.blk p = .row false T_uint32 (u32s L)) (hok : LimOk L) (hL : o + n ≤ L.length) (hv : Lim H v a) (hne : slB v ≠ some p) (hf : fl ≤ p) (hn : n < 1073741824) (ha : a.length ≤ n) :
    Does env fl f_184 [.slice (some ⟨p, o, none⟩) n cap, v] H (fun _ G => ∃ X c, G.blk p = .row false T_uint32 (u32s X) ∧ ExtB (some p) H G ∧ Won L X o n ∧ win X o n + c * 4294967296 ^ n = win L o n + natL a) R := by
  refine does_wr e_184 (h := ?_)
  intro ρ h0
  simp only [s_184]
  simp [r_184_0, r_184_1, h0, slenV]
  generalize hSL : Value.slice (some ⟨p, o, none⟩) n cap = SL
  refine W_loop (fun k t G => ∃ i c X, i + k = n ∧ t.length = 37 ∧ get t 0 = SL ∧ get t 1 = v ∧ get t 4 = .int .u64 ((c : Nat) : Int) ∧ get t 7 = .int .i64 n ∧ get t 8 = .int .i64 ((i : Nat) : Int) ∧
      G.blk p = .row false T_uint32 (u32s X) ∧ ExtB (some p) H G ∧ Won L X o i ∧ c ≤ 1 ∧ win X o i + c * 4294967296 ^ i = win L o i + win a 0 i) ?_ n ?_
  · clear h0 ρ
    rintro k t G ⟨i, c, X, hik, ht, g0, g1, g4, g7, g8, hX, hx, hw, hc, hs⟩
    obtain ⟨ρ, rfl⟩ := toT ht
    simp only [get_T, Nat.reduceLT] at g0 g1 g4 g7 g8
    by_cases hi : i < n
    · have e9 : IntKind.i64.wrap ((i : Int) + 1) = ((i + 1 : Nat) : Int) := by rw [wrap64 (by omega) (by omega)]; omega
      obtain ⟨hi1, hi2⟩ := own_at (k := .i64) (cap := cap) hX (by rw [hw.1]; exact hL) hi
      rw [hSL] at hi1
      have hXl : X.getD (o + i) 0 = L.getD (o + i) 0 := hw.2.2 _ (by omega)
      have hA := getD_lt hok (o + i)
      rw [hXl] at hi2
      have hLw : win L o (i + 1) = win L o i + 4294967296 ^ i * L.getD (o + i) 0 := rfl
      have haw : win a 0 (i + 1) = win a 0 i + 4294967296 ^ i * a.getD i 0 := by rw [win, Nat.zero_add]
      generalize L.getD (o + i) 0 = A at hi2 hA hLw
      have eA : IntKind.u64.wrap (A : Int) = (A : Int) := by rw [wrapu64]; omega
      have e1 : IntKind.u64.wrap ((c : Int) + (A : Int)) = ((c + A : Nat) : Int) := by rw [wrapu64]; omega
      have hv' := hv.off hx hne
      have hV := getD_lt hv.ok i
      by_cases hia : i < a.length
      · have hla := hv'.load hia (Ext.refl _)
        have hia2 := hv'.ia (k := .i64) hia
        generalize a.getD i 0 = V at hla haw hV
        have eV : IntKind.u64.wrap (V : Int) = (V : Int) := by rw [wrapu64]; omega
        have e2 : IntKind.u64.wrap (((c + A : Nat) : Int) + (V : Int)) = ((c + A + V : Nat) : Int) := by rw [wrapu64]; omega
        simp [-Int.natCast_add, -Int.natCast_mul, -Int.natCast_ediv, -Int.natCast_emod, r_184_2, r_184_3, r_184_4, r_184_5, r_184_6, r_184_7, r_184_8, r_184_9, g0, g1, g4, g7, g8, hi, hv'.slen, hia, hia2, hla, eV, e1, e2, hi1, hi2, eA]
        generalize hD : c + A + V = D at *
        have hDD : D = (D / 4294967296) * 4294967296 + D % 4294967296 := (Nat.div_add_mod' D 4294967296).symm
        have hcm := Nat.mod_lt D (show 0 < 4294967296 by omega)
        refine (num_low_uint64_does (by have := blk_lt hX; omega)).mono ?_
        rintro _ G3 ⟨rfl, hx3⟩
        generalize D / 4294967296 = ch at *
        generalize D % 4294967296 = cm at *
        have hX3 := hx3.blk hX
        have hpl := blk_lt hX3
        have hle : o + i + 1 ≤ X.length := by rw [hw.1]; omega
        simp [-Int.natCast_add, -Int.natCast_mul, -Int.natCast_ediv, -Int.natCast_emod, hi1, hX3, hle, hf, e9]
        refine ⟨k - 1, by omega, i + 1, by omega, ch, rfl, rfl, X.set (o + i) cm, by rw [blk_set_self hpl, u32s_set], (hx.trans hx3.extB).set, hw.step hcm, by omega, ?_⟩
        rw [hw.win (by omega), haw, hLw, Nat.pow_succ]
        exact give_step hs hD.symm hDD
      · have hV0 : a.getD i 0 = 0 := by rw [List.getD_eq_getElem?_getD, List.getElem?_eq_none (by omega)]; rfl
        rw [hV0] at haw
        obtain ⟨V, hV⟩ : ∃ V, V = 0 := ⟨0, rfl⟩
        replace haw : win a 0 (i + 1) = win a 0 i + 4294967296 ^ i * V := by rw [haw, hV]
        have e1' : IntKind.u64.wrap ((c : Int) + (A : Int)) = ((c + A + V : Nat) : Int) := by rw [e1, hV]; rfl
        simp [-Int.natCast_add, -Int.natCast_mul, -Int.natCast_ediv, -Int.natCast_emod, r_184_2, r_184_3, r_184_4, r_184_5, r_184_6, r_184_7, r_184_8, r_184_9, g0, g1, g4, g7, g8, hi, hv'.slen, hia, hi1, hi2, e1', eA]
        generalize hD : c + A + V = D at *
        have hDD : D = (D / 4294967296) * 4294967296 + D % 4294967296 := (Nat.div_add_mod' D 4294967296).symm
        have hcm := Nat.mod_lt D (show 0 < 4294967296 by omega)
        refine (num_low_uint64_does (by have := blk_lt hX; omega)).mono ?_
        rintro _ G3 ⟨rfl, hx3⟩
        generalize D / 4294967296 = ch at *
        generalize D % 4294967296 = cm at *
        have hX3 := hx3.blk hX
        have hpl := blk_lt hX3
        have hle : o + i + 1 ≤ X.length := by rw [hw.1]; omega
        simp [-Int.natCast_add, -Int.natCast_mul, -Int.natCast_ediv, -Int.natCast_emod, hi1, hX3, hle, hf, e9]
        refine ⟨k - 1, by omega, i + 1, by omega, ch, rfl, rfl, X.set (o + i) cm, by rw [blk_set_self hpl, u32s_set], (hx.trans hx3.extB).set, hw.step hcm, by omega, ?_⟩
        rw [hw.win (by omega), haw, hLw, Nat.pow_succ]
        exact give_step hs hD.symm hDD
    · simp [r_184_2, g0, g1, g4, g7, g8, hi]
      have : i = n := by omega
      subst this
      exact ⟨X, hX, hx, hw, c, by rw [hs, win_all ha]⟩
  · exact ⟨0, 0, L, by omega, by simp, by simp [h0, hSL], by simp [h0], by simp, by simp, by simp, hb, ExtB.refl, Won.zero hok, by omega, by simp [win]⟩
end Go.Proofs.YtjlohmnnldbjoaaGreat.AI

/- Division of limbs by limbs: the plain laws. -/
namespace Go.Proofs.YtjlohmnnldbjoaaGreat.AI
open Go

theorem win_split {L : List Nat} {o i : Nat} : ∀ {j : Nat}, win L o (i + j) = win L o i + 4294967296 ^ i * win L (o + i) j
  | 0 => by simp [win]
  | j + 1 => by
    rw [← Nat.add_assoc, win, win_split, win, Nat.mul_add, ← Nat.mul_assoc, ← Nat.pow_add, Nat.add_assoc o i j, Nat.add_assoc]

/-- three on top. -/
theorem win_top {L : List Nat} {o k : Nat} (hk : 2 ≤ k) : win L o (k + 1) = win L o (k - 2) + 4294967296 ^ (k - 2) * ((L.getD (o + k) 0 * 4294967296 + L.getD (o + (k - 1)) 0) * 4294967296 + L.getD (o + (k - 2)) 0) := by
  obtain ⟨j, rfl⟩ : ∃ j, k = j + 2 := ⟨k - 2, by omega⟩
  rw [show j + 2 - 2 = j by omega, show j + 2 + 1 = j + 3 by omega, win_split, show j + 2 - 1 = j + 1 by omega]
  congr 2
  simp only [win]
  rw [show o + j + 0 = o + j by omega, show o + j + 1 = o + (j + 1) by omega, show o + j + 2 = o + (j + 2) by omega]
  omega
theorem win_top2 {L : List Nat} {o k : Nat} (hk : 2 ≤ k) : win L o k = win L o (k - 2) + 4294967296 ^ (k - 2) * (L.getD (o + (k - 1)) 0 * 4294967296 + L.getD (o + (k - 2)) 0) := by
  obtain ⟨j, rfl⟩ : ∃ j, k = j + 2 := ⟨k - 2, by omega⟩
  rw [show j + 2 - 2 = j by omega, win_split, show j + 2 - 1 = j + 1 by omega]
  congr 2
  simp only [win]
  rw [show o + j + 0 = o + j by omega, show o + j + 1 = o + (j + 1) by omega]
  omega

/-- what a division knows of its window. -/
structure Gs (W low lowV Uw V x u3 top next B : Nat) : Prop where
  W0 : 0 < W
  hlow : low < W
  hlowV : lowV < W
  hU : Uw = low + W * (x * B + u3)
  hV : V = lowV + W * (top * B + next)
  hB : B ≤ 2 * top
  htop : top < B
  hnext : next < B
  hu3 : u3 < B
  lt : Uw < V * B

variable {W low lowV Uw V x u3 top next B g rest q : Nat}

theorem Gs.V0 (h : Gs W low lowV Uw V x u3 top next B) : 0 < V := by
  rw [h.hV]
  have h1 : 0 < top := by have := h.hB; have := h.htop; omega
  have h2 : 0 < B := by have := h.htop; omega
  have := Nat.mul_pos h.W0 (show 0 < top * B + next by have := Nat.mul_pos h1 h2; omega)
  omega
theorem Gs.V_lt (h : Gs W low lowV Uw V x u3 top next B) : V < W * (top * B + next + 1) := by
  rw [h.hV, Nat.mul_add W (top * B + next) 1, Nat.mul_one]; have := h.hlowV; omega
theorem Gs.U_lt (h : Gs W low lowV Uw V x u3 top next B) : Uw < W * (x * B + u3 + 1) := by
  rw [h.hU, Nat.mul_add W (x * B + u3) 1, Nat.mul_one]; have := h.hlow; omega
theorem Gs.V_ge (h : Gs W low lowV Uw V x u3 top next B) : W * (top * B + next) ≤ V := by rw [h.hV]; omega
theorem Gs.U_ge (h : Gs W low lowV Uw V x u3 top next B) : W * (x * B + u3) ≤ Uw := by rw [h.hU]; omega
theorem Gs.q_lt (h : Gs W low lowV Uw V x u3 top next B) : Uw / V < B := by
  rw [Nat.div_lt_iff_lt_mul h.V0, Nat.mul_comm]; exact h.lt

theorem Gs.q_le (h : Gs W low lowV Uw V x u3 top next B) : Uw / V ≤ x / top := by
  have h1 : 0 < top := by have := h.hB; have := h.htop; omega
  rw [Nat.le_div_iff_mul_le h1]
  have h2 := Nat.div_mul_le_self Uw V
  generalize Uw / V = q at *
  have h3 : W * (q * (top * B)) ≤ q * V := by
    calc W * (q * (top * B)) ≤ W * (q * (top * B + next)) := Nat.mul_le_mul_left _ (Nat.mul_le_mul_left _ (by omega))
      _ = q * (W * (top * B + next)) := by grind
      _ ≤ q * V := Nat.mul_le_mul_left _ h.V_ge
  have h4 := h.U_lt
  have h5 : q * (top * B) < x * B + u3 + 1 := Nat.lt_of_mul_lt_mul_left (a := W) (by omega)
  have h6 := h.hu3
  have h7 : q * top * B < (x + 1) * B := by rw [Nat.mul_assoc, Nat.add_mul]; omega
  have := Nat.lt_of_mul_lt_mul_right h7
  omega

theorem Gs.x_lt (h : Gs W low lowV Uw V x u3 top next B) : x < top * B + B := by
  have h1 := h.U_ge
  have h2 := h.lt
  have h3 := h.V_lt
  have hB : 0 < B := by have := h.htop; omega
  have h4 : W * (x * B + u3) < W * ((top * B + next + 1) * B) := by
    have : V * B ≤ W * (top * B + next + 1) * B := Nat.mul_le_mul_right _ (by omega)
    rw [Nat.mul_assoc] at this; omega
  have h5 := Nat.lt_of_mul_lt_mul_left h4
  have h6 : x * B < (top * B + next + 1) * B := by omega
  have := Nat.lt_of_mul_lt_mul_right h6
  have := h.hnext
  omega

theorem Gs.down (h : Gs W low lowV Uw V x u3 top next B) (hx : g * top + rest = x) (hq : Uw / V ≤ g) (hc : B ≤ g ∨ rest * B + u3 < g * next) : Uw / V ≤ g - 1 ∧ 0 < g := by
  have h1 := h.q_lt
  have hB : 0 < B := by have := h.htop; omega
  rcases hc with hc | hc
  · omega
  · have hne : Uw / V ≠ g := by
      intro he
      have h2 := Nat.div_mul_le_self Uw V
      rw [he] at h2
      have h3 : W * (g * (top * B + next)) ≤ g * V := by
        calc W * (g * (top * B + next)) = g * (W * (top * B + next)) := by grind
          _ ≤ g * V := Nat.mul_le_mul_left _ h.V_ge
      have h4 := h.U_lt
      have h5 : g * (top * B + next) < x * B + u3 + 1 := Nat.lt_of_mul_lt_mul_left (a := W) (by omega)
      rw [← hx, Nat.add_mul, Nat.mul_add, ← Nat.mul_assoc] at h5
      omega
    generalize Uw / V = q at *
    omega

theorem Gs.fine (h : Gs W low lowV Uw V x u3 top next B) (hx : g * top + rest = x) (hg : g < B) (hc : g * next ≤ rest * B + u3) : g ≤ Uw / V + 1 := by
  by_cases hgq : g ≤ Uw / V + 1
  · exact hgq
  · exfalso
    have hgq2 : Uw / V + 1 ≤ g - 1 := by generalize Uw / V = q at *; omega
    have h1 : Uw < (Uw / V + 1) * V := by
      have := Nat.div_add_mod Uw V
      have h2 := Nat.mod_lt Uw h.V0
      rw [Nat.add_mul, Nat.mul_comm (Uw / V)]; omega
    have h2 : (Uw / V + 1) * V ≤ (g - 1) * V := Nat.mul_le_mul_right _ hgq2
    have h3 : (g - 1) * V ≤ (g - 1) * (W * (top * B + next + 1)) := Nat.mul_le_mul_left _ (by have := h.V_lt; omega)
    have h4 := h.U_ge
    have h5 : W * (x * B + u3) < W * ((g - 1) * (top * B + next + 1)) := by
      have : (g - 1) * (W * (top * B + next + 1)) = W * ((g - 1) * (top * B + next + 1)) := by grind
      omega
    have h6 := Nat.lt_of_mul_lt_mul_left h5
    obtain ⟨g1, rfl⟩ : ∃ g1, g = g1 + 1 := ⟨g - 1, by generalize Uw / V = q at *; omega⟩
    rw [show g1 + 1 - 1 = g1 by omega] at h6
    have h7 : (g1 + 1) * (top * B + next) ≤ x * B + u3 := by
      rw [← hx, Nat.add_mul ((g1 + 1) * top), Nat.mul_add (g1 + 1), ← Nat.mul_assoc]; omega
    have h8 : top * B + next < g1 := by
      rw [Nat.add_mul, Nat.one_mul] at h7
      rw [Nat.mul_add, Nat.mul_one] at h6
      omega
    have h9 : B ≤ top * B := Nat.le_mul_of_pos_left _ (by have := h.hB; have := h.htop; omega)
    omega

/-- what a taking away comes to. -/
theorem take_fine {X c P : Nat} (h : Gs W low lowV Uw V x u3 top next B) (h1 : Uw / V ≤ g) (h2 : g ≤ Uw / V + 1) (hs : X + g * V = Uw + c * P) (hX : X < P) (hP : V < P) :
    (c = 0 → g = Uw / V ∧ X = Uw % V) ∧ (c ≠ 0 → g = Uw / V + 1 ∧ ∀ X' c', X' + c' * P = X + V → X' < P → X' = Uw % V) := by
  have hd := Nat.div_add_mod Uw V
  have hm := Nat.mod_lt Uw h.V0
  generalize Uw / V = q at *
  generalize Uw % V = r at *
  refine ⟨fun hc => ?_, fun hc => ?_⟩
  · subst hc
    rw [Nat.zero_mul, Nat.add_zero] at hs
    by_cases hg : g = q
    · subst hg; refine ⟨rfl, ?_⟩; rw [Nat.mul_comm g V] at hs; omega
    · have : g = q + 1 := by omega
      subst this
      rw [Nat.add_mul, Nat.one_mul, Nat.mul_comm q V] at hs; omega
  · have hcP : P ≤ c * P := Nat.le_mul_of_pos_left _ (by omega)
    by_cases hg : g = q
    · subst hg; rw [Nat.mul_comm g V] at hs; omega
    · have hg : g = q + 1 := by omega
      subst hg
      refine ⟨rfl, fun X' c' h3 h4 => ?_⟩
      rw [Nat.add_mul, Nat.one_mul, Nat.mul_comm q V] at hs
      have hc1 : c = 1 := by
        by_cases hc2 : 2 ≤ c
        · have : 2 * P ≤ c * P := Nat.mul_le_mul_right _ hc2
          omega
        · omega
      subst hc1
      have hc'1 : c' = 1 := by
        by_cases h5 : c' = 0
        · subst h5; omega
        · by_cases h6 : 2 ≤ c'
          · have : 2 * P ≤ c' * P := Nat.mul_le_mul_right _ h6
            omega
          · omega
      subst hc'1
      omega

/-- one limb more of what comes out. -/
theorem div_step {BB i k n q r V U0 : Nat} {L X Q : List Nat} (hBB : BB = 4294967296) (hL : L.length = n) (hw : Won L X i (k + 1)) (hn : i + (k + 1) ≤ n) (hQ : i < Q.length) (hU : U0 = natL (Q.drop (i + 1)) * BB ^ (i + 1) * V + natL L) (hV : V < BB ^ k) (hlt : natL L < V * BB ^ (i + 1))
    (hq : win L i (k + 1) = V * q + r) (hr : r < V) (hX : win X i (k + 1) = r) :
    natL X < V * BB ^ i ∧ U0 = natL ((Q.set i q).drop i) * BB ^ i * V + natL X := by
  obtain ⟨j, rfl⟩ : ∃ j, n = i + (k + 1) + j := ⟨n - (i + (k + 1)), by omega⟩
  have e1 : natL L = win L 0 i + BB ^ i * (win L i (k + 1) + BB ^ (k + 1) * win L (i + (k + 1)) j) := by
    have h1 := natL_win (L := L) (Nat.le_refl _)
    rw [List.take_length, hL, Nat.add_assoc, win_split, win_split, Nat.zero_add] at h1
    rw [h1, hBB]
  have e2 : natL X = win X 0 i + BB ^ i * (win X i (k + 1) + BB ^ (k + 1) * win X (i + (k + 1)) j) := by
    have h1 := natL_win (L := X) (Nat.le_refl _)
    rw [List.take_length, hw.1, hL, Nat.add_assoc, win_split, win_split, Nat.zero_add] at h1
    rw [h1, hBB]
  have e3 : win X 0 i = win L 0 i := win_congr fun j hj => hw.2.2 _ (by omega)
  have e4 : win X (i + (k + 1)) j = win L (i + (k + 1)) j := win_congr fun j hj => hw.2.2 _ (by omega)
  have hP : 0 < BB ^ i := Nat.pow_pos (by omega)
  have e5 : win L (i + (k + 1)) j = 0 := by
    by_cases h0 : win L (i + (k + 1)) j = 0
    · exact h0
    · exfalso
      have h1 : BB ^ i * BB ^ (k + 1) ≤ natL L := by
        rw [e1]
        have : BB ^ i * BB ^ (k + 1) ≤ BB ^ i * (win L i (k + 1) + BB ^ (k + 1) * win L (i + (k + 1)) j) := Nat.mul_le_mul_left _ (by
          have := Nat.le_mul_of_pos_right (BB ^ (k + 1)) (by omega : 0 < win L (i + (k + 1)) j); omega)
        omega
      have h2 : V * BB ^ (i + 1) ≤ BB ^ k * BB ^ (i + 1) := Nat.mul_le_mul_right _ (by omega)
      have h3 : BB ^ k * BB ^ (i + 1) = BB ^ i * BB ^ (k + 1) := by rw [← Nat.pow_add, ← Nat.pow_add]; congr 1; omega
      omega
  rw [e5, Nat.mul_zero, Nat.add_zero] at e1
  rw [e3, e4, e5, Nat.mul_zero, Nat.add_zero, hX] at e2
  have hlow : win L 0 i < BB ^ i := by
    rw [← e3, hBB]; exact win_lt hw.2.1 0 i
  refine ⟨?_, ?_⟩
  · rw [e2]
    have : BB ^ i * (r + 1) ≤ BB ^ i * V := Nat.mul_le_mul_left _ hr
    rw [Nat.mul_add, Nat.mul_one] at this
    rw [Nat.mul_comm V]; omega
  · have h5 := natL_drop (l := Q.set i q) (n := i) (by simpa using hQ)
    rw [List.getD_eq_getElem?_getD, List.getElem?_set_self hQ, Option.getD_some, List.drop_set_of_lt (show i < i + 1 by omega), ← hBB] at h5
    rw [hU, e1, e2, hq, h5, Nat.pow_succ]
    grind

end Go.Proofs.YtjlohmnnldbjoaaGreat.AI

/- num.divide. -/
namespace Go.Proofs.YtjlohmnnldbjoaaGreat.AI
open Go
set_option maxHeartbeats 4000000
set_option maxRecDepth 20000

variable {fl : Nat} {H G : Heap} {R : PostP} {v w : Value} {a b : List Nat}

theorem own_elem {e p o n c : Nat} {cs : List Value} (hb : G.blk p = .row false e cs) : elemOk G e (.slice (some ⟨p, o, none⟩) n c) = true := by
  unfold elemOk; simp only [hb]; simp
theorem slice_own {p o n cap lo hi : Nat} {x y : Option Value} (hx : bnd 0 x = some lo) (hy : bnd n y = some hi) (h1 : lo ≤ hi) (h2 : hi ≤ n) :
    sliceA 1 (.slice (some ⟨p, o, none⟩) n cap) x y none = some (.slice (some ⟨p, o + lo, none⟩) (hi - lo) (if cap = unk then unk else cap - lo)) := by
  unfold sliceA; simp only [hx, hy]; rw [if_pos ⟨h1, h2⟩]; simp
theorem lim_own {p o n cap : Nat} {ro : Bool} {L : List Nat} (hb : G.blk p = .row ro T_uint32 (u32s L)) (hok : LimOk L) (hL : o + n ≤ L.length) : Lim G (.slice (some ⟨p, o, none⟩) n cap) ((L.drop o).take n) := by
  have hl : ((L.drop o).take n).length = n := by simp; omega
  refine ⟨⟨by simp [hl], .inr ⟨p, o, cap, ro, u32s L, by rw [hl], hb, by simp [hl]; omega, ?_⟩⟩, fun x hx => hok x (List.mem_of_mem_drop (List.mem_of_mem_take hx))⟩
  rw [hl, Nat.mul_one]; simp [u32s, List.map_take, List.map_drop]
theorem natL_dt {L : List Nat} {o : Nat} : ∀ {n : Nat}, o + n ≤ L.length → natL ((L.drop o).take n) = win L o n
  | 0, _ => by simp [natL, win]
  | n + 1, h => by
    rw [natL_take_succ (by simp; omega), natL_dt (by omega), win]
    simp [List.getD_eq_getElem?_getD]
/-- a number's highest limb is below, shifted up. -/
theorem top_lt {b : List Nat} {k n : Nat} (hok : LimOk b) (hk : b.length = k + 1) (hn : n ≤ 31) (ht : b.getD k 0 * 2 ^ n < 4294967296) : natL b * 2 ^ n < 4294967296 ^ (k + 1) := by
  have h1 : natL b = win b 0 k + 4294967296 ^ k * b.getD k 0 := by
    rw [← win_all (L := b) (n := k + 1) (by omega), win, Nat.zero_add]
  have h2 := win_lt hok 0 k
  have h3 : (b.getD k 0 + 1) * 2 ^ n ≤ 4294967296 := by
    obtain ⟨m, hm⟩ : ∃ m, 4294967296 = m * 2 ^ n := ⟨2 ^ (32 - n), by rw [← Nat.pow_add, show 32 - n + n = 32 by omega]⟩
    rw [hm] at ht ⊢
    exact Nat.mul_le_mul_right _ (Nat.lt_of_mul_lt_mul_right ht)
  have h4 : natL b < 4294967296 ^ k * (b.getD k 0 + 1) := by rw [h1, Nat.mul_add, Nat.mul_one]; omega
  have hp : 0 < 2 ^ n := Nat.two_pow_pos n
  calc natL b * 2 ^ n < 4294967296 ^ k * (b.getD k 0 + 1) * 2 ^ n := Nat.mul_lt_mul_of_pos_right h4 hp
    _ = 4294967296 ^ k * ((b.getD k 0 + 1) * 2 ^ n) := Nat.mul_assoc ..
    _ ≤ 4294967296 ^ k * 4294967296 := Nat.mul_le_mul_left _ h3
    _ = 4294967296 ^ (k + 1) := (Nat.pow_succ ..).symm
/-- one limb more that is nought. -/
theorem take_top {o : List Nat} {k : Nat} (ho : o.length = k + 1) (h : natL o < 4294967296 ^ k) : natL (o.take k) = natL o := by
  have h1 : natL o = natL (o.take k) + 4294967296 ^ k * o.getD k 0 := by
    rw [← natL_take_succ (by omega), List.take_of_length_le (by omega)]
  have : o.getD k 0 = 0 := by
    by_cases h0 : o.getD k 0 = 0
    · exact h0
    · have := Nat.le_mul_of_pos_right (4294967296 ^ k) (by omega : 0 < o.getD k 0); omega
  rw [this] at h1; omega
theorem top_ge {b : List Nat} {k n : Nat} (hk : b.length = k + 1) (ht : 2147483648 ≤ b.getD k 0 * 2 ^ n) : 2147483648 * 4294967296 ^ k ≤ natL b * 2 ^ n := by
  have h1 : natL b = win b 0 k + 4294967296 ^ k * b.getD k 0 := by
    rw [← win_all (L := b) (n := k + 1) (by omega), win, Nat.zero_add]
  rw [h1, Nat.add_mul, Nat.mul_assoc, Nat.mul_comm 2147483648]
  have := Nat.mul_le_mul_left (4294967296 ^ k) ht
  omega
theorem first_lt {x y la k n B : Nat} (h1 : x < B ^ la) (hn : 2 ^ n ≤ 2147483648) (h2 : 2147483648 * B ^ k ≤ y) : x * 2 ^ n < y * B ^ (la - k) ∨ la < k := by
  by_cases hk : k ≤ la
  · left
    have hp : 0 < 2 ^ n := Nat.two_pow_pos n
    calc x * 2 ^ n < B ^ la * 2 ^ n := Nat.mul_lt_mul_of_pos_right h1 hp
      _ ≤ B ^ la * 2147483648 := Nat.mul_le_mul_left _ hn
      _ = 2147483648 * B ^ k * B ^ (la - k) := by rw [Nat.mul_assoc, ← Nat.pow_add, show k + (la - k) = la by omega, Nat.mul_comm]
      _ ≤ y * B ^ (la - k) := Nat.mul_le_mul_right _ h2
  · right; omega

theorem Won.trans {L X Y : List Nat} {o n : Nat} (h : Won L X o n) (k : Won X Y o n) : Won L Y o n := ⟨k.1.trans h.1, k.2.1, fun j hj => (k.2.2 j hj).trans (h.2.2 j hj)⟩

theorem shl32 {tag r : Nat} (h : r < 4294967296) : binA tag .shl (.int .u64 (r : Int)) (.int .u64 32) = some (.int .u64 ((r * 4294967296 : Nat) : Int)) := by
  have h1 := shl64 (tag := tag) (n := r) (s := 32) (k' := .u64) (by omega)
  have h2 : r * 2 ^ 32 % 18446744073709551616 = r * 4294967296 := by omega
  rw [h2] at h1; exact h1
theorem or32 {tag x y : Nat} (hx : x < 4294967296) (hy : y < 4294967296) : binA tag .or (.int .u64 ((x * 4294967296 : Nat) : Int)) (.int .u64 (y : Int)) = some (.int .u64 ((x * 4294967296 + y : Nat) : Int)) := by
  rw [or64 (by omega) (by omega), or_add32 hy]

theorem repl_u32 : ∀ N : Nat, repl [.int .u32 0] N = u32s (List.replicate N 0)
  | 0 => rfl
  | n + 1 => by rw [repl, repl_u32 n]; rfl

theorem num_divide_does (ha : Lim H v a) (hb : Lim H w b) (hf : fl ≤ H.size) (hna : a.length < 1073741823) (h2 : 2 ≤ b.length) (hle : b.length ≤ a.length) (hb0 : b.getD (b.length - 1) 0 ≠ 0) :
    Does env fl f_173 [v, w] H (fun r H' => (∃ q o q' o', r = .tuple #[q, q'] ∧ Lim H' q o ∧ natL o = natL a / natL b ∧ o.length ≤ a.length ∧ Lim H' q' o' ∧ natL o' = natL a % natL b ∧ o'.length ≤ a.length) ∧ Ext H H') R := by
  refine does_ext e_173 hf (h := ?_)
  intro ρ h0
  simp only [s_173]
  obtain ⟨k, hk⟩ : ∃ k, b.length = k + 1 := ⟨b.length - 1, by omega⟩
  have hk1 : 1 ≤ k := by omega
  rw [show b.length - 1 = k by omega] at hb0
  have htl := getD_lt hb.ok k
  have hial := hb.ia (k := .i64) (show k < b.length by omega)
  have hldl := hb.load (show k < b.length by omega) (Ext.refl H)
  have htlt := @top_lt b k
  have htge := @top_ge b k
  generalize htp : b.getD k 0 = tp at *
  have e0 : IntKind.i64.wrap ((b.length : Int) - 1) = ((k : Nat) : Int) := by rw [wrap64 (by omega) (by omega)]; omega
  simp [r_173_0, r_173_1, h0]
  refine W_loopM (fun c t G => ∃ n : Nat, G = H ∧ n + c = 31 ∧ t.length = 147 ∧ get t 0 = v ∧ get t 1 = w ∧ get t 6 = .int .i64 ((n : Nat) : Int) ∧ tp * 2 ^ n < 4294967296)
    (fun t G => ∃ n : Nat, G = H ∧ n ≤ 31 ∧ t.length = 147 ∧ get t 0 = v ∧ get t 1 = w ∧ get t 6 = .int .i64 ((n : Nat) : Int) ∧ tp * 2 ^ n < 4294967296 ∧ 2147483648 ≤ tp * 2 ^ n) 31 ?_ ?_ ?_
  · exact ⟨0, rfl, by omega, by simp, by simp [h0], by simp [h0], by simp, by omega⟩
  · clear h0 ρ
    rintro c t G ⟨n, rfl, hn, ht, g0, g1, g6, hy⟩
    obtain ⟨ρ, rfl⟩ := toT ht
    simp only [get_T, Nat.reduceLT] at g0 g1 g6
    have hy2 : tp * 2 ^ (n + 1) = 2 * (tp * 2 ^ n) := by rw [Nat.pow_succ, ← Nat.mul_assoc]; omega
    have hy3 : 2 ^ n ≤ tp * 2 ^ n := Nat.le_mul_of_pos_left _ (by omega)
    have hy4 : n = 31 → 2147483648 ≤ tp * 2 ^ n := by rintro rfl; exact hy3
    have s1 := shl_u32 (tag := 0) (n := tp) (s := n) (k' := .i64) (by omega)
    rw [Nat.mod_eq_of_lt hy] at s1
    generalize hyd : tp * 2 ^ n = y at *
    have s2 : binA 0 .shr (.int .u32 (y : Int)) (.int .u64 31) = some (.int .u32 ((y / 2147483648 : Nat) : Int)) := shr_u32 (tag := 0) (n := y) (s := 31) (k' := .u64) (by omega)
    have e9 : IntKind.i64.wrap ((n : Int) + 1) = ((n + 1 : Nat) : Int) := by rw [wrap64 (by omega) (by omega)]; omega
    by_cases hd : y / 2147483648 = 0
    · have hdb : ((y / 2147483648 : Nat) == 0) = true := by simp [hd]
      simp [-Int.natCast_ediv, -Int.natCast_add, -beq_iff_eq, r_173_2, r_173_3, g0, g1, g6, hb.slen, e0, hial, hldl, s1, s2, hdb, e9]
      exact ⟨c - 1, by omega, n + 1, by omega, rfl, by rw [hy2]; omega⟩
    · have hdb : ((y / 2147483648 : Nat) == 0) = false := by simp [hd]
      simp [-Int.natCast_ediv, -Int.natCast_add, -beq_iff_eq, r_173_2, r_173_3, g0, g1, g6, hb.slen, e0, hial, hldl, s1, s2, hdb, e9]
      exact ⟨n, by omega, rfl, by rw [hyd]; exact hy, by rw [hyd]; omega⟩
  · clear h0 ρ
    rintro t G ⟨n, rfl, hn, ht, g0, g1, g6, hy, hy2⟩
    obtain ⟨ρ, rfl⟩ := toT ht
    simp only [get_T, Nat.reduceLT] at g0 g1 g6
    refine W_draw ?_
    simp [r_173_4, g0, g1, g6]
    refine (num_shifted_does ha (Nat.le_refl _) (by omega) (by omega)).mono ?_
    rintro u G1 ⟨⟨L0, hu, hok0, hv0, hl0⟩, hx1⟩
    try simp [g0, g1, g6]
    refine (num_shifted_does (hb.mono hx1) hx1.1 (by omega) (by omega)).mono ?_
    rintro u2 G2 ⟨⟨L1, hu1, hok1, hv1, hl1⟩, hx2⟩
    have hx := hx1.trans hx2
    have hxs := hx.1
    have hx1s := hx1.1
    obtain ⟨hul, ⟨_, hbad⟩ | ⟨P, capu, rfl, hP, hfP⟩⟩ := hu.mono hx2
    · omega
    obtain ⟨hul1, ⟨_, hbad⟩ | ⟨Q, capv, rfl, hQ, hfQ⟩⟩ := hu1
    · omega
    have hPl : P < G1.size := by
      obtain ⟨_, ⟨hbad, _⟩ | ⟨P', cap', he, hP', _⟩⟩ := hu
      · cases hbad
      · simp at he; rw [he.1]; exact blk_lt hP'
    have hQl := blk_lt hQ
    -- the divisor
    have hVlt := htlt hb.ok hk hn hy
    have hVge := htge hk hy2
    have hVt := take_top (o := L1) (k := b.length) hl1 (by rw [hv1, hk]; exact hVlt)
    have hlt0 := first_lt (x := natL a) (y := natL b * 2 ^ n) (la := a.length) (k := k) (n := n) (B := 4294967296) (natL_lt a ha.ok) (Nat.pow_le_pow_right (n := 2) (by omega) hn) hVge
    have hlt0 : natL a * 2 ^ n < natL b * 2 ^ n * 4294967296 ^ (a.length - k) := by rcases hlt0 with h | h; exact h; omega
    have hpn : 0 < 2 ^ n := Nat.two_pow_pos n
    have hqv : natL a / natL b = natL a * 2 ^ n / (natL b * 2 ^ n) := (Nat.mul_div_mul_right _ _ hpn).symm
    have hrv : natL a % natL b = natL a * 2 ^ n % (natL b * 2 ^ n) / 2 ^ n := by rw [Nat.mul_mod_mul_right, Nat.mul_div_cancel _ hpn]
    rw [hv1] at hVt
    rw [hqv, hrv]
    generalize natL b * 2 ^ n = V at *
    generalize natL a * 2 ^ n = U0 at *
    clear hqv hrv htlt htge hial hldl e0 htp hb0 htl hy hy2 hul hul1 hpn hu hx1 hx2
    obtain ⟨j, hj⟩ : ∃ j, k = j + 1 := ⟨k - 1, by omega⟩
    generalize hK : b.length = K at *
    have hLv : ((L1.drop 0).take K) = L1.take K := by rw [List.drop_zero]
    have hsl := hb.slen
    rw [hK] at hsl
    have hslv := slice_own (p := Q) (o := 0) (cap := capv) (n := K + 1) (x := none) (y := some (.int .i64 (K : Int))) (lo := 0) (hi := K) rfl (by simp) (by omega) (by omega)
    rw [Nat.add_zero, Nat.sub_zero, Nat.sub_zero] at hslv
    generalize (if capv = unk then unk else capv) = capw at hslv
    have hw1 : IntKind.i64.wrap (((a.length + 1 : Nat) : Int) - (K : Int)) = ((a.length - k : Nat) : Int) := by rw [wrap64 (by omega) (by omega)]; omega
    have hmn : mnxA true (.int .i64 ((a.length - k : Nat) : Int)) [.int .i64 0] = some (.int .i64 ((a.length - k : Nat) : Int)) := by
      simp only [mnxA, mn2]; rw [if_pos trivial, if_neg (by omega)]
    have hm := mkV_int (bytes := 4) (k := .i64) (k' := .i64) (l := a.length - k) (c := a.length - k) (Nat.le_refl _) (by omega) (by omega)
    generalize hN : a.length - k = N at *
    simp [-Int.natCast_add, hsl, own_elem hQ, hslv]
    simp [-Int.natCast_add, r_173_5, r_173_6, slenV, hw1, hmn, hm]
    generalize hPQ : G2.size = PQ
    generalize hG3 : G2.push (.row false T_uint32 (repl [.int .u32 0] N)) = G3
    have hx3 : Ext G2 G3 := by rw [← hG3]; exact (Ext.refl _).push
    have hP3 := hx3.blk hP
    have hQ3 := hx3.blk hQ
    have hPQ3 : Heap.blk G3 PQ = .row false T_uint32 (u32s (List.replicate N 0)) := by rw [← hG3, ← hPQ, blk_push_self, repl_u32]
    replace hx := hx.trans hx3
    have hv3 : Lim G3 (.slice (some ⟨Q, 0, none⟩) K capw) (L1.take K) := by rw [← hLv]; exact lim_own hQ3 hok1 (by omega)
    have hLl : (L1.take K).length = K := by simp; omega
    have hok2 := hv3.ok
    generalize L1.take K = Vl at *
    clear hG3 hx3 hP hQ hQ3 hok1 hslv hLv hv1 hl1 hm hmn hw1 L1
    generalize hSU : Value.slice (some ⟨P, 0, none⟩) (a.length + 1) capu = SU
    generalize hSV : Value.slice (some ⟨Q, 0, none⟩) K capw = SV at *
    generalize hSQ : Value.slice (some ⟨PQ, 0, none⟩) N N = SQ
    -- its highest limbs
    have hia1 := hv3.ia (k := .i64) (show k < Vl.length by omega)
    have hia2 := hv3.ia (k := .i64) (show j < Vl.length by omega)
    have hld1 := hv3.load (show k < Vl.length by omega) (Ext.refl _)
    have hld2 := hv3.load (show j < Vl.length by omega) (Ext.refl _)
    have hV1 : V = win Vl 0 k + 4294967296 ^ k * Vl.getD k 0 := by rw [← hVt, ← win_all (L := Vl) (n := k + 1) (by omega), win, Nat.zero_add]
    have hV2 : V = win Vl 0 j + 4294967296 ^ j * (Vl.getD k 0 * 4294967296 + Vl.getD j 0) := by
      rw [← hVt, ← win_all (L := Vl) (n := k + 1) (by omega), win_top2 (by omega), show k + 1 - 1 = k by omega, show k + 1 - 2 = j by omega, Nat.zero_add, Nat.zero_add]
    have hTt := getD_lt hok2 k
    have hTn := getD_lt hok2 j
    have hTg : 2147483648 ≤ Vl.getD k 0 := by
      by_cases h : 2147483648 ≤ Vl.getD k 0
      · exact h
      · exfalso
        have h3 := win_lt hok2 0 k
        have : 4294967296 ^ k * (Vl.getD k 0 + 1) ≤ 4294967296 ^ k * 2147483648 := Nat.mul_le_mul_left _ (by omega)
        rw [Nat.mul_add, Nat.mul_one] at this
        rw [Nat.mul_comm] at hVge
        omega
    clear hV1
    generalize Vl.getD k 0 = top at *
    generalize Vl.getD j 0 = next at *
    have et : IntKind.u64.wrap (top : Int) = (top : Int) := by rw [wrapu64]; omega
    have en : IntKind.u64.wrap (next : Int) = (next : Int) := by rw [wrapu64]; omega
    have ew1 : IntKind.i64.wrap ((K : Int) - 1) = (k : Int) := by rw [wrap64 (by omega) (by omega)]; omega
    have ew2 : IntKind.i64.wrap ((K : Int) - 2) = (j : Int) := by rw [wrap64 (by omega) (by omega)]; omega
    have ew3 : IntKind.i64.wrap (((a.length + 1 : Nat) : Int) - (K : Int)) = (N : Int) := by rw [wrap64 (by omega) (by omega)]; omega
    have ew4 : IntKind.i64.wrap ((N : Int) - 1) = (N : Int) - 1 := wrap64 (by omega) (by omega)
    have hslu : slenV SU = some (.int .i64 ((a.length + 1 : Nat) : Int)) := by rw [← hSU]; rfl
    have hslPQ : slB SV ≠ some PQ := by rw [← hSV]; simp [slB]; omega
    have hslP : slB SV ≠ some P := by rw [← hSV]; simp [slB]; omega
    refine W_draw ?_
    simp [-Int.natCast_add, r_173_7, r_173_8, hv3.slen, ew1, ew2, hia1, hia2, hld1, hld2, et, en, hLl, hslu, ew3, ew4, g6]
    clear hia1 hia2 hld1 hld2 et en ew1 ew2 ew3 ew4 hslu hsl
    refine W_loopM (fun c t G' => ∃ L Qs, t.length = 147 ∧ get t 4 = SQ ∧ get t 6 = .int .i64 (n : Int) ∧ get t 7 = SU ∧ get t 8 = SV ∧ get t 9 = .int .i64 (K : Int) ∧ get t 10 = .int .u64 (top : Int) ∧ get t 11 = .int .u64 (next : Int) ∧ get t 12 = .int .i64 ((c : Int) - 1) ∧
        Ext G G' ∧ Lim G' SV Vl ∧ Heap.blk G' P = .row false T_uint32 (u32s L) ∧ Heap.blk G' PQ = .row false T_uint32 (u32s Qs) ∧ L.length = a.length + 1 ∧ LimOk L ∧ Qs.length = N ∧ LimOk Qs ∧ c ≤ N ∧ U0 = natL (Qs.drop c) * 4294967296 ^ c * V + natL L ∧ natL L < V * 4294967296 ^ c)
      (fun t G' => ∃ L Qs, t.length = 147 ∧ get t 4 = SQ ∧ get t 6 = .int .i64 (n : Int) ∧ get t 7 = SU ∧ get t 9 = .int .i64 (K : Int) ∧
        Ext G G' ∧ Heap.blk G' P = .row false T_uint32 (u32s L) ∧ Heap.blk G' PQ = .row false T_uint32 (u32s Qs) ∧ L.length = a.length + 1 ∧ LimOk L ∧ Qs.length = N ∧ LimOk Qs ∧ U0 = natL Qs * V + natL L ∧ natL L < V) N ?_ ?_ ?_
    · refine ⟨L0, List.replicate N 0, by simp, by simp [hSQ], by simp [g6], by simp [hSU], by simp, by simp, by simp, by simp, by simp, hx, hv3, hP3, hPQ3, hl0, hok0, by simp, fun z hz => by rw [List.mem_replicate] at hz; omega, Nat.le_refl _, ?_, by rw [hv0]; exact hlt0⟩
      rw [List.drop_eq_nil_of_le (by simp), hv0]; simp [natL]
    · clear hP3 hPQ3 hv0 hl0 hok0 L0 g0 g1 g6 ht ρ hx hv3 G3
      rintro c t G3 ⟨L, Qs, ht, g4, g6, g7, g8, g9, g10, g11, g12, hx, hv3, hP, hPQb, hLlen, hLok, hQlen, hQok, hcN, hU, hlt⟩
      obtain ⟨ρ, rfl⟩ := toT ht
      simp only [get_T, Nat.reduceLT] at g4 g6 g7 g8 g9 g10 g11 g12
      by_cases hc0 : c = 0
      · subst hc0
        simp [-Int.natCast_add, r_173_9, g4, g6, g7, g8, g9, g10, g11, g12]
        exact ⟨hx, L, hP, Qs, hPQb, hLlen, hLok, hQlen, hQok, by simpa using hU, by simpa using hlt⟩
      · obtain ⟨i, rfl⟩ : ∃ i, c = i + 1 := ⟨c - 1, by omega⟩
        have ec : (((i + 1 : Nat) : Int) - 1) = (i : Int) := by omega
        rw [ec] at g12
        -- places
        obtain ⟨iK, hiK⟩ : ∃ iK, iK = i + K := ⟨_, rfl⟩
        have ew1 : IntKind.i64.wrap ((i : Int) + (K : Int)) = (iK : Int) := by rw [wrap64 (by omega) (by omega)]; omega
        have ew2 : IntKind.i64.wrap ((iK : Int) - 1) = ((i + k : Nat) : Int) := by rw [wrap64 (by omega) (by omega)]; omega
        have ew3 : IntKind.i64.wrap ((iK : Int) - 2) = ((i + j : Nat) : Int) := by rw [wrap64 (by omega) (by omega)]; omega
        have ew4 : IntKind.i64.wrap ((iK : Int) + 1) = ((iK + 1 : Nat) : Int) := by rw [wrap64 (by omega) (by omega)]; omega
        have ew5 : IntKind.i64.wrap ((i : Int) - 1) = (i : Int) - 1 := wrap64 (by omega) (by omega)
        obtain ⟨hi1, hr1⟩ := own_at (k := .i64) (cap := capu) (o := 0) (n := a.length + 1) hP (by omega) (show iK < a.length + 1 by omega)
        obtain ⟨hi2, hr2⟩ := own_at (k := .i64) (cap := capu) (o := 0) (n := a.length + 1) hP (by omega) (show i + k < a.length + 1 by omega)
        obtain ⟨hi3, hr3⟩ := own_at (k := .i64) (cap := capu) (o := 0) (n := a.length + 1) hP (by omega) (show i + j < a.length + 1 by omega)
        rw [hSU, Nat.zero_add] at hi1 hi2 hi3
        rw [Nat.zero_add] at hr1 hr2 hr3
        have hA1 := getD_lt hLok iK
        have hA2 := getD_lt hLok (i + k)
        have hA3 := getD_lt hLok (i + j)
        -- the window
        have hwin := win_top (L := L) (o := i) (k := K) (by omega)
        rw [show K - 2 = j by omega, show K - 1 = k by omega, ← hiK] at hwin
        have hUw : win L i (K + 1) < V * 4294967296 := by
          have h1 := natL_win (L := L) (Nat.le_refl _)
          rw [List.take_length, hLlen, show a.length + 1 = i + ((K + 1) + (a.length - i - K)) by omega, win_split, win_split, Nat.zero_add] at h1
          have h2 : 4294967296 ^ i * win L i (K + 1) < 4294967296 ^ i * (V * 4294967296) := by
            rw [Nat.pow_succ, ← Nat.mul_assoc, Nat.mul_right_comm] at hlt
            rw [Nat.mul_add] at h1
            have : V * 4294967296 * 4294967296 ^ i = 4294967296 ^ i * (V * 4294967296) := Nat.mul_comm _ _
            omega
          exact Nat.lt_of_mul_lt_mul_left h2
        generalize L.getD iK 0 = A1 at hA1 hr1 hwin
        generalize L.getD (i + k) 0 = A2 at hA2 hr2 hwin
        generalize L.getD (i + j) 0 = A3 at hA3 hr3 hwin
        obtain ⟨x, hX⟩ : ∃ x, x = A1 * 4294967296 + A2 := ⟨_, rfl⟩
        rw [← hX] at hwin
        have gs : Gs (4294967296 ^ j) (win L i j) (win Vl 0 j) (win L i (K + 1)) V x A3 top next 4294967296 :=
          ⟨Nat.pow_pos (by omega), win_lt hLok i j, win_lt hok2 0 j, hwin, hV2, by omega, hTt, hTn, hA3, hUw⟩
        clear hwin
        have eA1 : IntKind.u64.wrap (A1 : Int) = (A1 : Int) := by rw [wrapu64]; omega
        have eA2 : IntKind.u64.wrap (A2 : Int) = (A2 : Int) := by rw [wrapu64]; omega
        have eA3 : IntKind.u64.wrap (A3 : Int) = (A3 : Int) := by rw [wrapu64]; omega
        have s1 := shl32 (tag := 0) hA1
        have s2 := or32 (tag := 0) hA1 hA2
        have hxl : x < 18446744073709551616 := by omega
        have hqle := gs.q_le
        have hxlt := gs.x_lt
        rw [← hX] at s2
        have s3 := quo64 (tag := 0) (a := x) (b := top) hxl (by omega)
        have s4 := rem64 (tag := 0) (a := x) (b := top) (by omega)
        have hgr : x / top * top + x % top = x := Nat.div_add_mod' x top
        have hrt := Nat.mod_lt x (show 0 < top by omega)
        have hgB : x / top ≤ 4294967297 := by
          have : x / top < 4294967298 := by rw [Nat.div_lt_iff_lt_mul (by omega)]; omega
          omega
        have hic : (i : Int) ≥ 0 := by omega
        simp [-Int.natCast_add, -Int.natCast_mul, -Int.natCast_ediv, -Int.natCast_emod, r_173_9, g4, g6, g7, g8, g9, g10, g11, g12, hic]
        refine W_draw ?_
        simp [-Int.natCast_add, -Int.natCast_mul, -Int.natCast_ediv, -Int.natCast_emod, r_173_10, g4, g6, g7, g8, g9, g10, g11, g12, ew1, ew2, hi1, hi2, hr1, hr2, eA1, eA2, s1, s2]
        refine W_draw ?_
        simp [-Int.natCast_add, -Int.natCast_mul, -Int.natCast_ediv, -Int.natCast_emod, r_173_11, g4, g6, g7, g8, g9, g10, g11, g12, s3, s4]
        clear s1 s2 s3 s4
        generalize x / top = gq at hgr hgB hqle ⊢
        generalize x % top = rr at hgr hrt ⊢
        have hslice : ∃ cap', sliceA 1 SU (some (.int .i64 (i : Int))) (some (.int .i64 ((iK + 1 : Nat) : Int))) none = some (.slice (some ⟨P, i, none⟩) (K + 1) cap') := by
          rw [← hSU, slice_own (lo := i) (hi := iK + 1) (by simp) (bnd_int (n := iK + 1)) (by omega) (by omega), Nat.zero_add, show iK + 1 - i = K + 1 by omega]
          exact ⟨_, rfl⟩
        obtain ⟨capt, hslice⟩ := hslice
        have helem : ∀ (G' : Heap) (cs : List Value), Heap.blk G' P = .row false T_uint32 cs → elemOk G' T_uint32 SU = true := fun G' cs h => by rw [← hSU]; exact own_elem h
        refine W_loopM (fun c t G' => ∃ g rest : Nat, c = g ∧ G' = G3 ∧ t.length = 147 ∧ get t 4 = SQ ∧ get t 6 = .int .i64 (n : Int) ∧ get t 7 = SU ∧ get t 8 = SV ∧ get t 9 = .int .i64 (K : Int) ∧ get t 10 = .int .u64 (top : Int) ∧ get t 11 = .int .u64 (next : Int) ∧ get t 12 = .int .i64 (i : Int) ∧ get t 14 = .int .u64 (g : Int) ∧ get t 15 = .int .u64 (rest : Int) ∧
            g * top + rest = x ∧ win L i (K + 1) / V ≤ g ∧ g ≤ 4294967297 ∧ rest < 4294967296)
          (fun t G' => ∃ g rest : Nat, G' = G3 ∧ t.length = 147 ∧ get t 4 = SQ ∧ get t 6 = .int .i64 (n : Int) ∧ get t 7 = SU ∧ get t 8 = SV ∧ get t 9 = .int .i64 (K : Int) ∧ get t 10 = .int .u64 (top : Int) ∧ get t 11 = .int .u64 (next : Int) ∧ get t 12 = .int .i64 (i : Int) ∧ get t 14 = .int .u64 (g : Int) ∧
            g * top + rest = x ∧ win L i (K + 1) / V ≤ g ∧ g < 4294967296 ∧ g * next ≤ rest * 4294967296 + A3) gq ?_ ?_ ?_
        · exact ⟨gq, rr, rfl, rfl, by simp, by simp [g4], by simp [g6], by simp [g7], by simp [g8], by simp [g9], by simp [g10], by simp [g11], by simp [g12], by simp, by simp, hgr, hqle, hgB, by omega⟩
        · clear g4 g6 g7 g8 g9 g10 g11 g12 ht ρ
          rintro c t G' ⟨g, rest, rfl, rfl, ht, g4, g6, g7, g8, g9, g10, g11, g12, g14, g15, hgx, hq, hgl, hrl⟩
          obtain ⟨ρ, rfl⟩ := toT ht
          simp only [get_T, Nat.reduceLT] at g4 g6 g7 g8 g9 g10 g11 g12 g14 g15
          obtain ⟨rt, hrt2⟩ : ∃ rt, rt = rest + top := ⟨_, rfl⟩
          have er : IntKind.u64.wrap ((rest : Int) + (top : Int)) = (rt : Int) := by rw [wrapu64]; omega
          by_cases hcB : 4294967296 ≤ c
          · have hcB2 : (4294967296 : Int) ≤ (c : Int) := by omega
            have hcase : 4294967296 ≤ c ∨ rest * 4294967296 + A3 < c * next := .inl hcB
            have hcs : (c : Int) ≥ 4294967296 := hcB2
            simp (config := {maxSteps := 4000000}) [-Int.natCast_add, -Int.natCast_mul, r_173_12, g4, g6, g7, g8, g9, g10, g11, g12, g14, g15, hcB, hcB2]
            obtain ⟨hq', hg0⟩ := gs.down hgx hq hcase
            obtain ⟨g', rfl⟩ : ∃ g', c = g' + 1 := ⟨c - 1, by omega⟩
            rw [Nat.add_sub_cancel] at hq'
            have eg : IntKind.u64.wrap (((g' + 1 : Nat) : Int) - 1) = (g' : Int) := by rw [wrapu64]; omega
            have hgx' : g' * top + rt = x := by rw [← hgx, hrt2, Nat.add_mul, Nat.one_mul]; omega
            by_cases hbr : 4294967296 ≤ rt
            · have hbr2 : (4294967296 : Int) ≤ (rt : Int) := by omega
              simp [-Int.natCast_add, -Int.natCast_mul, hcs, r_173_13, r_173_14, r_173_15, g4, g6, g7, g8, g9, g10, g11, g12, g14, g15, eg, er, hbr, hbr2]
              have hgl' : g' < 4294967296 := by
                by_cases h : g' = 4294967296
                · subst h; rw [Nat.mul_comm] at hgx'; omega
                · omega
              refine ⟨g', rfl, rt, hgx', hq', hgl', ?_⟩
              have h1 : g' * next ≤ 4294967295 * 4294967295 := Nat.mul_le_mul (by omega) (by omega)
              omega
            · have hbr2 : ¬ (4294967296 : Int) ≤ (rt : Int) := by omega
              simp [-Int.natCast_add, -Int.natCast_mul, hcs, r_173_13, r_173_14, r_173_15, g4, g6, g7, g8, g9, g10, g11, g12, g14, g15, eg, er, hbr, hbr2]
              exact ⟨g', by omega, rfl, rt, rfl, hgx', hq', by omega, by omega⟩
          · have hcB2 : ¬ (4294967296 : Int) ≤ (c : Int) := by omega
            have hcn : c * next ≤ 4294967295 * 4294967295 := Nat.mul_le_mul (by omega) (by omega)
            obtain ⟨cn, hcn2⟩ : ∃ cn, cn = c * next := ⟨_, rfl⟩
            have em : IntKind.u64.wrap ((c : Int) * (next : Int)) = (cn : Int) := by rw [wrapu64, ← Int.natCast_mul, ← hcn2]; omega
            have s1 := shl32 (tag := 0) hrl
            have s2 := or32 (tag := 0) hrl hA3
            obtain ⟨rA, hrA⟩ : ∃ rA, rA = rest * 4294967296 + A3 := ⟨_, rfl⟩
            rw [← hrA] at s2
            by_cases hgt : rA < cn
            · have hcase : 4294967296 ≤ c ∨ rest * 4294967296 + A3 < c * next := .inr (by rw [← hrA, ← hcn2]; exact hgt)
              have hcs : rA < cn := hgt
              simp (config := {maxSteps := 4000000}) [-Int.natCast_add, -Int.natCast_mul, r_173_12, g4, g6, g7, g8, g9, g10, g11, g12, g14, g15, hcB, hcB2, ew1, ew3, hi3, hr3, eA3, em, s1, s2, hgt]
              obtain ⟨hq', hg0⟩ := gs.down hgx hq hcase
              obtain ⟨g', rfl⟩ : ∃ g', c = g' + 1 := ⟨c - 1, by omega⟩
              rw [Nat.add_sub_cancel] at hq'
              have eg : IntKind.u64.wrap (((g' + 1 : Nat) : Int) - 1) = (g' : Int) := by rw [wrapu64]; omega
              have hgx' : g' * top + rt = x := by rw [← hgx, hrt2, Nat.add_mul, Nat.one_mul]; omega
              by_cases hbr : 4294967296 ≤ rt
              · have hbr2 : (4294967296 : Int) ≤ (rt : Int) := by omega
                simp [-Int.natCast_add, -Int.natCast_mul, hcs, r_173_13, r_173_14, r_173_15, g4, g6, g7, g8, g9, g10, g11, g12, g14, g15, eg, er, hbr, hbr2]
                have hgl' : g' < 4294967296 := by
                  by_cases h : g' = 4294967296
                  · subst h; rw [Nat.mul_comm] at hgx'; omega
                  · omega
                refine ⟨g', rfl, rt, hgx', hq', hgl', ?_⟩
                have h1 : g' * next ≤ 4294967295 * 4294967295 := Nat.mul_le_mul (by omega) (by omega)
                omega
              · have hbr2 : ¬ (4294967296 : Int) ≤ (rt : Int) := by omega
                simp [-Int.natCast_add, -Int.natCast_mul, hcs, r_173_13, r_173_14, r_173_15, g4, g6, g7, g8, g9, g10, g11, g12, g14, g15, eg, er, hbr, hbr2]
                exact ⟨g', by omega, rfl, rt, rfl, hgx', hq', by omega, by omega⟩
            · simp (config := {maxSteps := 4000000}) [-Int.natCast_add, -Int.natCast_mul, r_173_12, g4, g6, g7, g8, g9, g10, g11, g12, g14, g15, hcB, hcB2, ew1, ew3, hi3, hr3, eA3, em, s1, s2, hgt]
              exact ⟨c, rfl, rest, hgx, hq, by omega, by rw [← hrA, ← hcn2]; omega⟩
        · clear g4 g6 g7 g8 g9 g10 g11 g12 ht ρ hgr hgB hqle hrt
          rintro t G' ⟨gg, rest, rfl, ht, g4, g6, g7, g8, g9, g10, g11, g12, g14, hgx, hq, hgl, hgn⟩
          obtain ⟨ρ, rfl⟩ := toT ht
          simp only [get_T, Nat.reduceLT] at g4 g6 g7 g8 g9 g10 g11 g12 g14
          have hq1 := gs.fine hgx hgl hgn
          have hVK : V < 4294967296 ^ (K + 1) := by
            rw [hk, Nat.pow_succ]; omega
          simp [-Int.natCast_add, r_173_16, g4, g6, g7, g8, g9, g10, g11, g12, g14, ew1, ew4, helem _ _ hP, hslice]
          refine (num_take_does (n := K + 1) hP hLok (by omega) hv3 hslP hfP hgl (by omega) (by omega)).mono ?_
          rintro _ G4 ⟨X0, cc, rfl, hXb0, hxb, hwon0, hs⟩
          rw [hVt] at hs
          obtain ⟨hc1, hc2⟩ := take_fine gs hq hq1 hs (win_lt hwon0.2.1 i (K + 1)) hVK
          have hx4 := hxb.ext hfP hx
          have hv4 := hv3.off hxb hslP
          have hPQ4 : Heap.blk G4 PQ = .row false T_uint32 (u32s Qs) := by rw [hxb.2 PQ (blk_lt hPQb) (by simp; omega)]; exact hPQb
          have hml := Nat.mod_lt (win L i (K + 1)) gs.V0
          have hdm0 := (Nat.div_add_mod (win L i (K + 1)) V).symm
          by_cases hcc : cc = 0
          · obtain ⟨hg1, hwin⟩ := hc1 hcc
            obtain ⟨X, hXe⟩ : ∃ X, X = X0 := ⟨_, rfl⟩
            obtain ⟨g, hge⟩ : ∃ g, g = gg := ⟨_, rfl⟩
            subst hXe hge
            have hXb := hXb0
            have hwon := hwon0
            have hdm : win L i (K + 1) = V * g + win L i (K + 1) % V := by rw [hg1]; exact hdm0
            simp [-Int.natCast_add, hcc, r_173_19, g4, g6, g7, g8, g9, g10, g11, g12, g14]
            refine (num_low_uint64_does hx4.1).mono ?_
            rintro _ G6 ⟨rfl, hx6⟩
            have hPQ6 := hx6.blk hPQ4
            have hP6 := hx6.blk hXb
            have hPQl := blk_lt hPQ6
            obtain ⟨hj1, _⟩ := own_at (k := .i64) (cap := N) (o := 0) (n := N) hPQ6 (by omega) (show i < N by omega)
            rw [hSQ, Nat.zero_add] at hj1
            have hile : i + 1 ≤ Qs.length := by omega
            have hfPQ : G.size ≤ PQ := by omega
            rw [Nat.mod_eq_of_lt hgl]
            obtain ⟨hd1, hd2⟩ := div_step (BB := 4294967296) (n := a.length + 1) (q := g) rfl hLlen hwon (by omega) (show i < Qs.length by omega) hU (by rw [hk]; exact hVlt) hlt hdm hml hwin
            simp [-Int.natCast_add, r_173_20, hj1, hPQ6, hile, hfPQ, g4, g6, g7, g8, g9, g10, g11, g12, ew5]
            refine ⟨i, by omega, rfl, (hx4.trans hx6).set hfPQ, (hv4.mono hx6).off ExtB.refl.set hslPQ, X, by rw [blk_set_ne (by omega)]; exact hP6, Qs.set i g, by rw [blk_set_self hPQl, u32s_set], by rw [hwon.1, hLlen], hwon.2.1, by simpa using hQlen, LimOk_set hQok hgl, by omega, hd2, hd1⟩
          · obtain ⟨hg1, hgive⟩ := hc2 hcc
            obtain ⟨g, rfl⟩ : ∃ g, gg = g + 1 := ⟨win L i (K + 1) / V, hg1⟩
            have hg2 : g = win L i (K + 1) / V := Nat.succ.inj hg1
            have eg : IntKind.u64.wrap (((g + 1 : Nat) : Int) - 1) = (g : Int) := by rw [wrapu64]; omega
            have hdm : win L i (K + 1) = V * g + win L i (K + 1) % V := by rw [hg2]; exact hdm0
            simp [-Int.natCast_add, hcc, r_173_17, r_173_18, g4, g6, g7, g8, g9, g10, g11, g12, g14, eg, ew1, ew4, helem _ _ hXb0, hslice]
            refine (num_give_does (n := K + 1) hXb0 hwon0.2.1 (by rw [hwon0.1]; omega) hv4 hslP hfP (by omega) (by omega)).mono ?_
            rintro _ G5 ⟨X, c2, hXb, hxb2, hwon2, hs2⟩
            rw [hVt] at hs2
            have hwin := hgive _ _ hs2 (win_lt hwon2.2.1 i (K + 1))
            replace hPQ4 : Heap.blk G5 PQ = .row false T_uint32 (u32s Qs) := by rw [hxb2.2 PQ (blk_lt hPQ4) (by simp; omega)]; exact hPQ4
            replace hx4 := hxb2.ext hfP hx4
            replace hv4 := hv4.off hxb2 hslP
            have hwon := hwon0.trans hwon2
            replace hgl : g < 4294967296 := by omega
            simp [-Int.natCast_add, r_173_19, g4, g6, g7, g8, g9, g10, g11, g12]
            refine (num_low_uint64_does hx4.1).mono ?_
            rintro _ G6 ⟨rfl, hx6⟩
            have hPQ6 := hx6.blk hPQ4
            have hP6 := hx6.blk hXb
            have hPQl := blk_lt hPQ6
            obtain ⟨hj1, _⟩ := own_at (k := .i64) (cap := N) (o := 0) (n := N) hPQ6 (by omega) (show i < N by omega)
            rw [hSQ, Nat.zero_add] at hj1
            have hile : i + 1 ≤ Qs.length := by omega
            have hfPQ : G.size ≤ PQ := by omega
            rw [Nat.mod_eq_of_lt hgl]
            obtain ⟨hd1, hd2⟩ := div_step (BB := 4294967296) (n := a.length + 1) (q := g) rfl hLlen hwon (by omega) (show i < Qs.length by omega) hU (by rw [hk]; exact hVlt) hlt hdm hml hwin
            simp [-Int.natCast_add, r_173_20, hj1, hPQ6, hile, hfPQ, g4, g6, g7, g8, g9, g10, g11, g12, ew5]
            refine ⟨i, by omega, rfl, (hx4.trans hx6).set hfPQ, (hv4.mono hx6).off ExtB.refl.set hslPQ, X, by rw [blk_set_ne (by omega)]; exact hP6, Qs.set i g, by rw [blk_set_self hPQl, u32s_set], by rw [hwon.1, hLlen], hwon.2.1, by simpa using hQlen, LimOk_set hQok hgl, by omega, hd2, hd1⟩
    · clear hP3 hPQ3 hv0 hl0 hok0 L0 g0 g1 g6 ht ρ hx hv3 G3
      rintro t G3 ⟨L, Qs, ht, g4, g6, g7, g9, hx, hP, hPQb, hLlen, hLok, hQlen, hQok, hU, hlt⟩
      obtain ⟨ρ, rfl⟩ := toT ht
      simp only [get_T, Nat.reduceLT] at g4 g6 g7 g9
      have helem : elemOk G3 T_uint32 SU = true := by rw [← hSU]; exact own_elem hP
      have hslice : ∃ cap', sliceA 1 SU none (some (.int .i64 (K : Int))) none = some (.slice (some ⟨P, 0, none⟩) K cap') := by
        rw [← hSU, slice_own (lo := 0) (hi := K) rfl (by simp) (by omega) (by omega), Nat.zero_add, Nat.sub_zero]
        exact ⟨_, rfl⟩
      obtain ⟨capt, hslice⟩ := hslice
      simp [-Int.natCast_add, r_173_21, g4, g6, g7, g9, helem, hslice]
      have hlim := lim_own (cap := capt) hP hLok (show 0 + K ≤ L.length by omega)
      have hlv : natL ((L.drop 0).take K) = natL L := by
        have h1 := natL_win (L := L) (Nat.le_refl _)
        rw [List.take_length, hLlen, show a.length + 1 = K + (a.length + 1 - K) by omega, win_split, Nat.zero_add] at h1
        have h2 : win L K (a.length + 1 - K) = 0 := by
          by_cases h0 : win L K (a.length + 1 - K) = 0
          · exact h0
          · have := Nat.le_mul_of_pos_right (4294967296 ^ K) (by omega : 0 < win L K (a.length + 1 - K))
            rw [hk] at this h1; omega
        rw [natL_dt (by omega), h1, h2, Nat.mul_zero, Nat.add_zero]
      have hll : ((L.drop 0).take K).length = K := by simp; omega
      refine (num_back_does hlim hx.1 (by omega) (by omega)).mono ?_
      rintro r G4 ⟨⟨o, ho, hov, hol⟩, hx4⟩
      rw [hlv] at hov
      have hV0 : 0 < V := by omega
      have e1 : U0 / V = natL Qs := by rw [hU, Nat.mul_comm, Nat.mul_add_div hV0, Nat.div_eq_of_lt hlt, Nat.add_zero]
      have e2 : U0 % V = natL L := by rw [hU, Nat.mul_comm, Nat.mul_add_mod, Nat.mod_eq_of_lt hlt]
      refine fun _ => ⟨SQ, Qs, r, ⟨rfl, rfl⟩, ⟨by rw [← hSQ, ← hQlen]; exact (Own.mk (fl := 0) (hx4.blk hPQb) (by simp) (Nat.zero_le _)).sl, hQok⟩, e1.symm, by omega, o, ho, by rw [hov, e2], by omega⟩
end Go.Proofs.YtjlohmnnldbjoaaGreat.AI

/- num.Div. -/
namespace Go.Proofs.YtjlohmnnldbjoaaGreat.AI
open Go
set_option maxHeartbeats 4000000

variable {fl : Nat} {H : Heap} {R : PostP} {v w : Value} {i j : Bool × List Nat}

theorem tdiv_parts (x y : Int) : (if (decide (x < 0) != decide (y < 0)) = true then -((x.natAbs / y.natAbs : Nat) : Int) else ((x.natAbs / y.natAbs : Nat) : Int)) = x.tdiv y := by
  have e1 : ∀ n : Int, 0 ≤ n → (n.natAbs : Int) = n := fun n h => Int.natAbs_of_nonneg h
  have e2 : ∀ n : Int, n < 0 → (n.natAbs : Int) = -n := fun n h => by omega
  rw [Int.natCast_ediv]
  by_cases hx : x < 0 <;> by_cases hy : y < 0 <;> simp only [hx, hy, decide_true, decide_false, bne_self_eq_false, Bool.false_eq_true, if_false, Bool.true_bne, Bool.false_bne, Bool.not_false, if_true]
  · rw [e2 x hx, e2 y hy, ← Int.tdiv_eq_ediv_of_nonneg (by omega), Int.neg_tdiv, Int.tdiv_neg, Int.neg_neg]
  · rw [e2 x hx, e1 y (by omega), ← Int.tdiv_eq_ediv_of_nonneg (by omega), Int.neg_tdiv, Int.neg_neg]
  · rw [e1 x (by omega), e2 y hy, ← Int.tdiv_eq_ediv_of_nonneg (by omega), Int.tdiv_neg, Int.neg_neg]
  · rw [e1 x (by omega), e1 y (by omega), ← Int.tdiv_eq_ediv_of_nonneg (by omega)]
theorem tmod_parts (x y : Int) : (if decide (x < 0) = true then -((x.natAbs % y.natAbs : Nat) : Int) else ((x.natAbs % y.natAbs : Nat) : Int)) = x.tmod y := by
  have h1 := Int.natAbs_tmod x y
  by_cases hx : x < 0
  · simp only [hx, decide_true, if_true]
    have h2 : x.tmod y ≤ 0 := by
      have := Int.tmod_nonneg (a := -x) y (by omega)
      rw [Int.neg_tmod] at this; omega
    omega
  · simp only [hx, decide_false, Bool.false_eq_true, if_false]
    have h2 := Int.tmod_nonneg (a := x) y (by omega)
    omega

theorem num_Div_does (h : IntV H v i) (k : IntV H w j) (hf : fl ≤ H.size) (hn : i.2.length < 536870912) (hm : j.2.length < 536870912) (hj0 : valI j ≠ 0) :
    Does env fl f_152 [v, w] H (fun r H' => (∃ q m, r = .tuple #[q, m, .int .i64 0] ∧ IntV H' q (canonI ((valI i).tdiv (valI j))) ∧ IntV H' m (canonI ((valI i).tmod (valI j)))) ∧ Ext H H') R := by
  have k0 := h
  have k1 := k
  obtain ⟨s, rfl, hs⟩ := h
  obtain ⟨u, rfl, hu⟩ := k
  refine does_ext e_152 hf (h := ?_)
  intro ρ h0
  simp [s_152, r_152_0, h0]
  generalize hG : Array.push (Array.push (Array.push (Array.push H _) _) _) _ = G
  have hx : Ext H G := by rw [← hG]; exact (Ext.refl H).push.push.push.push
  have b0 : Heap.blk G H.size = .row false T_api_Int [.bool i.1, s] := by rw [← hG]; simp
  have b1 : Heap.blk G (H.size + 1) = .row false T_api_Int [.bool j.1, u] := by rw [← hG]; simp
  have b2 : Heap.blk G (H.size + 2) = .row false T_api_Int [.bool false, .slice none 0 0] := by rw [← hG]; simp
  have b3 : Heap.blk G (H.size + 3) = .row false T_api_Int [.bool false, .slice none 0 0] := by rw [← hG]; simp
  have hz : H.size + 3 < G.size := blk_lt b3
  clear hG
  replace k0 := k0.mono hx
  replace k1 := k1.mono hx
  refine W_draw ?_
  simp [r_152_1, h0, b0, b1]
  refine (limbs_does k0 (by omega) (by omega)).mono ?_
  rintro x G2 ⟨k2, hx2⟩
  (try replace b0 := hx2.blk b0); (try replace b1 := hx2.blk b1); (try replace b2 := hx2.blk b2); (try replace b3 := hx2.blk b3); (try replace hx := hx.trans hx2); (try replace k0 := k0.mono hx2); (try replace k1 := k1.mono hx2); (try replace k2 := k2.mono hx2); (try replace k3 := k3.mono hx2); (try replace k4 := k4.mono hx2); (try replace k5 := k5.mono hx2)
  try simp [h0, b0, b1]
  refine (limbs_does k1 hx.1 (by omega)).mono ?_
  rintro y G2 ⟨k3, hx2⟩
  (try replace b0 := hx2.blk b0); (try replace b1 := hx2.blk b1); (try replace b2 := hx2.blk b2); (try replace b3 := hx2.blk b3); (try replace hx := hx.trans hx2); (try replace k0 := k0.mono hx2); (try replace k1 := k1.mono hx2); (try replace k2 := k2.mono hx2); (try replace k3 := k3.mono hx2); (try replace k4 := k4.mono hx2); (try replace k5 := k5.mono hx2)
  clear hs hu hz hx2
  have l1 := len_digits_val k0.ok
  have l2 := len_digits_val k1.ok
  have hl0 : digits (valI j).natAbs ≠ [] := by intro h; exact hj0 (by have := digits_eq_nil.1 h; omega)
  have hl1 := List.length_pos_iff.2 hl0
  have e1 := tdiv_parts (valI i) (valI j)
  have e2 := tmod_parts (valI i) (valI j)
  simp [r_152_2, r_152_4, h0, k3.slen, hl0]
  refine (num_cmp_does k2 k3 hx.1 (by omega)).mono ?_
  rintro _ G2 ⟨rfl, hx2⟩
  (try replace b0 := hx2.blk b0); (try replace b1 := hx2.blk b1); (try replace b2 := hx2.blk b2); (try replace b3 := hx2.blk b3); (try replace hx := hx.trans hx2); (try replace k0 := k0.mono hx2); (try replace k1 := k1.mono hx2); (try replace k2 := k2.mono hx2); (try replace k3 := k3.mono hx2); (try replace k4 := k4.mono hx2); (try replace k5 := k5.mono hx2)
  have hcmp := cmpL_digits (valI i).natAbs (valI j).natAbs
  rw [cmpZ_cast] at hcmp
  generalize cmpL (digits (valI i).natAbs) (digits (valI j).natAbs) = c at hcmp
  by_cases hlt : (valI i).natAbs < (valI j).natAbs
  · have hcl : c < 0 := by rw [hcmp, if_pos hlt]; omega
    simp [r_152_5, h0, hcl, b0]
    refine (neg_does k0 hx.1 (by omega)).mono ?_
    rintro _ G2 ⟨rfl, hx2⟩
    (try replace b0 := hx2.blk b0); (try replace b1 := hx2.blk b1); (try replace b2 := hx2.blk b2); (try replace b3 := hx2.blk b3); (try replace hx := hx.trans hx2); (try replace k0 := k0.mono hx2); (try replace k1 := k1.mono hx2); (try replace k2 := k2.mono hx2); (try replace k3 := k3.mono hx2); (try replace k4 := k4.mono hx2); (try replace k5 := k5.mono hx2)
    try simp [h0]
    refine (made_does ((valI i).tmod (valI j)) k2 hx.1 (by omega) (by rw [natL_digits, ← e2, Nat.mod_eq_of_lt hlt])).mono ?_
    obtain ⟨s1, hsv, hs1⟩ : ∃ s1, s1 = Value.slice none 0 0 ∧ Lim G2 s1 (canonI ((valI i).tdiv (valI j))).2 := by
      refine ⟨_, rfl, ?_⟩
      rw [← e1, Nat.div_eq_of_lt hlt]
      have : canonI (if (decide (valI i < 0) != decide (valI j < 0)) = true then -((0 : Nat) : Int) else ((0 : Nat) : Int)) = (false, []) := by split <;> exact canon_zero
      rw [this]; exact Lim.nil
    have hb1 : (canonI ((valI i).tdiv (valI j))).1 = false := by
      rw [← e1, Nat.div_eq_of_lt hlt]; split <;> simp [canonI]
    rw [← hsv, ← hb1]
    rintro _ G2 ⟨⟨s2, rfl, hs2⟩, hx2⟩
    (try replace b0 := hx2.blk b0); (try replace b1 := hx2.blk b1); (try replace b2 := hx2.blk b2); (try replace b3 := hx2.blk b3); (try replace hx := hx.trans hx2); (try replace k0 := k0.mono hx2); (try replace k1 := k1.mono hx2); (try replace k2 := k2.mono hx2); (try replace k3 := k3.mono hx2); (try replace k4 := k4.mono hx2); (try replace k5 := k5.mono hx2)
    have hz := blk_lt b3
    have hz2 := blk_lt b2
    simp [h0, b2, b3, hs1.cells, hs1.plain, hs2.cells, hs2.plain, hz, hz2]
    refine fun _ => ⟨_, _, ⟨rfl, rfl⟩, ⟨s1, rfl, ?_⟩, ⟨s2, rfl, ?_⟩⟩
    · exact ((hs1.mono hx2).setT b2 (by decide)).setT (by rw [blk_set_ne (by omega)]; exact b3) (by decide)
    · exact (hs2.setT b2 (by decide)).setT (by rw [blk_set_ne (by omega)]; exact b3) (by decide)
  · have hcl : ¬ c < 0 := by rw [hcmp, if_neg hlt]; split <;> omega
    by_cases h1 : (digits (valI j).natAbs).length = 1
    · have hd0 : (0 : Nat) < (digits (valI j).natAbs).length := by omega
      obtain ⟨d, hd⟩ : ∃ d, digits (valI j).natAbs = [d] := by
        obtain ⟨d, hd⟩ := List.length_eq_one_iff.1 h1; exact ⟨d, hd⟩
      have hdv : (valI j).natAbs = d := by rw [← natL_digits (valI j).natAbs, hd]; simp [natL]
      have hdl : d < 4294967296 := k3.ok d (by rw [hd]; simp)
      have hdp : 0 < d := by omega
      rw [hd] at k3
      have hia := k3.ia (k := .i64) (j := 0) (by simp)
      have hld := k3.load (j := 0) (by simp) (Ext.refl _)
      simp at hia hld
      simp [r_152_6, r_152_7, h0, hcl, hd, k3.slen, hia, hld]
      refine (num_small_does k2 hx.1 (by omega) hdp hdl).mono ?_
      rintro _ G2 ⟨⟨q1, o, rfl, k4, hov, hol⟩, hx2⟩
      (try replace b0 := hx2.blk b0); (try replace b1 := hx2.blk b1); (try replace b2 := hx2.blk b2); (try replace b3 := hx2.blk b3); (try replace hx := hx.trans hx2); (try replace k0 := k0.mono hx2); (try replace k1 := k1.mono hx2); (try replace k2 := k2.mono hx2); (try replace k3 := k3.mono hx2); (try replace k4 := k4.mono hx2); (try replace k5 := k5.mono hx2)
      have hmd : natL (digits (valI i).natAbs) % d < 4294967296 := Nat.lt_trans (Nat.mod_lt _ hdp) hdl
      rw [natL_digits] at hov hmd ⊢
      generalize hrm : (valI i).natAbs % d = rm at *
      simp [h0]
      refine W_draw ?_
      simp [r_152_8, h0, b0, b1]
      refine (neg_does k0 (by have := hx.1; omega) (by omega)).mono ?_
      rintro _ G2 ⟨rfl, hx2⟩
      (try replace b0 := hx2.blk b0); (try replace b1 := hx2.blk b1); (try replace b2 := hx2.blk b2); (try replace b3 := hx2.blk b3); (try replace hx := hx.trans hx2); (try replace k0 := k0.mono hx2); (try replace k1 := k1.mono hx2); (try replace k2 := k2.mono hx2); (try replace k3 := k3.mono hx2); (try replace k4 := k4.mono hx2); (try replace k5 := k5.mono hx2)
      try simp [h0, b0, b1]
      refine (neg_does k1 (by have := hx.1; omega) (by omega)).mono ?_
      rintro _ G2 ⟨rfl, hx2⟩
      (try replace b0 := hx2.blk b0); (try replace b1 := hx2.blk b1); (try replace b2 := hx2.blk b2); (try replace b3 := hx2.blk b3); (try replace hx := hx.trans hx2); (try replace k0 := k0.mono hx2); (try replace k1 := k1.mono hx2); (try replace k2 := k2.mono hx2); (try replace k3 := k3.mono hx2); (try replace k4 := k4.mono hx2); (try replace k5 := k5.mono hx2)
      try simp [h0]
      refine (made_does ((valI i).tdiv (valI j)) k4 (by have := hx.1; omega) (by omega) (by rw [hov, ← e1, hdv])).mono ?_
      rintro _ G2 ⟨⟨s1, rfl, hs1⟩, hx2⟩
      (try replace b0 := hx2.blk b0); (try replace b1 := hx2.blk b1); (try replace b2 := hx2.blk b2); (try replace b3 := hx2.blk b3); (try replace hx := hx.trans hx2); (try replace k0 := k0.mono hx2); (try replace k1 := k1.mono hx2); (try replace k2 := k2.mono hx2); (try replace k3 := k3.mono hx2); (try replace k4 := k4.mono hx2); (try replace k5 := k5.mono hx2)
      try simp [h0, b0, b1]
      refine (neg_does k0 (by have := hx.1; omega) (by omega)).mono ?_
      rintro _ G2 ⟨rfl, hx2⟩
      (try replace b0 := hx2.blk b0); (try replace b1 := hx2.blk b1); (try replace b2 := hx2.blk b2); (try replace b3 := hx2.blk b3); (try replace hx := hx.trans hx2); (try replace k0 := k0.mono hx2); (try replace k1 := k1.mono hx2); (try replace k2 := k2.mono hx2); (try replace k3 := k3.mono hx2); (try replace k4 := k4.mono hx2); (try replace k5 := k5.mono hx2)
      replace hs1 := hs1.mono hx2
      try simp [h0]
      generalize hG3 : Array.push G2 _ = G3
      have hx2 : Ext G2 G3 := by rw [← hG3]; exact (Ext.refl _).push
      have k5 : Lim G3 (.slice (some ⟨G2.size, 0, none⟩) 1 1) [rm] := by
        refine ⟨(Own.mk (fl := 0) (cap := 1) (e := T_uint32) (sz := 1) (n := 1) (cs := u32s [rm]) ?_ (by simp) (Nat.zero_le _)).sl, fun x hx => by simp at hx; omega⟩
        rw [← hG3, blk_push_self]; rfl
      (try replace b0 := hx2.blk b0); (try replace b1 := hx2.blk b1); (try replace b2 := hx2.blk b2); (try replace b3 := hx2.blk b3); (try replace hx := hx.trans hx2); (try replace k0 := k0.mono hx2); (try replace k1 := k1.mono hx2); (try replace k2 := k2.mono hx2); (try replace k3 := k3.mono hx2); (try replace k4 := k4.mono hx2); (try replace k5 := k5.mono hx2)
      replace hs1 := hs1.mono hx2
      refine (made_does ((valI i).tmod (valI j)) k5 (by have := hx.1; omega) (by simp) (by rw [← e2, hdv, hrm]; simp [natL])).mono ?_
      rintro _ G2 ⟨⟨s2, rfl, hs2⟩, hx2⟩
      (try replace b0 := hx2.blk b0); (try replace b1 := hx2.blk b1); (try replace b2 := hx2.blk b2); (try replace b3 := hx2.blk b3); (try replace hx := hx.trans hx2); (try replace k0 := k0.mono hx2); (try replace k1 := k1.mono hx2); (try replace k2 := k2.mono hx2); (try replace k3 := k3.mono hx2); (try replace k4 := k4.mono hx2); (try replace k5 := k5.mono hx2)
      have hz := blk_lt b3
      have hz2 := blk_lt b2
      simp [h0, b2, b3, hs1.cells, hs1.plain, hs2.cells, hs2.plain, hz, hz2]
      refine fun _ => ⟨_, _, ⟨rfl, rfl⟩, ⟨s1, rfl, ?_⟩, ⟨s2, rfl, ?_⟩⟩
      · exact ((hs1.mono hx2).setT b2 (by decide)).setT (by rw [blk_set_ne (by omega)]; exact b3) (by decide)
      · exact (hs2.setT b2 (by decide)).setT (by rw [blk_set_ne (by omega)]; exact b3) (by decide)
    · have hlt2 : 2 ≤ (digits (valI j).natAbs).length := by omega
      have hle : (digits (valI j).natAbs).length ≤ (digits (valI i).natAbs).length := digits_mono (by omega)
      have h1' : ¬ ((digits (valI j).natAbs).length : Int) = 1 := by omega
      simp [r_152_6, r_152_9, h0, hcl, h1, h1', k3.slen]
      refine (num_divide_does k2 k3 hx.1 (by omega) hlt2 hle (digits_last (by omega))).mono ?_
      rintro _ G2 ⟨⟨q1, o, q2, o2, rfl, k4, hov, hol, k5, hov2, hol2⟩, hx2⟩
      (try replace b0 := hx2.blk b0); (try replace b1 := hx2.blk b1); (try replace b2 := hx2.blk b2); (try replace b3 := hx2.blk b3); (try replace hx := hx.trans hx2); (try replace k0 := k0.mono hx2); (try replace k1 := k1.mono hx2); (try replace k2 := k2.mono hx2); (try replace k3 := k3.mono hx2); (try replace k4 := k4.mono hx2); (try replace k5 := k5.mono hx2)
      rw [natL_digits, natL_digits] at hov hov2
      simp [h0]
      refine W_draw ?_
      simp [r_152_10, h0, b0, b1]
      refine (neg_does k0 (by have := hx.1; omega) (by omega)).mono ?_
      rintro _ G2 ⟨rfl, hx2⟩
      (try replace b0 := hx2.blk b0); (try replace b1 := hx2.blk b1); (try replace b2 := hx2.blk b2); (try replace b3 := hx2.blk b3); (try replace hx := hx.trans hx2); (try replace k0 := k0.mono hx2); (try replace k1 := k1.mono hx2); (try replace k2 := k2.mono hx2); (try replace k3 := k3.mono hx2); (try replace k4 := k4.mono hx2); (try replace k5 := k5.mono hx2)
      try simp [h0, b0, b1]
      refine (neg_does k1 (by have := hx.1; omega) (by omega)).mono ?_
      rintro _ G2 ⟨rfl, hx2⟩
      (try replace b0 := hx2.blk b0); (try replace b1 := hx2.blk b1); (try replace b2 := hx2.blk b2); (try replace b3 := hx2.blk b3); (try replace hx := hx.trans hx2); (try replace k0 := k0.mono hx2); (try replace k1 := k1.mono hx2); (try replace k2 := k2.mono hx2); (try replace k3 := k3.mono hx2); (try replace k4 := k4.mono hx2); (try replace k5 := k5.mono hx2)
      try simp [h0]
      refine (made_does ((valI i).tdiv (valI j)) k4 (by have := hx.1; omega) (by omega) (by rw [hov, ← e1])).mono ?_
      rintro _ G2 ⟨⟨s1, rfl, hs1⟩, hx2⟩
      (try replace b0 := hx2.blk b0); (try replace b1 := hx2.blk b1); (try replace b2 := hx2.blk b2); (try replace b3 := hx2.blk b3); (try replace hx := hx.trans hx2); (try replace k0 := k0.mono hx2); (try replace k1 := k1.mono hx2); (try replace k2 := k2.mono hx2); (try replace k3 := k3.mono hx2); (try replace k4 := k4.mono hx2); (try replace k5 := k5.mono hx2)
      try simp [h0, b0, b1]
      refine (neg_does k0 (by have := hx.1; omega) (by omega)).mono ?_
      rintro _ G2 ⟨rfl, hx2⟩
      (try replace b0 := hx2.blk b0); (try replace b1 := hx2.blk b1); (try replace b2 := hx2.blk b2); (try replace b3 := hx2.blk b3); (try replace hx := hx.trans hx2); (try replace k0 := k0.mono hx2); (try replace k1 := k1.mono hx2); (try replace k2 := k2.mono hx2); (try replace k3 := k3.mono hx2); (try replace k4 := k4.mono hx2); (try replace k5 := k5.mono hx2)
      replace hs1 := hs1.mono hx2
      try simp [h0]
      refine (made_does ((valI i).tmod (valI j)) k5 (by have := hx.1; omega) (by omega) (by rw [hov2, ← e2])).mono ?_
      rintro _ G2 ⟨⟨s2, rfl, hs2⟩, hx2⟩
      (try replace b0 := hx2.blk b0); (try replace b1 := hx2.blk b1); (try replace b2 := hx2.blk b2); (try replace b3 := hx2.blk b3); (try replace hx := hx.trans hx2); (try replace k0 := k0.mono hx2); (try replace k1 := k1.mono hx2); (try replace k2 := k2.mono hx2); (try replace k3 := k3.mono hx2); (try replace k4 := k4.mono hx2); (try replace k5 := k5.mono hx2)
      have hz := blk_lt b3
      have hz2 := blk_lt b2
      simp [h0, b2, b3, hs1.cells, hs1.plain, hs2.cells, hs2.plain, hz, hz2]
      refine fun _ => ⟨_, _, ⟨rfl, rfl⟩, ⟨s1, rfl, ?_⟩, ⟨s2, rfl, ?_⟩⟩
      · exact ((hs1.mono hx2).setT b2 (by decide)).setT (by rw [blk_set_ne (by omega)]; exact b3) (by decide)
      · exact (hs2.setT b2 (by decide)).setT (by rw [blk_set_ne (by omega)]; exact b3) (by decide)
end Go.Proofs.YtjlohmnnldbjoaaGreat.AI

/- Drawn regions of which pairs are watched. -/
namespace Go.Proofs.YtjlohmnnldbjoaaGreat.AI
open Go

abbrev Log := List (List Nat × List Nat)

/-- a region, with what it touches noted. -/
def WRL (E : Env) (fl : Nat) : List SOper → Tmps → Heap → Log → (Tmps → Heap → Log → Prop) → Prop
  | [], t, H, lg, Z => Z t H lg
  | o :: r, t, H, lg, Z => if isWanted t o.g then WS E fl t H o.op (fun v H' => WRL E fl r (put t o.dst v) H' (touch t o.op :: lg) Z) (fun _ => False) else WRL E fl r (put t o.dst undef) H (([], []) :: lg) Z

variable {E : Env} {fl : Nat} {t : Tmps} {H : Heap} {Q : PostX} {R : PostP}

theorem WRL_draw (bef : List Nat) (pairs : List (Nat × Nat)) {Z : Tmps → Heap → Prop} : ∀ (ops : List SOper) (i : Nat) (t : Tmps) (H : Heap) (log : Log),
    WRL E fl ops t H log (fun t' H' lg => apartAll lg.reverse pairs = true ∧ Z t' H') → ∃ n t' H', drawA (callA E n) fl bef pairs i ops t H none log = .fin .normal t' H' ∧ Z t' H'
  | [], i, t, H, log, h => ⟨0, t, H, by simp only [drawA]; rw [if_pos h.1], h.2⟩
  | o :: r, i, t, H, log, h => by
    simp only [WRL] at h
    split at h
    · rename_i hw
      obtain ⟨n, hn⟩ := WS_run h
      cases hs : stepA (callA E n) fl t H o.op with
      | bad => rw [hs] at hn; exact absurd hn id
      | pan v => rw [hs] at hn; exact absurd hn id
      | ok rr =>
        obtain ⟨v, H'⟩ := rr
        rw [hs] at hn
        obtain ⟨m, t2, H2, hm, hz⟩ := WRL_draw bef pairs r (i + 1) _ _ _ hn
        refine ⟨max n m, t2, H2, ?_, hz⟩
        have h1 := stepA_mono (callA_mono1 E n (max n m) (by omega)) (Nat.le_refl fl) (t := t) (H := H) (so := o.op) (by rw [hs]; simp)
        have h2 := drawA_mono (callA_mono1 E m (max n m) (by omega)) (Nat.le_refl fl) bef pairs r (i + 1) (put t o.dst v) H' none (touch t o.op :: log) (by rw [hm]; simp)
        simp only [drawA, hangs, Bool.false_eq_true, if_false, hw, if_true, h1, hs, h2]; exact hm
    · rename_i hw
      obtain ⟨m, t2, H2, hm, hz⟩ := WRL_draw bef pairs r (i + 1) _ _ _ h
      exact ⟨m, t2, H2, by simp only [drawA, hangs, Bool.false_eq_true, if_false, hw]; exact hm, hz⟩

theorem W_drawL {ops : List SOper} {bef : List Nat} {pairs : List (Nat × Nat)} (h : WRL E fl ops t H [] (fun t' H' lg => apartAll lg.reverse pairs = true ∧ Q .normal t' H')) : W E fl (.draw ops bef pairs) t H Q R := by
  obtain ⟨n, t', H', hn, hz⟩ := WRL_draw bef pairs ops 0 t H [] h
  refine ⟨n + 1, ?_⟩
  have h2 := drawA_mono (callA_mono1 E n (n+1) (by omega)) (Nat.le_refl fl) bef pairs ops 0 t H none [] (by rw [hn]; simp)
  simp only [execA, h2, hn]; exact hz

section
variable {Z : Tmps → Heap → Log → Prop} {lg : Log} {d : Option Nat} {op : SOp} {r : List SOper}
@[simp ↓] theorem WRL_nil : WRL E fl [] t H lg Z = Z t H lg := nr rfl
@[simp ↓] theorem WRL_cons : WRL E fl (⟨d, none, op⟩ :: r) t H lg Z = WS E fl t H op (fun v H' => WRL E fl r (put t d v) H' (touch t op :: lg) Z) (fun _ => False) := by simp [WRL, isWanted]
@[simp ↓] theorem WRL_g {j : Nat} {w : Bool} : WRL E fl (⟨d, some (j, w), op⟩ :: r) t H lg Z = if wantB w (get t j) = true then WS E fl t H op (fun v H' => WRL E fl r (put t d v) H' (touch t op :: lg) Z) (fun _ => False) else WRL E fl r (put t d undef) H (([], []) :: lg) Z := by
  have h : isWanted t (some (j, w)) = wantB w (get t j) := by
    simp only [isWanted]
    generalize get t j = v
    cases v <;> rfl
  show (if isWanted t (some (j, w)) = true then _ else _) = _
  rw [h]
theorem WRL_congr {t t' : Tmps} {ops : List SOper} {lg : Log} (h : t = t') : WRL E fl ops t H lg Z = WRL E fl ops t' H lg Z := by rw [h]
attribute [congr] WRL_congr
@[simp] theorem blkOf_ptr {p : Addr} : blkOf (.pointer (some p)) = [p.block] := nr rfl
@[simp] theorem blkOf_sl {p : Addr} {n c : Nat} : blkOf (.slice (some p) n c) = [p.block] := nr rfl
@[simp] theorem blkOf_snil {n c : Nat} : blkOf (.slice none n c) = [] := nr rfl
@[simp] theorem blkW_sl {p : Addr} {n c : Nat} : blkW (.slice (some p) n c) = if n = 0 ∧ c = 0 then [] else [p.block] := nr rfl
@[simp] theorem blkW_snil {n c : Nat} : blkW (.slice none n c) = [] := nr rfl
attribute [simp] touch apartAll meets
end

end Go.Proofs.YtjlohmnnldbjoaaGreat.AI
