/- Part 19 of the proof: AiRefB7, AiRefB8, AiRefC1, AiRefC2, AiLaw3. -/
import Derived.Test.YtjlohmnnldbjoaaGreatM07
import Derived.Test.YtjlohmnnldbjoaaGreatM17
set_option linter.unusedVariables false
set_option linter.unusedSimpArgs false
set_option linter.unusedSectionVars false

/- The reference's ends: NormExt. -/
namespace Go.Proofs.YtjlohmnnldbjoaaGreat.AI
open Go
set_option maxHeartbeats 4000000

variable {fl : Nat} {H G : Heap} {R : PostP} {v w : Value} {e f : RawE}

theorem r1_NormExt_does (h : ExtV H v e) (hf : fl ≤ H.size) (hn : lenR e.2 < 268435456) : Does env fl f_59 [v] H (fun r H' => ExtV H' r (canonE (valE e)) ∧ Ext H H') R := by
  have k0 := h
  obtain ⟨s, u, rfl, hs, hu⟩ := h
  have k1 : RatV H (.agg #[.bool e.2.1.1, s, .bool e.2.2.1, u]) e.2 := ⟨s, u, rfl, hs, hu⟩
  refine does_ext e_59 hf (h := ?_)
  intro ρ h0
  simp [s_59, r_59_0, h0, hs.cells, hu.cells]
  generalize hG : Array.push (Array.push H _) _ = G
  have hx2 : Ext H G := by rw [← hG]; exact (Ext.refl H).push.push
  have b0 : Heap.blk G H.size = .row false T_api_Ext [.int .i64 e.1, .bool e.2.1.1, s, .bool e.2.2.1, u] := by rw [← hG]; simp
  have b1 : Heap.blk G (H.size + 1) = .row false T_api_Ext [.int .i64 0, .bool false, .slice none 0 0, .bool false, .slice none 0 0] := by rw [← hG]; simp
  have hx := Ext.refl H
  clear hG
  (try replace b0 := hx2.blk b0); (try replace b1 := hx2.blk b1); (try replace hx := hx.trans hx2); (try replace k0 := k0.mono hx2); (try replace k1 := k1.mono hx2); (try replace k3 := k3.mono hx2); (try replace k4 := k4.mono hx2); (try replace k5 := k5.mono hx2); (try replace k6 := k6.mono hx2)
  simp [r_59_1, b0]
  refine (r1_MayExt_does k0 hx.1 hn).mono ?_
  rintro _ G2 ⟨rfl, hx2⟩
  (try replace b0 := hx2.blk b0); (try replace b1 := hx2.blk b1); (try replace hx := hx.trans hx2); (try replace k0 := k0.mono hx2); (try replace k1 := k1.mono hx2); (try replace k3 := k3.mono hx2); (try replace k4 := k4.mono hx2); (try replace k5 := k5.mono hx2); (try replace k6 := k6.mono hx2)
  have hsz := hx.1
  unfold valE
  cases hm : mayE e with
  | false =>
    simp [r_59_2]
    refine (r1_nought_does hx.1).mono ?_
    rintro _ G3 ⟨⟨s3, u3, rfl, k3, k4⟩, hx2⟩
    (try replace b0 := hx2.blk b0); (try replace b1 := hx2.blk b1); (try replace hx := hx.trans hx2); (try replace k0 := k0.mono hx2); (try replace k1 := k1.mono hx2); (try replace k3 := k3.mono hx2); (try replace k4 := k4.mono hx2); (try replace k5 := k5.mono hx2); (try replace k6 := k6.mono hx2)
    have hsz := hx.1
    simp [b1, k3.cells, k3.plain, k4.cells, k4.plain, hsz, writeL]
    generalize hS : Array.setIfInBounds G3 _ _ = G5
    have hsz := hx.1; (try replace k0 := k0.setS hS b1 (by decide)); (try replace k1 := k1.setS hS b1 (by decide)); (try replace k3 := k3.setS hS b1 (by decide)); (try replace k4 := k4.setS hS b1 (by decide)); (try replace k5 := k5.setS hS b1 (by decide)); (try replace k6 := k6.setS hS b1 (by decide)); (try replace b0 := set_keep hS b0 (by omega)); (try replace hx := set_ext hS hx (by omega)); replace b1 := set_new hS b1; clear hS hsz
    simp [b1]
    exact fun _ => ⟨s3, u3, rfl, k3, k4⟩
  | true =>
    by_cases h3 : e.1 = 0
    · simp [h3, r_59_3, r_59_5, b0]
      refine (r1_NormRat_does k1 hx.1 hn).mono ?_
      rintro _ G3 ⟨⟨s3, u3, rfl, k3, k4⟩, hx2⟩
      (try replace b0 := hx2.blk b0); (try replace b1 := hx2.blk b1); (try replace hx := hx.trans hx2); (try replace k0 := k0.mono hx2); (try replace k1 := k1.mono hx2); (try replace k3 := k3.mono hx2); (try replace k4 := k4.mono hx2); (try replace k5 := k5.mono hx2); (try replace k6 := k6.mono hx2)
      have hsz := hx.1
      simp [b1, k3.cells, k3.plain, k4.cells, k4.plain, hsz, writeL]
      generalize hS : Array.setIfInBounds G3 _ _ = G5
      have hsz := hx.1; (try replace k0 := k0.setS hS b1 (by decide)); (try replace k1 := k1.setS hS b1 (by decide)); (try replace k3 := k3.setS hS b1 (by decide)); (try replace k4 := k4.setS hS b1 (by decide)); (try replace k5 := k5.setS hS b1 (by decide)); (try replace k6 := k6.setS hS b1 (by decide)); (try replace b0 := set_keep hS b0 (by omega)); (try replace hx := set_ext hS hx (by omega)); replace b1 := set_new hS b1; clear hS hsz
      simp [b1]
      exact fun _ => ⟨s3, u3, rfl, k3, k4⟩
    · have hz : zeroR e.2 = true := by
        unfold mayE at hm
        by_cases hc : e.1 = -1 ∨ e.1 = 1
        · rw [if_pos hc] at hm; exact hm
        · rw [if_neg hc, if_neg h3] at hm; exact absurd hm (by decide)
      have he := (zeroR_iff _).1 hz
      have hc : canonE (e.1, 0) = e := by
        unfold canonE
        simp only
        rw [if_neg h3]
        exact Prod.ext rfl he.symm
      obtain ⟨s5, u5, hv5, k5, k6⟩ := k0
      have hss : s5 = s ∧ u5 = u := by simpa [eq_comm] using hv5
      obtain ⟨rfl, rfl⟩ := hss
      simp [h3, r_59_3, r_59_4, b0, b1, k5.cells, k5.plain, k6.cells, k6.plain, hsz]
      generalize hS : Array.setIfInBounds G2 _ _ = G5
      have hsz := hx.1; (try replace k0 := k0.setS hS b1 (by decide)); (try replace k1 := k1.setS hS b1 (by decide)); (try replace k3 := k3.setS hS b1 (by decide)); (try replace k4 := k4.setS hS b1 (by decide)); (try replace k5 := k5.setS hS b1 (by decide)); (try replace k6 := k6.setS hS b1 (by decide)); (try replace b0 := set_keep hS b0 (by omega)); (try replace hx := set_ext hS hx (by omega)); replace b1 := set_new hS b1; clear hS hsz
      simp [b1]
      rw [hc]
      exact fun _ => ⟨s5, u5, rfl, k5, k6⟩

end Go.Proofs.YtjlohmnnldbjoaaGreat.AI

/- The reference's ends: CmpExt, MaxExt, MinExt. -/
namespace Go.Proofs.YtjlohmnnldbjoaaGreat.AI
open Go
set_option maxHeartbeats 4000000

variable {fl : Nat} {H G : Heap} {R : PostP} {v w : Value} {e f : RawE}

theorem r1_CmpExt_does (h : ExtV H v e) (k : ExtV H w f) (hf : fl ≤ H.size) (hn : lenR e.2 < 67108864) (hm : lenR f.2 < 67108864) : Does env fl f_55 [v, w] H (fun r H' => r = .int .i64 (cmpE (valE e) (valE f)) ∧ Ext H H') R := by
  have k0 := h
  have k1 := k
  have l1 := lenR_valE h
  have l2 := lenR_valE k
  obtain ⟨s, u, rfl, hs, hu⟩ := h
  obtain ⟨s', u', rfl, hs', hu'⟩ := k
  refine does_ext e_55 hf (h := ?_)
  intro ρ h0
  simp [s_55, r_55_0, h0, hs.cells, hu.cells, hs'.cells, hu'.cells]
  generalize hG : Array.push (Array.push H _) _ = G
  have hx2 : Ext H G := by rw [← hG]; exact (Ext.refl H).push.push
  have b0 : Heap.blk G H.size = .row false T_api_Ext [.int .i64 e.1, .bool e.2.1.1, s, .bool e.2.2.1, u] := by rw [← hG]; simp
  have b1 : Heap.blk G (H.size + 1) = .row false T_api_Ext [.int .i64 f.1, .bool f.2.1.1, s', .bool f.2.2.1, u'] := by rw [← hG]; simp
  have hx := Ext.refl H
  clear hG
  (try replace b0 := hx2.blk b0); (try replace b1 := hx2.blk b1); (try replace hx := hx.trans hx2); (try replace k0 := k0.mono hx2); (try replace k1 := k1.mono hx2); (try replace k2 := k2.mono hx2); (try replace k3 := k3.mono hx2); (try replace k4 := k4.mono hx2); (try replace k5 := k5.mono hx2)
  simp [r_55_1, b0]
  refine (r1_NormExt_does k0 hx.1 (by omega)).mono ?_
  rintro _ G2 ⟨⟨s1, s2, rfl, k2, k3⟩, hx2⟩
  (try replace b0 := hx2.blk b0); (try replace b1 := hx2.blk b1); (try replace hx := hx.trans hx2); (try replace k0 := k0.mono hx2); (try replace k1 := k1.mono hx2); (try replace k2 := k2.mono hx2); (try replace k3 := k3.mono hx2); (try replace k4 := k4.mono hx2); (try replace k5 := k5.mono hx2)
  have hz0 := blk_lt b0
  simp [b0, k2.cells, k2.plain, k3.cells, k3.plain, hz0]
  generalize hS : Array.setIfInBounds G2 _ _ = G3
  have hsz := hx.1; (try replace k0 := k0.setS hS b0 (by decide)); (try replace k1 := k1.setS hS b0 (by decide)); (try replace k2 := k2.setS hS b0 (by decide)); (try replace k3 := k3.setS hS b0 (by decide)); (try replace k4 := k4.setS hS b0 (by decide)); (try replace k5 := k5.setS hS b0 (by decide)); (try replace b1 := set_keep hS b1 (by omega)); (try replace hx := set_ext hS hx (by omega)); replace b0 := set_new hS b0; clear hS hsz
  simp [r_55_2, b1]
  refine (r1_NormExt_does k1 hx.1 (by omega)).mono ?_
  rintro _ G2 ⟨⟨s3, s4, rfl, k4, k5⟩, hx2⟩
  (try replace b0 := hx2.blk b0); (try replace b1 := hx2.blk b1); (try replace hx := hx.trans hx2); (try replace k0 := k0.mono hx2); (try replace k1 := k1.mono hx2); (try replace k2 := k2.mono hx2); (try replace k3 := k3.mono hx2); (try replace k4 := k4.mono hx2); (try replace k5 := k5.mono hx2)
  clear k0 k1
  have hz0 := blk_lt b1
  simp [b1, k4.cells, k4.plain, k5.cells, k5.plain, hz0]
  generalize hS : Array.setIfInBounds G2 _ _ = G3
  have hsz := hx.1; (try replace k0 := k0.setS hS b1 (by decide)); (try replace k1 := k1.setS hS b1 (by decide)); (try replace k2 := k2.setS hS b1 (by decide)); (try replace k3 := k3.setS hS b1 (by decide)); (try replace k4 := k4.setS hS b1 (by decide)); (try replace k5 := k5.setS hS b1 (by decide)); (try replace b0 := set_keep hS b0 (by omega)); (try replace hx := set_ext hS hx (by omega)); replace b1 := set_new hS b1; clear hS hsz
  obtain ⟨x, hxv⟩ : ∃ x, x = valE e := ⟨_, rfl⟩
  obtain ⟨y, hyv⟩ : ∃ y, y = valE f := ⟨_, rfl⟩
  rw [← hxv] at l1 k2 k3 b0 ⊢
  rw [← hyv] at l2 k4 k5 b1 ⊢
  have kx : (canonE x).1 = x.1 := by unfold canonE; split <;> simp_all
  have ky : (canonE y).1 = y.1 := by unfold canonE; split <;> simp_all
  rw [kx] at b0
  rw [ky] at b1
  unfold cmpE
  simp [r_55_3, b0, b1]
  by_cases h1 : x.1 = y.1
  · have h2 : ¬ x.1 < y.1 := by omega
    have h2' : ¬ y.1 < x.1 := by omega
    by_cases h3 : x.1 = 0
    · have h4 : y.1 = 0 := by omega
      have kr : RatV _ (.agg #[.bool (canonE x).2.1.1, s1, .bool (canonE x).2.2.1, s2]) (canonE x).2 := ⟨s1, s2, rfl, k2, k3⟩
      have kq : RatV _ (.agg #[.bool (canonE y).2.1.1, s3, .bool (canonE y).2.2.1, s4]) (canonE y).2 := ⟨s3, s4, rfl, k4, k5⟩
      simp [h1, h2, h3, h4, r_55_7, r_55_9, b0, b1]
      refine (r1_CmpRat_does kr kq hx.1 (by omega) (by omega)).mono ?_
      rintro _ G2 ⟨rfl, hx2⟩
      have e1 : valR (canonE x).2 = x.2 := by unfold canonE; rw [if_pos h3]; exact valR_canon _
      have e2 : valR (canonE y).2 = y.2 := by unfold canonE; rw [if_pos h4]; exact valR_canon _
      simp [e1, e2]
    · have h4 : y.1 ≠ 0 := by omega
      simp [h1, h2, h3, h4, r_55_7, r_55_8, b0, b1]
  · by_cases h2 : x.1 < y.1
    · simp [h1, h2, r_55_4, r_55_5, b0, b1]
    · have h2' : y.1 < x.1 := by omega
      have h2'' : y.1 ≤ x.1 := by omega
      simp [h1, h2, h2', h2'', r_55_4, r_55_6, b0, b1]

theorem r1_MaxExt_does (h : ExtV H v e) (k : ExtV H w f) (hf : fl ≤ H.size) (hn : lenR e.2 < 67108864) (hm : lenR f.2 < 67108864) : Does env fl f_70 [v, w] H (fun r H' => ExtV H' r (maxE e f) ∧ Ext H H') R := by
  have k0 := h
  have k1 := k
  obtain ⟨s, u, rfl, hs, hu⟩ := h
  obtain ⟨s', u', rfl, hs', hu'⟩ := k
  refine does_ext e_70 hf (h := ?_)
  intro ρ h0
  simp [s_70, r_70_0, h0, hs.cells, hu.cells, hs'.cells, hu'.cells]
  generalize hG : Array.push (Array.push (Array.push H _) _) _ = G
  have hx2 : Ext H G := by rw [← hG]; exact (Ext.refl H).push.push.push
  have b0 : Heap.blk G H.size = .row false T_api_Ext [.int .i64 e.1, .bool e.2.1.1, s, .bool e.2.2.1, u] := by rw [← hG]; simp
  have b1 : Heap.blk G (H.size + 1) = .row false T_api_Ext [.int .i64 f.1, .bool f.2.1.1, s', .bool f.2.2.1, u'] := by rw [← hG]; simp
  have b2 : Heap.blk G (H.size + 2) = .row false T_api_Ext [.int .i64 0, .bool false, .slice none 0 0, .bool false, .slice none 0 0] := by rw [← hG]; simp
  have hx := Ext.refl H
  clear hG
  (try replace b0 := hx2.blk b0); (try replace b1 := hx2.blk b1); (try replace b2 := hx2.blk b2); (try replace hx := hx.trans hx2); (try replace k0 := k0.mono hx2); (try replace k1 := k1.mono hx2); (try replace k3 := k3.mono hx2); (try replace k4 := k4.mono hx2)
  simp [r_70_1, b0, b1]
  refine (r1_CmpExt_does k0 k1 hx.1 hn hm).mono ?_
  rintro _ G2 ⟨rfl, hx2⟩
  (try replace b0 := hx2.blk b0); (try replace b1 := hx2.blk b1); (try replace b2 := hx2.blk b2); (try replace hx := hx.trans hx2); (try replace k0 := k0.mono hx2); (try replace k1 := k1.mono hx2); (try replace k3 := k3.mono hx2); (try replace k4 := k4.mono hx2)
  unfold maxE
  obtain ⟨c, hc⟩ : ∃ c, c = cmpE (valE e) (valE f) := ⟨_, rfl⟩
  rw [← hc]
  by_cases h1 : c<0
  · have h1' : ¬(0≤c) := by omega
    simp [h1, h1', r_70_3, b1]
    refine (r1_NormExt_does k1 hx.1 (by omega)).mono ?_
    rintro _ G2 ⟨⟨s1, s2, rfl, k3, k4⟩, hx2⟩
    (try replace b0 := hx2.blk b0); (try replace b1 := hx2.blk b1); (try replace b2 := hx2.blk b2); (try replace hx := hx.trans hx2); (try replace k0 := k0.mono hx2); (try replace k1 := k1.mono hx2); (try replace k3 := k3.mono hx2); (try replace k4 := k4.mono hx2)
    have hz := blk_lt b2
    simp [b2, k3.cells, k3.plain, k4.cells, k4.plain, hz]
    exact fun _ => ⟨s1, s2, rfl, k3.setT b2 (by decide), k4.setT b2 (by decide)⟩
  · have h1' : (0≤c) := by omega
    simp [h1, h1', r_70_2, b0]
    refine (r1_NormExt_does k0 hx.1 (by omega)).mono ?_
    rintro _ G2 ⟨⟨s1, s2, rfl, k3, k4⟩, hx2⟩
    (try replace b0 := hx2.blk b0); (try replace b1 := hx2.blk b1); (try replace b2 := hx2.blk b2); (try replace hx := hx.trans hx2); (try replace k0 := k0.mono hx2); (try replace k1 := k1.mono hx2); (try replace k3 := k3.mono hx2); (try replace k4 := k4.mono hx2)
    have hz := blk_lt b2
    simp [b2, k3.cells, k3.plain, k4.cells, k4.plain, hz]
    exact fun _ => ⟨s1, s2, rfl, k3.setT b2 (by decide), k4.setT b2 (by decide)⟩
theorem r1_MinExt_does (h : ExtV H v e) (k : ExtV H w f) (hf : fl ≤ H.size) (hn : lenR e.2 < 67108864) (hm : lenR f.2 < 67108864) : Does env fl f_72 [v, w] H (fun r H' => ExtV H' r (minE e f) ∧ Ext H H') R := by
  have k0 := h
  have k1 := k
  obtain ⟨s, u, rfl, hs, hu⟩ := h
  obtain ⟨s', u', rfl, hs', hu'⟩ := k
  refine does_ext e_72 hf (h := ?_)
  intro ρ h0
  simp [s_72, r_72_0, h0, hs.cells, hu.cells, hs'.cells, hu'.cells]
  generalize hG : Array.push (Array.push (Array.push H _) _) _ = G
  have hx2 : Ext H G := by rw [← hG]; exact (Ext.refl H).push.push.push
  have b0 : Heap.blk G H.size = .row false T_api_Ext [.int .i64 e.1, .bool e.2.1.1, s, .bool e.2.2.1, u] := by rw [← hG]; simp
  have b1 : Heap.blk G (H.size + 1) = .row false T_api_Ext [.int .i64 f.1, .bool f.2.1.1, s', .bool f.2.2.1, u'] := by rw [← hG]; simp
  have b2 : Heap.blk G (H.size + 2) = .row false T_api_Ext [.int .i64 0, .bool false, .slice none 0 0, .bool false, .slice none 0 0] := by rw [← hG]; simp
  have hx := Ext.refl H
  clear hG
  (try replace b0 := hx2.blk b0); (try replace b1 := hx2.blk b1); (try replace b2 := hx2.blk b2); (try replace hx := hx.trans hx2); (try replace k0 := k0.mono hx2); (try replace k1 := k1.mono hx2); (try replace k3 := k3.mono hx2); (try replace k4 := k4.mono hx2)
  simp [r_72_1, b0, b1]
  refine (r1_CmpExt_does k0 k1 hx.1 hn hm).mono ?_
  rintro _ G2 ⟨rfl, hx2⟩
  (try replace b0 := hx2.blk b0); (try replace b1 := hx2.blk b1); (try replace b2 := hx2.blk b2); (try replace hx := hx.trans hx2); (try replace k0 := k0.mono hx2); (try replace k1 := k1.mono hx2); (try replace k3 := k3.mono hx2); (try replace k4 := k4.mono hx2)
  unfold minE
  obtain ⟨c, hc⟩ : ∃ c, c = cmpE (valE e) (valE f) := ⟨_, rfl⟩
  rw [← hc]
  by_cases h1 : 0<c
  · have h1' : ¬(c≤0) := by omega
    simp [h1, h1', r_72_3, b1]
    refine (r1_NormExt_does k1 hx.1 (by omega)).mono ?_
    rintro _ G2 ⟨⟨s1, s2, rfl, k3, k4⟩, hx2⟩
    (try replace b0 := hx2.blk b0); (try replace b1 := hx2.blk b1); (try replace b2 := hx2.blk b2); (try replace hx := hx.trans hx2); (try replace k0 := k0.mono hx2); (try replace k1 := k1.mono hx2); (try replace k3 := k3.mono hx2); (try replace k4 := k4.mono hx2)
    have hz := blk_lt b2
    simp [b2, k3.cells, k3.plain, k4.cells, k4.plain, hz]
    exact fun _ => ⟨s1, s2, rfl, k3.setT b2 (by decide), k4.setT b2 (by decide)⟩
  · have h1' : (c≤0) := by omega
    simp [h1, h1', r_72_2, b0]
    refine (r1_NormExt_does k0 hx.1 (by omega)).mono ?_
    rintro _ G2 ⟨⟨s1, s2, rfl, k3, k4⟩, hx2⟩
    (try replace b0 := hx2.blk b0); (try replace b1 := hx2.blk b1); (try replace b2 := hx2.blk b2); (try replace hx := hx.trans hx2); (try replace k0 := k0.mono hx2); (try replace k1 := k1.mono hx2); (try replace k3 := k3.mono hx2); (try replace k4 := k4.mono hx2)
    have hz := blk_lt b2
    simp [b2, k3.cells, k3.plain, k4.cells, k4.plain, hz]
    exact fun _ => ⟨s1, s2, rfl, k3.setT b2 (by decide), k4.setT b2 (by decide)⟩

end Go.Proofs.YtjlohmnnldbjoaaGreat.AI

/- The reference's templates and values: Right, Values. -/
namespace Go.Proofs.YtjlohmnnldbjoaaGreat.AI
open Go
set_option maxHeartbeats 4000000

variable {fl : Nat} {H G : Heap} {R : PostP} {v w : Value}

/-- a loop of three parts, behind which nothing stands. -/
theorem W_cforE {E : Env} {nt tc b b2 : Nat} {body : SCode} {rx rc : List SOper} {Q : PostX} {ρ : Nat → Value} (Inv : Nat → (Nat → Value) → Heap → Prop) (n : Nat) (htc : tc < nt) (hI : Inv 0 ρ H)
    (step : ∀ i ρ G, i ≤ n → Inv i ρ G → WR E fl rc (T nt ρ) G (CStep E fl nt tc b b2 n body rx (fun t H => Q .normal t H) Q R i Inv) R) :
    W E fl (.loop (.seq (.seq (.reg rc) (.cond (.tmp tc) .skip (.exit b))) (.seq (.block b2 body) (.reg rx)))) (T nt ρ) H (blockW b Q) R := by
  have h := W_cfor (Z := fun t H => Q .normal t H) (Q := Q) Inv n htc hI step
  rwa [thenW_same] at h

theorem r17_Right_does {S : Nat} {rows : List (List RawR)} {n : Int} (h : TemplV H v rows) (hf : fl ≤ H.size) (hS : S < 67108864) (hr : ∀ r ∈ rows, Few S r ∧ r.length < 1073741824) (hrl : rows.length < 1073741824) :
    Does env fl f_57 [v, .int .i64 n] H (fun r H' => r = .bool (rightT rows n) ∧ Ext H H') R := by
  obtain ⟨s, rfl, hs⟩ := h
  refine does_ext e_57 hf (h := ?_)
  intro ρ h0
  simp [s_57, r_57_0, h0, hs.cells]
  generalize hG : Array.push H _ = G
  obtain ⟨hx2, b0⟩ := new0 hG
  have hx := Ext.refl H
  clear hG
  (try replace b0 := hx2.blk b0); (try replace b1 := hx2.blk b1); (try replace hx := hx.trans hx2); (try replace k0 := k0.mono hx2)
  unfold rightT
  by_cases h1 : n < 0
  · have h1' : ¬ 0 ≤ n := by omega
    simp [r_57_1, r_57_2, h0, h1, h1']
  have h1' : 0 ≤ n := by omega
  by_cases h2 : 6 < n
  · have h2' : ¬ n ≤ 6 := by omega
    simp [r_57_1, r_57_2, h0, h1, h1', h2, h2']
  have h2' : n ≤ 6 := by omega
  by_cases h3 : 40 < rows.length
  · have h3' : ¬ rows.length ≤ 40 := by omega
    have h3'' : (40 : Int) < (rows.length : Int) := by omega
    simp [r_57_1, r_57_2, h0, b0, hs.slen, h1, h1', h2, h2', h3, h3', h3'']
  have h3' : rows.length ≤ 40 := by omega
  have h3'' : ¬ (40 : Int) < (rows.length : Int) := by omega
  simp [r_57_1, r_57_3, h0, b0, hs.slen, h1, h1', h2, h2', h3, h3', h3'']
  have ks0 := hs.mono monoPS hx
  refine W_cfor (fun i ρ G' => ρ 1 = .int .i64 n ∧ ρ 2 = .pointer (some ⟨H.size, 0, none⟩) ∧ ρ 5 = .int .i64 (i : Int) ∧ Ext G G' ∧ allB (rowOk n) (rows.take i) = true) rows.length (by decide) (by simp [h0, Ext.refl G, allB_nil]) ?_
  clear h0 ρ hx2
  rintro i ρ G1 hi1 ⟨g1, g2, g5, hx1, hc⟩
  have b1 := hx1.blk b0
  have ks := ks0.mono monoPS hx1
  simp [r_57_4, g2, g5, b1, ks.slen]
  refine CStep.mk (by simp) (fun hi => ?_) (fun heq => ?_)
  · obtain ⟨w, hl, kw⟩ := RowsV.load ks hi
    obtain ⟨hfew, hrl2⟩ := hr _ (List.getElem_mem hi)
    have hwn := wrap_succ (show i < 4611686018427387904 by omega)
    by_cases hlen : (rows[i].length : Int) = n
    · simp [r_57_5, r_57_7, g1, g2, g5, b1, ks.ia hi, hl, kw.slen, hlen]
      refine W_cforE (fun j ρ G' => ρ 1 = .int .i64 n ∧ ρ 2 = .pointer (some ⟨H.size, 0, none⟩) ∧ ρ 5 = .int .i64 (i : Int) ∧ ρ 6 = .int .i64 (j : Int) ∧ Ext G G' ∧ allB mayR (rows[i].take j) = true) rows[i].length (by decide) (by simp [g1, g2, g5, hx1, allB_nil]) ?_
      clear g1 g2 g5 hx1 kw hl ks b1 ρ G1
      rintro j ρ G1 hj1 ⟨g1, g2, g5, g6, hx1, hcj⟩
      have b1 := hx1.blk b0
      have ks := ks0.mono monoPS hx1
      simp [r_57_8, g1, g6]
      refine CStep.mk (by simp [← hlen]) (fun hj => ?_) (fun heq => ?_)
      · obtain ⟨w, hl, kw⟩ := RowsV.load ks hi
        obtain ⟨x, hlx, k0⟩ := RatsV.load kw hj
        simp [r_57_9, g1, g2, g5, g6, b1, ks.ia hi, hl, kw.ia hj, hlx]
        refine (r1_MayRat_does k0 (by have := hx.1; have := hx1.1; omega) (by have := (hfew _ (List.getElem_mem hj)).1; omega)).mono ?_
        rintro _ G2 ⟨rfl, hx2⟩
        replace hx1 := hx1.trans hx2
        cases hm : mayR rows[i][j]
        · simp [r_57_10]
          intros
          exact allB_no hi (by unfold rowOk; rw [allB_no hj hm]; simp)
        · simp
          unfold CEnd
          simp [r_57_11, g6, wrap_succ (show j < 4611686018427387904 by omega)]
          exact CNext.mk ⟨by simp [g1], by simp [g2], by simp [g5], by simp, hx1, by rw [allB_succ hj, hcj, hm]; rfl⟩
      · subst heq
        rw [List.take_length] at hcj
        unfold CEnd
        simp [r_57_12, g5, hwn]
        exact CNext.mk ⟨by simp [g1], by simp [g2], by simp, hx1, by rw [allB_succ hi, hc]; unfold rowOk; simp [hlen, hcj]⟩
    · simp [r_57_5, r_57_6, g1, g2, g5, b1, ks.ia hi, hl, kw.slen, hlen]
      intro _
      exact allB_no hi (by unfold rowOk; simp [hlen])
  · subst heq
    rw [List.take_length] at hc
    simp [r_57_13, hc]

theorem r17_Values_does {S : Nat} {rows : List (List RawR)} {n : Int} {d : List RawE} (h : TemplV H v rows) (hd : ExtsV H w d) (hf : fl ≤ H.size) (hS : S < 67108864) (hr : ∀ r ∈ rows, Few S r ∧ r.length < 1073741824) (hrl : rows.length < 1073741824) (hfd : FewE d) (hdl : d.length < 1073741824) :
    Does env fl f_24 [v, .int .i64 n, w] H (fun r H' => r = .bool (valuesT rows n d) ∧ Ext H H') R := by
  obtain ⟨s, rfl, hs⟩ := h
  refine does_ext e_24 hf (h := ?_)
  intro ρ h0
  simp [s_24, r_24_0, h0, hs.cells]
  generalize hG : Array.push H _ = G
  obtain ⟨hx2, b0⟩ := new0 hG
  have hx := Ext.refl H
  clear hG
  (try replace b0 := hx2.blk b0); (try replace hx := hx.trans hx2); (try replace k0 := k0.mono hx2)
  have kt2 : TemplV G (.agg #[s]) rows := ⟨s, rfl, hs.mono monoPS hx⟩
  unfold valuesT
  simp [r_24_1, h0, b0]
  refine (r17_Right_does (n := n) kt2 hx.1 hS hr hrl).mono ?_
  rintro _ G2 ⟨rfl, hx2⟩
  (try replace b0 := hx2.blk b0); (try replace hx := hx.trans hx2); (try replace k0 := k0.mono hx2)
  cases h1 : rightT rows n
  · simp [r_24_2]
  by_cases h2 : d.length = rows.length
  · have h2' : (d.length : Int) = (rows.length : Int) := by omega
    simp [h0, b0, hd.slen, hs.slen, h2, h2', r_24_3]
    refine W_cfor (fun i ρ G => ρ 2 = w ∧ ρ 7 = .int .i64 (i : Int) ∧ Ext H G ∧ anyB (fun e => !mayE e) (d.take i) = false) d.length (by decide) (by simp [h0, hx, anyB_nil]) ?_
    clear h0 ρ
    rintro i ρ G1 hi1 ⟨g2, g7, hx1, hc⟩
    have kd := hd.mono monoPE hx1
    simp [r_24_4, g2, g7, kd.slen]
    refine CStep.mk (by simp) (fun hi => ?_) (fun heq => ?_)
    · obtain ⟨x, hl, k0⟩ := ExtsV.load kd hi
      simp [r_24_5, g2, g7, kd.ia hi, hl]
      refine (r1_MayExt_does k0 hx1.1 (by have := hfd _ (List.getElem_mem hi); omega)).mono ?_
      rintro _ G3 ⟨rfl, hx3⟩
      replace hx1 := hx1.trans hx3
      cases hm : mayE d[i]
      · simp [r_24_6]
        intros
        exact anyB_yes hi (by simp [hm])
      · simp
        unfold CEnd
        simp [r_24_7, g7, wrap_succ (show i < 4611686018427387904 by omega)]
        exact CNext.mk ⟨by simp [g2], by simp, hx1, by rw [anyB_succ hi, hc, hm]; rfl⟩
    · subst heq
      rw [List.take_length] at hc
      simp [r_24_8, hc]
  · have h2' : ¬ (d.length : Int) = (rows.length : Int) := by omega
    simp [h0, b0, hd.slen, hs.slen, h2, h2', r_24_2]

end Go.Proofs.YtjlohmnnldbjoaaGreat.AI

/- The reference's values: Le, Join, Meet. -/
namespace Go.Proofs.YtjlohmnnldbjoaaGreat.AI
open Go
set_option maxHeartbeats 4000000

variable {fl : Nat} {H G : Heap} {R : PostP} {v w : Value} {a b : List RawE}

theorem r17_Le_does (ha : ExtsV H v a) (hb : ExtsV H w b) (hf : fl ≤ H.size) (hfa : FewE a) (hfb : FewE b) (hal : a.length < 1073741824) :
    Does env fl f_29 [v, w] H (fun r H' => r = .bool (leE a b) ∧ Ext H H') R := by
  refine does_ext e_29 hf (h := ?_)
  intro ρ h0
  unfold leE
  by_cases hl : a.length = b.length
  · simp [s_29, r_29_0, r_29_1, r_29_3, h0, ha.slen, hb.slen, hl]
    refine W_cfor (fun n ρ G => ρ 0 = v ∧ ρ 1 = w ∧ ρ 5 = .int .i64 (n : Int) ∧ Ext H G ∧ true ∉ (List.zipWith (fun e f => decide (0 < cmpE (valE e) (valE f))) a b).take n) a.length (by decide) (by simp [h0, Ext.refl H]) ?_
    clear h0 ρ
    rintro n ρ G hn1 ⟨g0, g1, g5, hx, hpre⟩
    have ka := ha.mono monoPE hx
    have kb := hb.mono monoPE hx
    simp [r_29_4, g0, g5, ka.slen]
    refine CStep.mk (by simp) (fun hlt => ?_) (fun heq => ?_)
    · have hltb : n < b.length := by omega
      obtain ⟨wa, hla, k0⟩ := ExtsV.load ka hlt
      obtain ⟨wb, hlb, k1⟩ := ExtsV.load kb hltb
      simp
      refine W_draw ?_
      simp [r_29_5, g0, g1, g5, ka.ia hlt, kb.ia hltb, hla, hlb]
      refine (r1_CmpExt_does k0 k1 hx.1 (hfa _ (List.getElem_mem hlt)) (hfb _ (List.getElem_mem hltb))).mono ?_
      rintro _ G2 ⟨rfl, hx2⟩
      (try replace hx := hx.trans hx2); (try replace k0 := k0.mono hx2); (try replace k1 := k1.mono hx2)
      by_cases he : 0 < cmpE (valE a[n]) (valE b[n])
      · simp [he, r_29_6]
        intros
        have : (List.zipWith (fun e f => decide (0 < cmpE (valE e) (valE f))) a b)[n]'(by simp; omega) = true := by rw [List.getElem_zipWith]; simp [he]
        rw [← this]
        exact List.getElem_mem _
      · simp [he]
        unfold CEnd
        simp [r_29_7, g5, wrap_succ (show n < 4611686018427387904 by omega)]
        refine CNext.mk ⟨by simp [g0], by simp [g1], by simp, hx, ?_⟩
        rw [take_zip hlt hltb, List.mem_append]
        rintro (h | h)
        · exact hpre h
        · simp [he] at h
    · subst heq
      rw [List.take_of_length_le (by simp; omega)] at hpre
      simp [r_29_8, hpre]
  · have hl' : ¬ ((a.length : Int) = (b.length : Int)) := by omega
    simp [s_29, r_29_0, r_29_1, r_29_2, h0, ha.slen, hb.slen, hl, hl']

theorem r17_Join_does (ha : ExtsV H v a) (hb : ExtsV H w b) (hf : fl ≤ H.size) (hfa : FewE a) (hfb : FewE b) (hal : a.length < 1073741824) :
    Does env fl f_32 [v, w] H (fun r H' => ExtsV H' r (List.zipWith maxE a b) ∧ Ext H H') R := by
  refine does_ext e_32 hf (h := ?_)
  intro ρ h0
  obtain ⟨m, hm⟩ : ∃ m, m = min a.length b.length := ⟨_, rfl⟩
  simp [s_32, r_32_0, r_32_1, r_32_2, h0]
  refine W_cfor (fun i ρ G => ρ 0 = v ∧ ρ 1 = w ∧ ρ 6 = .int .i64 (i : Int) ∧ Ext H G ∧ Owns PE H.size G T_api_Ext 5 (ρ 5) ((List.zipWith maxE a b).take i)) m (by decide) ⟨by simp [h0], by simp [h0], by simp, Ext.refl H, by simpa using Owns.nil⟩ ?_
  clear h0 ρ
  rintro i ρ G hi1 ⟨g0, g1, g6, hx, ho⟩
  obtain ⟨s, g5⟩ : ∃ s, ρ 5 = s := ⟨_, rfl⟩
  rw [g5] at ho
  have ka := ha.mono monoPE hx
  have kb := hb.mono monoPE hx
  have hst : WR env H.size r_32_3 (T 32 ρ) G (fun t G' => ∃ ρ', t = T 32 ρ' ∧ G' = G ∧ ρ' 16 = .bool (decide (i < m)) ∧ ∀ k, k < 7 → ρ' k = ρ k) R := by
    by_cases h1 : i < a.length
    · have h1' : (i : Int) < (a.length : Int) := by omega
      by_cases h2 : i < b.length
      · have h2' : (i : Int) < (b.length : Int) := by omega
        have h3 : i < m := by omega
        simp [r_32_3, g0, g1, g6, ka.slen, kb.slen, h1', h2']
        refine ⟨_, rfl, by simp [h1', h2', h3], fun k hk => ?_⟩
        repeat rw [upd_ne (by omega)]
      · have h2' : ¬ (i : Int) < (b.length : Int) := by omega
        have h3 : ¬ i < m := by omega
        simp [r_32_3, g0, g1, g6, ka.slen, kb.slen, h1', h2']
        refine ⟨_, rfl, by simp [h1', h2', h3], fun k hk => ?_⟩
        repeat rw [upd_ne (by omega)]
    · have h1' : ¬ (i : Int) < (a.length : Int) := by omega
      have h3 : ¬ i < m := by omega
      simp [r_32_3, g0, g1, g6, ka.slen, kb.slen, h1']
      refine ⟨_, rfl, by simp [h1', h3], fun k hk => ?_⟩
      repeat rw [upd_ne (by omega)]
  refine hst.mono ?_
  rintro _ _ ⟨ρ', rfl, rfl, q16, q⟩
  have q0 := q 0 (by omega)
  have q1 := q 1 (by omega)
  have q5 := q 5 (by omega)
  have q6 := q 6 (by omega)
  rw [g0] at q0
  rw [g1] at q1
  rw [g5] at q5
  rw [g6] at q6
  clear q hst g0 g1 g5 g6
  refine CStep.mk (by simp [q16]) (fun hi => ?_) (fun heq => ?_)
  · have hia : i < a.length := by omega
    have hib : i < b.length := by omega
    obtain ⟨wa, hla, k0⟩ := ExtsV.load ka hia
    obtain ⟨wb, hlb, k1⟩ := ExtsV.load kb hib
    refine W_draw ?_
    simp [r_32_4, q0, q1, q5, q6, ka.ia hia, kb.ia hib, hla, hlb]
    refine (r1_MaxExt_does k0 k1 hx.1 (hfa _ (List.getElem_mem hia)) (hfb _ (List.getElem_mem hib))).mono ?_
    rintro _ G2 ⟨⟨s1, s2, rfl, k2, k3⟩, hx2⟩
    (try replace hx := hx.trans hx2); (try replace k0 := k0.mono hx2); (try replace k1 := k1.mono hx2); (try replace k2 := k2.mono hx2); (try replace k3 := k3.mono hx2)
    replace ho := ho.mono monoPE hx2
    obtain ⟨s', G3, h1, h2, h3, h4⟩ := Owns.app (P := PE) (sz := 5) (e := T_api_Ext) (by decide) (fun G' cs x _ hl h => ExtV.lx h hl) ho (e2 := T_api_Ext) (c := 1) (bytes := 72) (new := [.int .i64 (maxE a[i] b[i]).1, .bool (maxE a[i] b[i]).2.1.1, s1, .bool (maxE a[i] b[i]).2.2.1, s2]) (x := maxE a[i] b[i]) ⟨s1, s2, rfl, k2, k3⟩ rfl (by simp [k2.plain, k3.plain]) (by simp; omega) (by omega) (by omega) hx.1
    simp [q0, q1, q5, q6, h1, k2.cells, k3.cells]
    unfold CEnd
    simp [r_32_5, q6, wrap_succ (show i < 4611686018427387904 by omega)]
    exact CNext.mk ⟨by simp [q0], by simp [q1], by simp, h4 _ (Nat.le_refl _) hx, Owns.cast (v' := s') (by simp) (by rw [take_zip hia hib]; exact h2)⟩
  · subst heq
    rw [hm, List.take_of_length_le (by simp)] at ho
    simp [r_32_6, q5]
    exact fun _ => ho.sls
theorem r17_Meet_does (ha : ExtsV H v a) (hb : ExtsV H w b) (hf : fl ≤ H.size) (hfa : FewE a) (hfb : FewE b) (hal : a.length < 1073741824) :
    Does env fl f_34 [v, w] H (fun r H' => ExtsV H' r (List.zipWith minE a b) ∧ Ext H H') R := by
  refine does_ext e_34 hf (h := ?_)
  intro ρ h0
  obtain ⟨m, hm⟩ : ∃ m, m = min a.length b.length := ⟨_, rfl⟩
  simp [s_34, r_34_0, r_34_1, r_34_2, h0]
  refine W_cfor (fun i ρ G => ρ 0 = v ∧ ρ 1 = w ∧ ρ 6 = .int .i64 (i : Int) ∧ Ext H G ∧ Owns PE H.size G T_api_Ext 5 (ρ 5) ((List.zipWith minE a b).take i)) m (by decide) ⟨by simp [h0], by simp [h0], by simp, Ext.refl H, by simpa using Owns.nil⟩ ?_
  clear h0 ρ
  rintro i ρ G hi1 ⟨g0, g1, g6, hx, ho⟩
  obtain ⟨s, g5⟩ : ∃ s, ρ 5 = s := ⟨_, rfl⟩
  rw [g5] at ho
  have ka := ha.mono monoPE hx
  have kb := hb.mono monoPE hx
  have hst : WR env H.size r_34_3 (T 32 ρ) G (fun t G' => ∃ ρ', t = T 32 ρ' ∧ G' = G ∧ ρ' 16 = .bool (decide (i < m)) ∧ ∀ k, k < 7 → ρ' k = ρ k) R := by
    by_cases h1 : i < a.length
    · have h1' : (i : Int) < (a.length : Int) := by omega
      by_cases h2 : i < b.length
      · have h2' : (i : Int) < (b.length : Int) := by omega
        have h3 : i < m := by omega
        simp [r_34_3, g0, g1, g6, ka.slen, kb.slen, h1', h2']
        refine ⟨_, rfl, by simp [h1', h2', h3], fun k hk => ?_⟩
        repeat rw [upd_ne (by omega)]
      · have h2' : ¬ (i : Int) < (b.length : Int) := by omega
        have h3 : ¬ i < m := by omega
        simp [r_34_3, g0, g1, g6, ka.slen, kb.slen, h1', h2']
        refine ⟨_, rfl, by simp [h1', h2', h3], fun k hk => ?_⟩
        repeat rw [upd_ne (by omega)]
    · have h1' : ¬ (i : Int) < (a.length : Int) := by omega
      have h3 : ¬ i < m := by omega
      simp [r_34_3, g0, g1, g6, ka.slen, kb.slen, h1']
      refine ⟨_, rfl, by simp [h1', h3], fun k hk => ?_⟩
      repeat rw [upd_ne (by omega)]
  refine hst.mono ?_
  rintro _ _ ⟨ρ', rfl, rfl, q16, q⟩
  have q0 := q 0 (by omega)
  have q1 := q 1 (by omega)
  have q5 := q 5 (by omega)
  have q6 := q 6 (by omega)
  rw [g0] at q0
  rw [g1] at q1
  rw [g5] at q5
  rw [g6] at q6
  clear q hst g0 g1 g5 g6
  refine CStep.mk (by simp [q16]) (fun hi => ?_) (fun heq => ?_)
  · have hia : i < a.length := by omega
    have hib : i < b.length := by omega
    obtain ⟨wa, hla, k0⟩ := ExtsV.load ka hia
    obtain ⟨wb, hlb, k1⟩ := ExtsV.load kb hib
    refine W_draw ?_
    simp [r_34_4, q0, q1, q5, q6, ka.ia hia, kb.ia hib, hla, hlb]
    refine (r1_MinExt_does k0 k1 hx.1 (hfa _ (List.getElem_mem hia)) (hfb _ (List.getElem_mem hib))).mono ?_
    rintro _ G2 ⟨⟨s1, s2, rfl, k2, k3⟩, hx2⟩
    (try replace hx := hx.trans hx2); (try replace k0 := k0.mono hx2); (try replace k1 := k1.mono hx2); (try replace k2 := k2.mono hx2); (try replace k3 := k3.mono hx2)
    replace ho := ho.mono monoPE hx2
    obtain ⟨s', G3, h1, h2, h3, h4⟩ := Owns.app (P := PE) (sz := 5) (e := T_api_Ext) (by decide) (fun G' cs x _ hl h => ExtV.lx h hl) ho (e2 := T_api_Ext) (c := 1) (bytes := 72) (new := [.int .i64 (minE a[i] b[i]).1, .bool (minE a[i] b[i]).2.1.1, s1, .bool (minE a[i] b[i]).2.2.1, s2]) (x := minE a[i] b[i]) ⟨s1, s2, rfl, k2, k3⟩ rfl (by simp [k2.plain, k3.plain]) (by simp; omega) (by omega) (by omega) hx.1
    simp [q0, q1, q5, q6, h1, k2.cells, k3.cells]
    unfold CEnd
    simp [r_34_5, q6, wrap_succ (show i < 4611686018427387904 by omega)]
    exact CNext.mk ⟨by simp [q0], by simp [q1], by simp, h4 _ (Nat.le_refl _) hx, Owns.cast (v' := s') (by simp) (by rw [take_zip hia hib]; exact h2)⟩
  · subst heq
    rw [hm, List.take_of_length_le (by simp)] at ho
    simp [r_34_6, q5]
    exact fun _ => ho.sls

end Go.Proofs.YtjlohmnnldbjoaaGreat.AI

/- DomOrders: the law's walk. -/
namespace Go.Proofs.YtjlohmnnldbjoaaGreat.AI
open Go
set_option maxHeartbeats 4000000

variable {fl : Nat} {H G : Heap} {R : PostP} {u v w z : Value} {rows : List (List RawR)} {a b : List RawE} {n : Int}

theorem DomOrders_does (ht : TemplV H u rows) (ha : ExtsV H v a) (hb : ExtsV H w b) (hf : fl ≤ H.size) :
    Does env fl f_7 [u, .int .i64 n, v, w] H (fun r H' => r = .bool true ∧ Ext H H') (fun _ => False) := by
  obtain ⟨s, rfl, hs⟩ := ht
  refine does_ext e_7 hf (h := ?_)
  intro ρ h0
  simp [s_7, r_7_0, h0, hs.cells]
  generalize hG : Array.push H _ = G
  obtain ⟨hx2, b0⟩ := new0 hG
  have hx := Ext.refl H
  have ka := ha
  have kb := hb
  have kc := hs
  clear hG
  replace hx := hx.trans hx2
  replace ka := ka.mono monoPE hx2
  replace kb := kb.mono monoPE hx2
  replace kc := kc.mono monoPS hx2
  simp [r_7_1, b0]
  refine (Great4_does kc hx.1).mono ?_
  rintro _ G1 ⟨⟨c, rfl, hgr⟩, hx2⟩
  replace hx := hx.trans hx2
  replace ka := ka.mono monoPE hx2
  replace kb := kb.mono monoPE hx2
  replace kc := kc.mono monoPS hx2
  (try replace b0 := hx2.blk b0)
  (try replace kj := kj.mono monoPE hx2)
  cases c with
  | true =>
    simp [r_7_2]
    refine awake_does.mono ?_
    rintro _ G2 ⟨rfl, rfl⟩
    simp
  | false =>
  replace hgr := hgr rfl
  simp [h0]
  refine (Great18_any ka hx.1).mono ?_
  rintro _ G1 ⟨rfl, hx2⟩
  replace hx := hx.trans hx2
  replace ka := ka.mono monoPE hx2
  replace kb := kb.mono monoPE hx2
  replace kc := kc.mono monoPS hx2
  (try replace b0 := hx2.blk b0)
  (try replace kj := kj.mono monoPE hx2)
  by_cases la : 100 < a.length
  · simp [la, r_7_2]
    refine awake_does.mono ?_
    rintro _ G2 ⟨rfl, rfl⟩
    simp
  by_cases ga : anyB longE a = true
  · simp [ga, la, r_7_2]
    refine awake_does.mono ?_
    rintro _ G2 ⟨rfl, rfl⟩
    simp
  rw [Bool.not_eq_true] at ga
  simp [ga, la, h0]
  refine (Great18_any kb hx.1).mono ?_
  rintro _ G1 ⟨rfl, hx2⟩
  replace hx := hx.trans hx2
  replace ka := ka.mono monoPE hx2
  replace kb := kb.mono monoPE hx2
  replace kc := kc.mono monoPS hx2
  (try replace b0 := hx2.blk b0)
  (try replace kj := kj.mono monoPE hx2)
  by_cases lb : 100 < b.length
  · simp [lb, r_7_2]
    refine awake_does.mono ?_
    rintro _ G2 ⟨rfl, rfl⟩
    simp
  by_cases gb : anyB longE b = true
  · simp [gb, lb, r_7_2]
    refine awake_does.mono ?_
    rintro _ G2 ⟨rfl, rfl⟩
    simp
  rw [Bool.not_eq_true] at gb
  simp [gb, lb, h0]
  have fr := RowsV.few kc hgr
  have hr : ∀ r ∈ rows, Few 6 r ∧ r.length < 1073741824 := fun r hr => ⟨fr r hr, by have := (hgr.2 r hr).1; omega⟩
  have hrl : rows.length < 1073741824 := by have := hgr.1; omega
  have fa := few_of ga
  have fb := few_of gb
  have fj := few_join fa fb (ExtsV.limE ka) (ExtsV.limE kb)
  have fm := few_meet fa fb (ExtsV.limE ka) (ExtsV.limE kb)
  refine W_draw ?_
  simp [r_7_3, b0, h0]
  refine (dom_Right_does (S := 6) (rows := rows) (n := n) ⟨s, rfl, kc⟩ ka (by have := hx.1; omega) (by decide) hr hrl fa (by omega)).mono ?_
  rintro _ G1 ⟨rfl, hx2⟩
  replace hx := hx.trans hx2
  replace ka := ka.mono monoPE hx2
  replace kb := kb.mono monoPE hx2
  replace kc := kc.mono monoPS hx2
  (try replace b0 := hx2.blk b0)
  (try replace kj := kj.mono monoPE hx2)
  simp [b0, h0]
  refine (r17_Values_does (S := 6) (rows := rows) (n := n) ⟨s, rfl, kc⟩ ka hx.1 (by decide) hr hrl fa (by omega)).mono ?_
  rintro _ G1 ⟨rfl, hx2⟩
  replace hx := hx.trans hx2
  replace ka := ka.mono monoPE hx2
  replace kb := kb.mono monoPE hx2
  replace kc := kc.mono monoPS hx2
  (try replace b0 := hx2.blk b0)
  (try replace kj := kj.mono monoPE hx2)
  simp [h0]
  refine (dom_Le_does ka kb hx.1 fa fb (by omega)).mono ?_
  rintro _ G1 ⟨rfl, hx2⟩
  replace hx := hx.trans hx2
  replace ka := ka.mono monoPE hx2
  replace kb := kb.mono monoPE hx2
  replace kc := kc.mono monoPS hx2
  (try replace b0 := hx2.blk b0)
  (try replace kj := kj.mono monoPE hx2)
  simp [h0]
  refine (r17_Le_does ka kb hx.1 fa fb (by omega)).mono ?_
  rintro _ G1 ⟨rfl, hx2⟩
  replace hx := hx.trans hx2
  replace ka := ka.mono monoPE hx2
  replace kb := kb.mono monoPE hx2
  replace kc := kc.mono monoPS hx2
  (try replace b0 := hx2.blk b0)
  (try replace kj := kj.mono monoPE hx2)
  simp [h0]
  refine (dom_Join_does ka kb hx.1 fa fb (by omega)).mono ?_
  rintro j G1 ⟨kj, hx2⟩
  have kj0 := kj
  replace hx := hx.trans hx2
  replace ka := ka.mono monoPE hx2
  replace kb := kb.mono monoPE hx2
  replace kc := kc.mono monoPS hx2
  (try replace b0 := hx2.blk b0)
  (try replace kj := kj.mono monoPE hx2)
  replace kj := kj0
  clear kj0
  simp [h0]
  refine (r17_Join_does ka kb hx.1 fa fb (by omega)).mono ?_
  rintro j' G1 ⟨kt, hx2⟩
  replace hx := hx.trans hx2
  replace ka := ka.mono monoPE hx2
  replace kb := kb.mono monoPE hx2
  replace kc := kc.mono monoPS hx2
  (try replace b0 := hx2.blk b0)
  (try replace kj := kj.mono monoPE hx2)
  simp [h0]
  refine (SameExts_does kj kt hx.1 fj (by simp; omega)).mono ?_
  rintro _ G1 ⟨rfl, hx2⟩
  clear kt kj
  replace hx := hx.trans hx2
  replace ka := ka.mono monoPE hx2
  replace kb := kb.mono monoPE hx2
  replace kc := kc.mono monoPS hx2
  (try replace b0 := hx2.blk b0)
  (try replace kj := kj.mono monoPE hx2)
  simp [h0]
  refine (dom_Meet_does ka kb hx.1 fa fb (by omega)).mono ?_
  rintro j G1 ⟨kj, hx2⟩
  have kj0 := kj
  replace hx := hx.trans hx2
  replace ka := ka.mono monoPE hx2
  replace kb := kb.mono monoPE hx2
  replace kc := kc.mono monoPS hx2
  (try replace b0 := hx2.blk b0)
  (try replace kj := kj.mono monoPE hx2)
  replace kj := kj0
  clear kj0
  simp [h0]
  refine (r17_Meet_does ka kb hx.1 fa fb (by omega)).mono ?_
  rintro j' G1 ⟨kt, hx2⟩
  replace hx := hx.trans hx2
  replace ka := ka.mono monoPE hx2
  replace kb := kb.mono monoPE hx2
  replace kc := kc.mono monoPS hx2
  (try replace b0 := hx2.blk b0)
  (try replace kj := kj.mono monoPE hx2)
  simp [h0]
  refine (SameExts_does kj kt hx.1 fm (by simp; omega)).mono ?_
  rintro _ G1 ⟨rfl, hx2⟩
  clear kt kj
  replace hx := hx.trans hx2
  replace ka := ka.mono monoPE hx2
  replace kb := kb.mono monoPE hx2
  replace kc := kc.mono monoPS hx2
  (try replace b0 := hx2.blk b0)
  (try replace kj := kj.mono monoPE hx2)
  simp
  refine awake_does.mono ?_
  rintro _ G2 ⟨rfl, rfl⟩
  simp

end Go.Proofs.YtjlohmnnldbjoaaGreat.AI
