/- Part 19 of the proof: AiRefB9, AiRefC3, AiRefB5, AiRefB6, AiRefB7, AiRefB8, AiRefC1, AiRefC2, AiRefC4, AiRefC5, AiRefC6, AiRefC7, AiLaw4. -/
import Derived.Test.YtjlohmnnldbjoaaGreatM06
import Derived.Test.YtjlohmnnldbjoaaGreatM07
import Derived.Test.YtjlohmnnldbjoaaGreatM17
set_option linter.unusedVariables false
set_option linter.unusedSimpArgs false
set_option linter.unusedSectionVars false

/- The reference's numbers: Div; its quotients: OfRat, Quo. -/
namespace Go.Proofs.YtjlohmnnldbjoaaGreat.AI
open Go
set_option maxHeartbeats 4000000

variable {fl : Nat} {H G : Heap} {R : PostP} {v w : Value} {i j : Bool × List Nat}

theorem r1_Div_does (h : IntV H v i) (k : IntV H w j) (hf : fl ≤ H.size) (hn : i.2.length < 268435456) (hm : j.2.length < 268435456) (hj0 : valI j ≠ 0) :
    Does env fl f_147 [v, w] H (fun r H' => (∃ q m, r = .tuple #[q, m, .int .i64 0] ∧ IntV H' q (canonI ((valI i).tdiv (valI j))) ∧ IntV H' m (canonI ((valI i).tmod (valI j)))) ∧ Ext H H') R := by
  have k0 := h
  have k1 := k
  have hok := h.ok
  have hok2 := k.ok
  obtain ⟨s, rfl, hs⟩ := h
  obtain ⟨u, rfl, hu⟩ := k
  refine does_ext e_147 hf (h := ?_)
  intro ρ h0
  simp [s_147, r_147_0, h0, hs.cells, hu.cells]
  generalize hG : Array.push (Array.push (Array.push (Array.push H _) _) _) _ = G
  have hx2 : Ext H G := by rw [← hG]; exact (Ext.refl H).push.push.push.push
  have b0 : Heap.blk G H.size = .row false T_api_Int [.bool i.1, s] := by rw [← hG]; simp
  have b1 : Heap.blk G (H.size + 1) = .row false T_api_Int [.bool j.1, u] := by rw [← hG]; simp
  have b2 : Heap.blk G (H.size + 2) = .row false T_api_Int [.bool false, .slice none 0 0] := by rw [← hG]; simp
  have b3 : Heap.blk G (H.size + 3) = .row false T_api_Int [.bool false, .slice none 0 0] := by rw [← hG]; simp
  have hx := Ext.refl H
  clear hG
  (try replace b0:=hx2.blk b0);(try replace b1:=hx2.blk b1);(try replace b2:=hx2.blk b2);(try replace b3:=hx2.blk b3);(try replace hx:=hx.trans hx2);(try replace k0:=k0.mono hx2);(try replace k1:=k1.mono hx2);(try replace k2:=k2.mono hx2);(try replace k3:=k3.mono hx2);(try replace k4:=k4.mono hx2);(try replace k5:=k5.mono hx2);(try replace k6:=k6.mono hx2);(try replace k7 := k7.mono hx2)
  simp [r_147_1, b0]
  refine (r1_norm_does k0 hx.1 (by omega)).mono ?_
  rintro _ G2 ⟨⟨s1, rfl, k2⟩, hx2⟩
  (try replace b0:=hx2.blk b0);(try replace b1:=hx2.blk b1);(try replace b2:=hx2.blk b2);(try replace b3:=hx2.blk b3);(try replace hx:=hx.trans hx2);(try replace k0:=k0.mono hx2);(try replace k1:=k1.mono hx2);(try replace k2:=k2.mono hx2);(try replace k3:=k3.mono hx2);(try replace k4:=k4.mono hx2);(try replace k5:=k5.mono hx2);(try replace k6:=k6.mono hx2);(try replace k7 := k7.mono hx2)
  have hsz := hx.1
  simp [b0, k2.cells, k2.plain, hsz]
  generalize hS : Array.setIfInBounds G2 _ _ = G3
  have hsz := hx.1; (try replace k0 := k0.setS hS b0 (by decide)); (try replace k1 := k1.setS hS b0 (by decide)); (try replace k2 := k2.setS hS b0 (by decide)); (try replace k3 := k3.setS hS b0 (by decide)); (try replace k4 := k4.setS hS b0 (by decide)); (try replace k5 := k5.setS hS b0 (by decide)); (try replace k6 := k6.setS hS b0 (by decide)); (try replace k7 := k7.setS hS b0 (by decide)); (try replace b1 := set_keep hS b1 (by omega)); (try replace b2 := set_keep hS b2 (by omega)); (try replace b3 := set_keep hS b3 (by omega)); (try replace hx := set_ext hS hx (by omega)); replace b0 := set_new hS b0; clear hS hsz
  simp [r_147_2, b1]
  refine (r1_norm_does k1 hx.1 (by omega)).mono ?_
  rintro _ G2 ⟨⟨s2, rfl, k3⟩, hx2⟩
  (try replace b0:=hx2.blk b0);(try replace b1:=hx2.blk b1);(try replace b2:=hx2.blk b2);(try replace b3:=hx2.blk b3);(try replace hx:=hx.trans hx2);(try replace k0:=k0.mono hx2);(try replace k1:=k1.mono hx2);(try replace k2:=k2.mono hx2);(try replace k3:=k3.mono hx2);(try replace k4:=k4.mono hx2);(try replace k5:=k5.mono hx2);(try replace k6:=k6.mono hx2);(try replace k7 := k7.mono hx2)
  have hsz := hx.1
  simp [b1, k3.cells, k3.plain, hsz]
  generalize hS : Array.setIfInBounds G2 _ _ = G4
  have hsz := hx.1; (try replace k0 := k0.setS hS b1 (by decide)); (try replace k1 := k1.setS hS b1 (by decide)); (try replace k2 := k2.setS hS b1 (by decide)); (try replace k3 := k3.setS hS b1 (by decide)); (try replace k4 := k4.setS hS b1 (by decide)); (try replace k5 := k5.setS hS b1 (by decide)); (try replace k6 := k6.setS hS b1 (by decide)); (try replace k7 := k7.setS hS b1 (by decide)); (try replace b0 := set_keep hS b0 (by omega)); (try replace b2 := set_keep hS b2 (by omega)); (try replace b3 := set_keep hS b3 (by omega)); (try replace hx := set_ext hS hx (by omega)); replace b1 := set_new hS b1; clear hS hsz
  clear k0 k1
  have hl := len_digits_val hok
  have hl2 := len_digits_val hok2
  obtain ⟨x, hx'⟩ : ∃ x, valI i = x := ⟨_, rfl⟩
  obtain ⟨y, hy'⟩ : ∃ y, valI j = y := ⟨_, rfl⟩
  rw [hx'] at b0 k2 hl ⊢
  rw [hy'] at b1 k3 hl2 hj0 ⊢
  have hpos : 0 < y.natAbs := by omega
  have hne : ¬ digits y.natAbs = [] := by intro h; have := digits_pos_len hpos; rw [h] at this; simp at this
  have c1 : (canonI x).1 = decide (x < 0) := rfl
  have c2 : (canonI y).1 = decide (y < 0) := rfl
  rw [c1] at b0
  rw [c2] at b1
  have hsl : slenV s2 = some (.int .i64 ((digits y.natAbs).length : Int)) := k3.slen
  have k2' : Lim G4 s1 (digits x.natAbs) := k2
  have k3' : Lim G4 s2 (digits y.natAbs) := k3
  clear k2 k3
  simp [r_147_3, b1, hsl, hne, r_147_5, b0]
  refine (r1_divmod_does k2' k3' hpos hx.1 (by omega) (by omega)).mono ?_
  rintro _ G2 ⟨⟨p, q, rfl, k4, k5⟩, hx2⟩
  (try replace b0:=hx2.blk b0);(try replace b1:=hx2.blk b1);(try replace b2:=hx2.blk b2);(try replace b3:=hx2.blk b3);(try replace hx:=hx.trans hx2);(try replace k0:=k0.mono hx2);(try replace k1:=k1.mono hx2);(try replace k2:=k2.mono hx2);(try replace k3:=k3.mono hx2);(try replace k4:=k4.mono hx2);(try replace k5:=k5.mono hx2);(try replace k6:=k6.mono hx2);(try replace k7 := k7.mono hx2)
  have e1 := tdiv_parts x y
  have e2 := tmod_parts x y
  have e3 : (digits (x.natAbs / y.natAbs)).length ≤ (digits x.natAbs).length := digits_mono (Nat.div_le_self _ _)
  have e4 : (digits (x.natAbs % y.natAbs)).length ≤ (digits y.natAbs).length := digits_mono (Nat.le_of_lt (Nat.mod_lt _ hpos))
  simp
  refine W_draw ?_
  simp [r_147_6, b0, b1]
  refine (r1_mk_does (x.tdiv y) k4 (by have := hx.1; omega) (by omega) (by rw [natL_digits, ← e1])).mono ?_
  rintro _ G5 ⟨⟨s3, rfl, k6⟩, hx2⟩
  (try replace b0:=hx2.blk b0);(try replace b1:=hx2.blk b1);(try replace b2:=hx2.blk b2);(try replace b3:=hx2.blk b3);(try replace hx:=hx.trans hx2);(try replace k0:=k0.mono hx2);(try replace k1:=k1.mono hx2);(try replace k2:=k2.mono hx2);(try replace k3:=k3.mono hx2);(try replace k4:=k4.mono hx2);(try replace k5:=k5.mono hx2);(try replace k6:=k6.mono hx2);(try replace k7 := k7.mono hx2)
  simp [b0]
  refine (r1_mk_does (x.tmod y) k5 hx.1 (by omega) (by rw [natL_digits, ← e2])).mono ?_
  rintro _ G5 ⟨⟨s4, rfl, k7⟩, hx2⟩
  (try replace b0:=hx2.blk b0);(try replace b1:=hx2.blk b1);(try replace b2:=hx2.blk b2);(try replace b3:=hx2.blk b3);(try replace hx:=hx.trans hx2);(try replace k0:=k0.mono hx2);(try replace k1:=k1.mono hx2);(try replace k2:=k2.mono hx2);(try replace k3:=k3.mono hx2);(try replace k4:=k4.mono hx2);(try replace k5:=k5.mono hx2);(try replace k6:=k6.mono hx2);(try replace k7 := k7.mono hx2)
  have hsz := hx.1
  simp [b2, k6.cells, k6.plain, hsz]
  generalize hS : Array.setIfInBounds G5 _ _ = G6
  have hsz := hx.1; (try replace k0 := k0.setS hS b2 (by decide)); (try replace k1 := k1.setS hS b2 (by decide)); (try replace k2 := k2.setS hS b2 (by decide)); (try replace k3 := k3.setS hS b2 (by decide)); (try replace k4 := k4.setS hS b2 (by decide)); (try replace k5 := k5.setS hS b2 (by decide)); (try replace k6 := k6.setS hS b2 (by decide)); (try replace k7 := k7.setS hS b2 (by decide)); (try replace b0 := set_keep hS b0 (by omega)); (try replace b1 := set_keep hS b1 (by omega)); (try replace b3 := set_keep hS b3 (by omega)); (try replace hx := set_ext hS hx (by omega)); replace b2 := set_new hS b2; clear hS hsz
  have hsz := hx.1
  have hz3 := blk_lt b3
  simp [b2, b3, k7.cells, k7.plain, hsz, hz3]
  exact fun _ => ⟨_, _, ⟨rfl, rfl⟩, ⟨s3, rfl, k6.setT b3 (by decide)⟩, ⟨s4, rfl, k7.setT b3 (by decide)⟩⟩

theorem r1_OfRat_does {n : Int} (hf : fl ≤ H.size) (h1 : -9223372036854775808 ≤ n) (h2 : n < 9223372036854775808) : Does env fl f_12 [.int .i64 n] H (fun r H' => RatV H' r (canonR n) ∧ Ext H H') R := by
  refine does_ext e_12 hf (h := ?_)
  intro ρ h0
  simp [s_12, r_12_0, r_12_1, h0]
  generalize hG : Array.push H _ = G
  obtain ⟨hx2, b0⟩ := new0 hG
  have hx := Ext.refl H
  clear hG
  (try replace b0:=hx2.blk b0);(try replace hx:=hx.trans hx2);(try replace k1:=k1.mono hx2);(try replace k2 := k2.mono hx2)
  refine (r1_Of_does hx.1 h1 h2).mono ?_
  rintro _ G2 ⟨⟨s1, rfl, k1⟩, hx2⟩
  (try replace b0:=hx2.blk b0);(try replace hx:=hx.trans hx2);(try replace k1:=k1.mono hx2);(try replace k2 := k2.mono hx2)
  simp
  refine (r1_Of_does hx.1 (by omega) (by omega)).mono ?_
  rintro _ G2 ⟨⟨s2, rfl, k2⟩, hx2⟩
  (try replace b0:=hx2.blk b0);(try replace hx:=hx.trans hx2);(try replace k1:=k1.mono hx2);(try replace k2 := k2.mono hx2)
  have hsz := hx.1
  simp [b0, k1.cells, k1.plain, k2.cells, k2.plain, hsz, writeL]
  generalize hS : Array.setIfInBounds G2 _ _ = G5
  have hsz := hx.1; (try replace k1 := k1.setS hS b0 (by decide)); (try replace k2 := k2.setS hS b0 (by decide)); (try replace hx := set_ext hS hx (by omega)); replace b0 := set_new hS b0; clear hS hsz
  simp [b0]
  have hc : canonR (n : Rat) = (canonI n, canonI 1) := by
    unfold canonR; rw [Rat.num_intCast, Rat.den_intCast]; rfl
  rw [hc]
  exact fun _ => ⟨s1, s2, rfl, k1, k2⟩

theorem r1_Quo_does (h : IntV H v i) (k : IntV H w j) (hf : fl ≤ H.size) (hn : i.2.length < 268435456) (hm : j.2.length < 268435456) (hj0 : valI j ≠ 0) :
    Does env fl f_114 [v, w] H (fun r H' => (∃ q, r = .tuple #[q, .int .i64 0] ∧ RatV H' q (canonR (Rat.divInt (valI i) (valI j)))) ∧ Ext H H') R := by
  have k0 := h
  have k1 := k
  have hok := h.ok
  have hok2 := k.ok
  obtain ⟨s, rfl, hs⟩ := h
  obtain ⟨u, rfl, hu⟩ := k
  refine does_ext e_114 hf (h := ?_)
  intro ρ h0
  simp [s_114, r_114_0, h0, hs.cells, hu.cells]
  generalize hG : Array.push (Array.push (Array.push H _) _) _ = G
  have hx2 : Ext H G := by rw [← hG]; exact (Ext.refl H).push.push.push
  have b0 : Heap.blk G H.size = .row false T_api_Int [.bool i.1, s] := by rw [← hG]; simp
  have b1 : Heap.blk G (H.size + 1) = .row false T_api_Int [.bool j.1, u] := by rw [← hG]; simp
  have b2 : Heap.blk G (H.size + 2) = .row false T_api_Rat [.bool false, .slice none 0 0, .bool false, .slice none 0 0] := by rw [← hG]; simp
  have hx := Ext.refl H
  clear hG
  (try replace b0:=hx2.blk b0);(try replace b1:=hx2.blk b1);(try replace b2:=hx2.blk b2);(try replace b3:=hx2.blk b3);(try replace b4:=hx2.blk b4);(try replace b5:=hx2.blk b5);(try replace hx:=hx.trans hx2);(try replace k0:=k0.mono hx2);(try replace k1:=k1.mono hx2);(try replace k2:=k2.mono hx2);(try replace k3:=k3.mono hx2);(try replace k4:=k4.mono hx2);(try replace k5:=k5.mono hx2);(try replace k6:=k6.mono hx2);(try replace k7 := k7.mono hx2)
  simp [r_114_1, b0]
  refine (r1_norm_does k0 hx.1 (by omega)).mono ?_
  rintro _ G2 ⟨⟨s1, rfl, k2⟩, hx2⟩
  (try replace b0:=hx2.blk b0);(try replace b1:=hx2.blk b1);(try replace b2:=hx2.blk b2);(try replace b3:=hx2.blk b3);(try replace b4:=hx2.blk b4);(try replace b5:=hx2.blk b5);(try replace hx:=hx.trans hx2);(try replace k0:=k0.mono hx2);(try replace k1:=k1.mono hx2);(try replace k2:=k2.mono hx2);(try replace k3:=k3.mono hx2);(try replace k4:=k4.mono hx2);(try replace k5:=k5.mono hx2);(try replace k6:=k6.mono hx2);(try replace k7 := k7.mono hx2)
  have hsz := hx.1
  simp [b0, k2.cells, k2.plain, hsz]
  generalize hS : Array.setIfInBounds G2 _ _ = G3
  have hsz := hx.1; (try replace k0 := k0.setS hS b0 (by decide)); (try replace k1 := k1.setS hS b0 (by decide)); (try replace k2 := k2.setS hS b0 (by decide)); (try replace k3 := k3.setS hS b0 (by decide)); (try replace k4 := k4.setS hS b0 (by decide)); (try replace k5 := k5.setS hS b0 (by decide)); (try replace k6 := k6.setS hS b0 (by decide)); (try replace k7 := k7.setS hS b0 (by decide)); (try replace b1 := set_keep hS b1 (by omega)); (try replace b2 := set_keep hS b2 (by omega)); (try replace b3 := set_keep hS b3 (by omega)); (try replace b4 := set_keep hS b4 (by omega)); (try replace b5 := set_keep hS b5 (by omega)); (try replace hx := set_ext hS hx (by omega)); replace b0 := set_new hS b0; clear hS hsz
  simp [r_114_2, b1]
  refine (r1_norm_does k1 hx.1 (by omega)).mono ?_
  rintro _ G2 ⟨⟨s2, rfl, k3⟩, hx2⟩
  (try replace b0:=hx2.blk b0);(try replace b1:=hx2.blk b1);(try replace b2:=hx2.blk b2);(try replace b3:=hx2.blk b3);(try replace b4:=hx2.blk b4);(try replace b5:=hx2.blk b5);(try replace hx:=hx.trans hx2);(try replace k0:=k0.mono hx2);(try replace k1:=k1.mono hx2);(try replace k2:=k2.mono hx2);(try replace k3:=k3.mono hx2);(try replace k4:=k4.mono hx2);(try replace k5:=k5.mono hx2);(try replace k6:=k6.mono hx2);(try replace k7 := k7.mono hx2)
  have hsz := hx.1
  simp [b1, k3.cells, k3.plain, hsz]
  generalize hS : Array.setIfInBounds G2 _ _ = G4
  have hsz := hx.1; (try replace k0 := k0.setS hS b1 (by decide)); (try replace k1 := k1.setS hS b1 (by decide)); (try replace k2 := k2.setS hS b1 (by decide)); (try replace k3 := k3.setS hS b1 (by decide)); (try replace k4 := k4.setS hS b1 (by decide)); (try replace k5 := k5.setS hS b1 (by decide)); (try replace k6 := k6.setS hS b1 (by decide)); (try replace k7 := k7.setS hS b1 (by decide)); (try replace b0 := set_keep hS b0 (by omega)); (try replace b2 := set_keep hS b2 (by omega)); (try replace b3 := set_keep hS b3 (by omega)); (try replace b4 := set_keep hS b4 (by omega)); (try replace b5 := set_keep hS b5 (by omega)); (try replace hx := set_ext hS hx (by omega)); replace b1 := set_new hS b1; clear hS hsz
  clear k0 k1
  have hl := len_digits_val hok
  have hl2 := len_digits_val hok2
  obtain ⟨x, hx'⟩ : ∃ x, valI i = x := ⟨_, rfl⟩
  obtain ⟨y, hy'⟩ : ∃ y, valI j = y := ⟨_, rfl⟩
  rw [hx'] at b0 k2 hl ⊢
  rw [hy'] at b1 k3 hl2 hj0 ⊢
  have hpos : 0 < y.natAbs := by omega
  have hne : ¬ digits y.natAbs = [] := by intro h; have := digits_pos_len hpos; rw [h] at this; simp at this
  have hsl : slenV s2 = some (.int .i64 ((digits y.natAbs).length : Int)) := k3.slen
  have k4 : IntV G4 (.agg #[.bool (canonI x).1, s1]) (canonI x) := ⟨s1, rfl, k2⟩
  have k5 : IntV G4 (.agg #[.bool (canonI y).1, s2]) (canonI y) := ⟨s2, rfl, k3⟩
  clear k2 k3
  have lx : (canonI x).2.length = lz x := rfl
  have ly : (canonI y).2.length = lz y := rfl
  change lz x ≤ _ at hl
  change lz y ≤ _ at hl2
  have hgl : lz (Int.gcd x y : Int) ≤ lz y := by
    have h5 : Int.gcd x y ≤ y.natAbs := Int.gcd_le_natAbs_right _ hj0
    exact digits_mono (by simpa using h5)
  simp [r_114_3, b1, hsl, hne, r_114_5, b0]
  refine (r1_Gcd_does k4 k5 hx.1 (by omega) (by omega)).mono ?_
  rintro _ G2 ⟨⟨s3, rfl, k6⟩, hx2⟩
  (try replace b0:=hx2.blk b0);(try replace b1:=hx2.blk b1);(try replace b2:=hx2.blk b2);(try replace b3:=hx2.blk b3);(try replace b4:=hx2.blk b4);(try replace b5:=hx2.blk b5);(try replace hx:=hx.trans hx2);(try replace k0:=k0.mono hx2);(try replace k1:=k1.mono hx2);(try replace k2:=k2.mono hx2);(try replace k3:=k3.mono hx2);(try replace k4:=k4.mono hx2);(try replace k5:=k5.mono hx2);(try replace k6:=k6.mono hx2);(try replace k7 := k7.mono hx2)
  rw [val_canon, val_canon] at k6 ⊢
  have hsz := hx.1
  simp [k6.cells, k6.plain, hsz]
  generalize hN : Array.setIfInBounds (Array.push _ _) _ _ = G3
  obtain ⟨hx2, b3⟩ := new1 hN
  have hb2l := blk_lt b2
  clear hN
  (try replace b0:=hx2.blk b0);(try replace b1:=hx2.blk b1);(try replace b2:=hx2.blk b2);(try replace b3:=hx2.blk b3);(try replace b4:=hx2.blk b4);(try replace b5:=hx2.blk b5);(try replace hx:=hx.trans hx2);(try replace k0:=k0.mono hx2);(try replace k1:=k1.mono hx2);(try replace k2:=k2.mono hx2);(try replace k3:=k3.mono hx2);(try replace k4:=k4.mono hx2);(try replace k5:=k5.mono hx2);(try replace k6:=k6.mono hx2);(try replace k7 := k7.mono hx2)
  obtain ⟨P, hP⟩ : ∃ P, P = G2.size := ⟨_, rfl⟩
  rw [← hP] at b3 hsz hb2l ⊢
  obtain ⟨g, hg⟩ : ∃ g : Int, g = (Int.gcd x y : Int) := ⟨_, rfl⟩
  rw [← hg] at k6 b3 hgl ⊢
  have hg0 : g ≠ 0 := by
    have := Int.gcd_pos_of_ne_zero_right x hj0
    omega
  have k7 : IntV G3 (.agg #[.bool (canonI g).1, s3]) (canonI g) := ⟨s3, rfl, k6⟩
  have lg : (canonI g).2.length = lz g := rfl
  clear k6
  have hdx : lz (x.tdiv g) ≤ lz x := lz_mono (by rw [Int.natAbs_tdiv]; exact Nat.div_le_self _ _)
  have hdy : lz (y.tdiv g) ≤ lz y := lz_mono (by rw [Int.natAbs_tdiv]; exact Nat.div_le_self _ _)
  simp [r_114_6, b0, b3]
  refine (r1_Div_does k4 k7 hx.1 (by omega) (by omega) (by rw [val_canon]; exact hg0)).mono ?_
  rintro _ G2 ⟨⟨_, _, rfl, ⟨s4, rfl, k0⟩, ⟨s5, rfl, k1⟩⟩, hx2⟩
  (try replace b0:=hx2.blk b0);(try replace b1:=hx2.blk b1);(try replace b2:=hx2.blk b2);(try replace b3:=hx2.blk b3);(try replace b4:=hx2.blk b4);(try replace b5:=hx2.blk b5);(try replace hx:=hx.trans hx2);(try replace k0:=k0.mono hx2);(try replace k1:=k1.mono hx2);(try replace k2:=k2.mono hx2);(try replace k3:=k3.mono hx2);(try replace k4:=k4.mono hx2);(try replace k5:=k5.mono hx2);(try replace k6:=k6.mono hx2);(try replace k7 := k7.mono hx2)
  rw [val_canon, val_canon] at k0 k1 ⊢
  generalize x.tmod g = m1 at k1 ⊢
  have hsz := hx.1
  have hb3l := blk_lt b3
  have hsz' : H.size ≤ G2.size + 1 := by omega
  simp [k0.cells, k0.plain, k1.cells, k1.plain, hsz, hsz']
  generalize hN : Array.setIfInBounds _ (Array.size G2 + 1) _ = G5
  obtain ⟨hx2, b4⟩ : Ext G2 G5 ∧ Heap.blk G5 G2.size = .row false T_api_Int [.bool (canonI (x.tdiv g)).1, s4] := by
    rw [← hN]
    exact ⟨((Ext.refl G2).push.push.set (Nat.le_refl _)).set (Nat.le_succ _), by rw [blk_set_ne (Nat.succ_ne_self _), blk_set_self (by simp)]⟩
  clear hN k1
  (try replace b0:=hx2.blk b0);(try replace b1:=hx2.blk b1);(try replace b2:=hx2.blk b2);(try replace b3:=hx2.blk b3);(try replace b4:=hx2.blk b4);(try replace b5:=hx2.blk b5);(try replace hx:=hx.trans hx2);(try replace k0:=k0.mono hx2);(try replace k1:=k1.mono hx2);(try replace k2:=k2.mono hx2);(try replace k3:=k3.mono hx2);(try replace k4:=k4.mono hx2);(try replace k5:=k5.mono hx2);(try replace k6:=k6.mono hx2);(try replace k7 := k7.mono hx2)
  obtain ⟨P4, hP4⟩ : ∃ P, P = G2.size := ⟨_, rfl⟩
  rw [← hP4] at b4 hsz hb3l ⊢
  simp [r_114_7, b1, b3]
  refine (r1_Div_does k5 k7 hx.1 (by omega) (by omega) (by rw [val_canon]; exact hg0)).mono ?_
  rintro _ G6 ⟨⟨_, _, rfl, ⟨s6, rfl, k1⟩, ⟨s7, rfl, k2⟩⟩, hx2⟩
  (try replace b0:=hx2.blk b0);(try replace b1:=hx2.blk b1);(try replace b2:=hx2.blk b2);(try replace b3:=hx2.blk b3);(try replace b4:=hx2.blk b4);(try replace b5:=hx2.blk b5);(try replace hx:=hx.trans hx2);(try replace k0:=k0.mono hx2);(try replace k1:=k1.mono hx2);(try replace k2:=k2.mono hx2);(try replace k3:=k3.mono hx2);(try replace k4:=k4.mono hx2);(try replace k5:=k5.mono hx2);(try replace k6:=k6.mono hx2);(try replace k7 := k7.mono hx2)
  rw [val_canon, val_canon] at k1 k2 ⊢
  generalize y.tmod g = m2 at k2 ⊢
  have hsz2 := hx.1
  have hb4l := blk_lt b4
  have hsz' : H.size ≤ G6.size + 1 := by omega
  simp [k1.cells, k1.plain, k2.cells, k2.plain, hsz2, hsz']
  generalize hN : Array.setIfInBounds _ (Array.size G6 + 1) _ = G7
  obtain ⟨hx2, b5⟩ : Ext G6 G7 ∧ Heap.blk G7 G6.size = .row false T_api_Int [.bool (canonI (y.tdiv g)).1, s6] := by
    rw [← hN]
    exact ⟨((Ext.refl G6).push.push.set (Nat.le_refl _)).set (Nat.le_succ _), by rw [blk_set_ne (Nat.succ_ne_self _), blk_set_self (by simp)]⟩
  clear hN k2
  (try replace b0:=hx2.blk b0);(try replace b1:=hx2.blk b1);(try replace b2:=hx2.blk b2);(try replace b3:=hx2.blk b3);(try replace b4:=hx2.blk b4);(try replace b5:=hx2.blk b5);(try replace hx:=hx.trans hx2);(try replace k0:=k0.mono hx2);(try replace k1:=k1.mono hx2);(try replace k2:=k2.mono hx2);(try replace k3:=k3.mono hx2);(try replace k4:=k4.mono hx2);(try replace k5:=k5.mono hx2);(try replace k6:=k6.mono hx2);(try replace k7 := k7.mono hx2)
  obtain ⟨P5, hP5⟩ : ∃ P, P = G6.size := ⟨_, rfl⟩
  rw [← hP5] at b5 hsz2 hb4l ⊢
  have j4 : IntV G7 (.agg #[.bool (canonI (x.tdiv g)).1, s4]) (canonI (x.tdiv g)) := ⟨s4, rfl, k0⟩
  have j5 : IntV G7 (.agg #[.bool (canonI (y.tdiv g)).1, s6]) (canonI (y.tdiv g)) := ⟨s6, rfl, k1⟩
  have cy : (canonI (y.tdiv g)).1 = decide (y.tdiv g < 0) := rfl
  obtain ⟨g', hg'⟩ : ∃ g', g' = if y < 0 then -(Int.gcd x y : Int) else (Int.gcd x y : Int) := ⟨_, rfl⟩
  obtain ⟨hq, hg0'⟩ := quo_canon (p := x) hj0 hg'
  rw [hq]
  have hgpos : 0 < g := by omega
  have hsg : y.tdiv g < 0 ↔ y < 0 := by
    have e2 : y.tdiv g * g = y := Int.tdiv_mul_cancel (by rw [hg]; exact Int.gcd_dvd_right ..)
    constructor
    · intro h
      rw [← e2]; exact Int.mul_neg_of_neg_of_pos h hgpos
    · intro h
      by_cases h2 : y.tdiv g < 0
      · exact h2
      · have := Int.mul_nonneg (show 0 ≤ y.tdiv g by omega) (show 0 ≤ g by omega); omega
  simp [r_114_8, b5]
  by_cases hneg : y < 0
  · rw [if_pos hneg, ← hg] at hg'
    have c1 : decide (y.tdiv g < 0) = true := by simp [hsg, hneg]
    rw [cy, c1]
    have cl1 : (canonI (x.tdiv g)).2.length = lz (x.tdiv g) := rfl
    have cl2 : (canonI (y.tdiv g)).2.length = lz (y.tdiv g) := rfl
    simp [r_114_9, b4]
    refine (r1_Neg_does j4 hx.1 (by omega)).mono ?_
    rintro _ G2 ⟨⟨s8, rfl, k2⟩, hx2⟩
    replace j5 := j5.mono hx2
    (try replace b0:=hx2.blk b0);(try replace b1:=hx2.blk b1);(try replace b2:=hx2.blk b2);(try replace b3:=hx2.blk b3);(try replace b4:=hx2.blk b4);(try replace b5:=hx2.blk b5);(try replace hx:=hx.trans hx2);(try replace k0:=k0.mono hx2);(try replace k1:=k1.mono hx2);(try replace k2:=k2.mono hx2);(try replace k3:=k3.mono hx2);(try replace k4:=k4.mono hx2);(try replace k5:=k5.mono hx2);(try replace k6:=k6.mono hx2);(try replace k7 := k7.mono hx2)
    rw [val_canon] at k2 ⊢
    have hb4l' := blk_lt b4
    simp [b4, k2.cells, k2.plain, hsz]
    generalize hS : Array.setIfInBounds G2 _ _ = G8
    replace j5 := j5.setS hS b4 (by decide)
    have hsz := hx.1; (try replace k0 := k0.setS hS b4 (by decide)); (try replace k1 := k1.setS hS b4 (by decide)); (try replace k2 := k2.setS hS b4 (by decide)); (try replace k3 := k3.setS hS b4 (by decide)); (try replace k4 := k4.setS hS b4 (by decide)); (try replace k5 := k5.setS hS b4 (by decide)); (try replace k6 := k6.setS hS b4 (by decide)); (try replace k7 := k7.setS hS b4 (by decide)); (try replace b0 := set_keep hS b0 (by omega)); (try replace b1 := set_keep hS b1 (by omega)); (try replace b2 := set_keep hS b2 (by omega)); (try replace b3 := set_keep hS b3 (by omega)); (try replace b5 := set_keep hS b5 (by omega)); (try replace hx := set_ext hS hx (by omega)); replace b4 := set_new hS b4; clear hS hsz
    simp [r_114_10, b5]
    refine (r1_Neg_does j5 hx.1 (by omega)).mono ?_
    rintro _ G2 ⟨⟨s9, rfl, k3⟩, hx2⟩
    (try replace b0:=hx2.blk b0);(try replace b1:=hx2.blk b1);(try replace b2:=hx2.blk b2);(try replace b3:=hx2.blk b3);(try replace b4:=hx2.blk b4);(try replace b5:=hx2.blk b5);(try replace hx:=hx.trans hx2);(try replace k0:=k0.mono hx2);(try replace k1:=k1.mono hx2);(try replace k2:=k2.mono hx2);(try replace k3:=k3.mono hx2);(try replace k4:=k4.mono hx2);(try replace k5:=k5.mono hx2);(try replace k6:=k6.mono hx2);(try replace k7 := k7.mono hx2)
    rw [val_canon] at k3 ⊢
    simp [b5, k3.cells, k3.plain, hsz2]
    generalize hS : Array.setIfInBounds G2 _ _ = G9
    have hsz := hx.1; (try replace k0 := k0.setS hS b5 (by decide)); (try replace k1 := k1.setS hS b5 (by decide)); (try replace k2 := k2.setS hS b5 (by decide)); (try replace k3 := k3.setS hS b5 (by decide)); (try replace k4 := k4.setS hS b5 (by decide)); (try replace k5 := k5.setS hS b5 (by decide)); (try replace k6 := k6.setS hS b5 (by decide)); (try replace k7 := k7.setS hS b5 (by decide)); (try replace b0 := set_keep hS b0 (by omega)); (try replace b1 := set_keep hS b1 (by omega)); (try replace b2 := set_keep hS b2 (by omega)); (try replace b3 := set_keep hS b3 (by omega)); (try replace b4 := set_keep hS b4 (by omega)); (try replace hx := set_ext hS hx (by omega)); replace b5 := set_new hS b5; clear hS hsz
    have hz := blk_lt b2
    have hsz := hx.1
    have t1 : x.tdiv g' = -(x.tdiv g) := by rw [hg', Int.tdiv_neg]
    have t2 : y.tdiv g' = -(y.tdiv g) := by rw [hg', Int.tdiv_neg]
    rw [t1, t2]
    simp [r_114_11, b4, b5, b2, k2.cells, k2.plain, k3.cells, k3.plain, hz]
    exact fun _ => ⟨s8, s9, rfl, k2.setT b2 (by decide), k3.setT b2 (by decide)⟩
  · rw [if_neg hneg, ← hg] at hg'
    have c1 : decide (y.tdiv g < 0) = false := by simp [hsg]; omega
    rw [cy, c1] at b5
    have hz := blk_lt b2
    have hsz := hx.1
    rw [cy, c1]
    have cq : (canonI (y.tdiv g)).1 = false := by rw [cy, c1]
    rw [hg']
    simp [r_114_11, b4, b5, b2, k0.cells, k0.plain, k1.cells, k1.plain, hz]
    refine fun _ => ⟨s4, s6, by rw [cq], k0.setT b2 (by decide), k1.setT b2 (by decide)⟩

end Go.Proofs.YtjlohmnnldbjoaaGreat.AI

/- The reference's quotients: AddRat, MulRat. -/
namespace Go.Proofs.YtjlohmnnldbjoaaGreat.AI
open Go
set_option maxHeartbeats 4000000

variable {fl : Nat} {H G : Heap} {R : PostP} {v w : Value} {a b : RawR}


theorem r1_MulRat_does (h : RatV H v a) (k : RatV H w b) (hf : fl ≤ H.size) (hn : lenR a < 67108864) (hm : lenR b < 67108864) : Does env fl f_83 [v, w] H (fun r H' => RatV H' r (canonR (valR a * valR b)) ∧ Ext H H') R := by
  have k0 := h
  have k1 := k
  obtain ⟨s, u, rfl, hs, hu⟩ := h
  obtain ⟨s', u', rfl, hs', hu'⟩ := k
  have z1 := szR_val hs.ok hu.ok
  have z2 := szR_val hs'.ok hu'.ok
  refine does_ext e_83 hf (h := ?_)
  intro ρ h0
  simp [s_83, r_83_0, h0, hs.cells, hu.cells, hs'.cells, hu'.cells]
  generalize hG : Array.push (Array.push (Array.push H _) _) _ = G
  have hx2 : Ext H G := by rw [← hG]; exact (Ext.refl H).push.push.push
  have b0 : Heap.blk G H.size = .row false T_api_Rat [.bool a.1.1, s, .bool a.2.1, u] := by rw [← hG]; simp
  have b1 : Heap.blk G (H.size + 1) = .row false T_api_Rat [.bool b.1.1, s', .bool b.2.1, u'] := by rw [← hG]; simp
  have b2 : Heap.blk G (H.size + 2) = .row false T_api_Rat [.bool false, .slice none 0 0, .bool false, .slice none 0 0] := by rw [← hG]; simp
  have hx := Ext.refl H
  clear hG
  (try replace b0:=hx2.blk b0);(try replace b1:=hx2.blk b1);(try replace b2:=hx2.blk b2);(try replace b3:=hx2.blk b3);(try replace hx:=hx.trans hx2);(try replace k0:=k0.mono hx2);(try replace k1:=k1.mono hx2);(try replace k2:=k2.mono hx2);(try replace k3:=k3.mono hx2);(try replace k4:=k4.mono hx2);(try replace k5:=k5.mono hx2);(try replace k6:=k6.mono hx2);(try replace k7 := k7.mono hx2)
  simp [r_83_1, b0]
  refine (r1_NormRat_does k0 hx.1 (by omega)).mono ?_
  rintro _ G2 ⟨⟨s1, u1, rfl, k2, k3⟩, hx2⟩
  (try replace b0:=hx2.blk b0);(try replace b1:=hx2.blk b1);(try replace b2:=hx2.blk b2);(try replace b3:=hx2.blk b3);(try replace hx:=hx.trans hx2);(try replace k0:=k0.mono hx2);(try replace k1:=k1.mono hx2);(try replace k2:=k2.mono hx2);(try replace k3:=k3.mono hx2);(try replace k4:=k4.mono hx2);(try replace k5:=k5.mono hx2);(try replace k6:=k6.mono hx2);(try replace k7 := k7.mono hx2)
  have hsz := hx.1
  simp [b0, k2.cells, k2.plain, k3.cells, k3.plain, hsz]
  generalize hS : Array.setIfInBounds G2 _ _ = G3
  have hsz := hx.1; (try replace k0 := k0.setS hS b0 (by decide)); (try replace k1 := k1.setS hS b0 (by decide)); (try replace k2 := k2.setS hS b0 (by decide)); (try replace k3 := k3.setS hS b0 (by decide)); (try replace k4 := k4.setS hS b0 (by decide)); (try replace k5 := k5.setS hS b0 (by decide)); (try replace k6 := k6.setS hS b0 (by decide)); (try replace k7 := k7.setS hS b0 (by decide)); (try replace b1 := set_keep hS b1 (by omega)); (try replace b2 := set_keep hS b2 (by omega)); (try replace b3 := set_keep hS b3 (by omega)); (try replace hx := set_ext hS hx (by omega)); replace b0 := set_new hS b0; clear hS hsz
  simp [r_83_2, b1]
  refine (r1_NormRat_does k1 hx.1 (by omega)).mono ?_
  rintro _ G2 ⟨⟨s2, u2, rfl, k4, k5⟩, hx2⟩
  (try replace b0:=hx2.blk b0);(try replace b1:=hx2.blk b1);(try replace b2:=hx2.blk b2);(try replace b3:=hx2.blk b3);(try replace hx:=hx.trans hx2);(try replace k0:=k0.mono hx2);(try replace k1:=k1.mono hx2);(try replace k2:=k2.mono hx2);(try replace k3:=k3.mono hx2);(try replace k4:=k4.mono hx2);(try replace k5:=k5.mono hx2);(try replace k6:=k6.mono hx2);(try replace k7 := k7.mono hx2)
  have hsz := hx.1
  simp [b1, k4.cells, k4.plain, k5.cells, k5.plain, hsz]
  generalize hS : Array.setIfInBounds G2 _ _ = G4
  have hsz := hx.1; (try replace k0 := k0.setS hS b1 (by decide)); (try replace k1 := k1.setS hS b1 (by decide)); (try replace k2 := k2.setS hS b1 (by decide)); (try replace k3 := k3.setS hS b1 (by decide)); (try replace k4 := k4.setS hS b1 (by decide)); (try replace k5 := k5.setS hS b1 (by decide)); (try replace k6 := k6.setS hS b1 (by decide)); (try replace k7 := k7.setS hS b1 (by decide)); (try replace b0 := set_keep hS b0 (by omega)); (try replace b2 := set_keep hS b2 (by omega)); (try replace b3 := set_keep hS b3 (by omega)); (try replace hx := set_ext hS hx (by omega)); replace b1 := set_new hS b1; clear hS hsz
  clear k0 k1 hs hu hs' hu'
  generalize valR a = x at *
  generalize valR b = y at *
  have x1 := szR_num x
  have x2 := szR_den x
  have y1 := szR_num y
  have y2 := szR_den y
  have c1 : (canonR x).1.2.length = lz x.num := len_canonI _
  have c2 : (canonR x).2.2.length = lz x.den := len_canonI _
  have c3 : (canonR y).1.2.length = lz y.num := len_canonI _
  have c4 : (canonR y).2.2.length = lz y.den := len_canonI _
  have i1 : IntV G4 (.agg #[.bool (canonR x).1.1, s1]) (canonI x.num) := ⟨s1, rfl, k2⟩
  have i2 : IntV G4 (.agg #[.bool (canonR x).2.1, u1]) (canonI x.den) := ⟨u1, rfl, k3⟩
  have i3 : IntV G4 (.agg #[.bool (canonR y).1.1, s2]) (canonI y.num) := ⟨s2, rfl, k4⟩
  have i4 : IntV G4 (.agg #[.bool (canonR y).2.1, u2]) (canonI y.den) := ⟨u2, rfl, k5⟩
  clear k2 k3 k4 k5
  refine W_draw ?_
  simp [r_83_3, b0, b1]
  refine (r1_Mul_does i1 i3 (by have := hx.1; omega) (by rw [len_canonI]; omega) (by rw [len_canonI]; omega)).mono ?_
  rintro m1 G5 ⟨j1, hx2⟩
  (try replace b0:=hx2.blk b0);(try replace b1:=hx2.blk b1);(try replace b2:=hx2.blk b2);(try replace b3:=hx2.blk b3);(try replace hx:=hx.trans hx2);(try replace k0:=k0.mono hx2);(try replace k1:=k1.mono hx2);(try replace k2:=k2.mono hx2);(try replace k3:=k3.mono hx2);(try replace k4:=k4.mono hx2);(try replace k5:=k5.mono hx2);(try replace k6:=k6.mono hx2);(try replace k7 := k7.mono hx2)
  replace i1 := i1.mono hx2
  replace i2 := i2.mono hx2
  replace i3 := i3.mono hx2
  replace i4 := i4.mono hx2
  simp [b0, b1]
  refine (r1_Mul_does i2 i4 (by have := hx.1; omega) (by rw [len_canonI]; omega) (by rw [len_canonI]; omega)).mono ?_
  rintro m2 G6 ⟨j2, hx2⟩
  (try replace b0:=hx2.blk b0);(try replace b1:=hx2.blk b1);(try replace b2:=hx2.blk b2);(try replace b3:=hx2.blk b3);(try replace hx:=hx.trans hx2);(try replace k0:=k0.mono hx2);(try replace k1:=k1.mono hx2);(try replace k2:=k2.mono hx2);(try replace k3:=k3.mono hx2);(try replace k4:=k4.mono hx2);(try replace k5:=k5.mono hx2);(try replace k6:=k6.mono hx2);(try replace k7 := k7.mono hx2)
  replace j1 := j1.mono hx2
  rw [val_canon, val_canon] at j1 j2
  simp
  have q1 := lz_mul x.num y.num
  have q2 := lz_mul x.den y.den
  have hne : (x.den : Int) * y.den ≠ 0 := Int.mul_ne_zero (by have := x.den_nz; omega) (by have := y.den_nz; omega)
  rw [mul_divInt]
  generalize x.num * y.num = p at *
  generalize (x.den : Int) * y.den = q at *
  have hq := fun R' => r1_Quo_does (fl := max H.size G6.size) (R := R') j1 j2 (by have := hx.1; omega) (by rw [len_canonI]; omega) (by rw [len_canonI]; omega) (by rw [val_canon]; exact hne)
  simp only [val_canon] at hq
  refine (hq _).mono ?_
  rintro _ G6 ⟨⟨_, rfl, s8, s9, rfl, k6, k7⟩, hx2⟩
  (try replace b0:=hx2.blk b0);(try replace b1:=hx2.blk b1);(try replace b2:=hx2.blk b2);(try replace b3:=hx2.blk b3);(try replace hx:=hx.trans hx2);(try replace k0:=k0.mono hx2);(try replace k1:=k1.mono hx2);(try replace k2:=k2.mono hx2);(try replace k3:=k3.mono hx2);(try replace k4:=k4.mono hx2);(try replace k5:=k5.mono hx2);(try replace k6:=k6.mono hx2);(try replace k7 := k7.mono hx2)
  have hsz := hx.1
  have hb2l := blk_lt b2
  simp [k6.cells, k6.plain, k7.cells, k7.plain, hsz]
  generalize hN : Array.setIfInBounds (Array.push _ _) _ _ = G7
  obtain ⟨hx2, b3⟩ := new1 hN
  clear hN
  (try replace b0:=hx2.blk b0);(try replace b1:=hx2.blk b1);(try replace b2:=hx2.blk b2);(try replace b3:=hx2.blk b3);(try replace hx:=hx.trans hx2);(try replace k0:=k0.mono hx2);(try replace k1:=k1.mono hx2);(try replace k2:=k2.mono hx2);(try replace k3:=k3.mono hx2);(try replace k4:=k4.mono hx2);(try replace k5:=k5.mono hx2);(try replace k6:=k6.mono hx2);(try replace k7 := k7.mono hx2)
  obtain ⟨P, hP⟩ : ∃ P, P = G6.size := ⟨_, rfl⟩
  rw [← hP] at b3 hsz hb2l ⊢
  have hz := blk_lt b2
  simp [r_83_4, b2, b3, k6.cells, k6.plain, k7.cells, k7.plain, hz]
  exact fun _ => ⟨s8, s9, rfl, k6.setT b2 (by decide), k7.setT b2 (by decide)⟩

theorem r1_AddRat_does (h : RatV H v a) (k : RatV H w b) (hf : fl ≤ H.size) (hn : lenR a < 67108864) (hm : lenR b < 67108864) : Does env fl f_82 [v, w] H (fun r H' => RatV H' r (canonR (valR a + valR b)) ∧ Ext H H') R := by
  have k0 := h
  have k1 := k
  obtain ⟨s, u, rfl, hs, hu⟩ := h
  obtain ⟨s', u', rfl, hs', hu'⟩ := k
  have z1 := szR_val hs.ok hu.ok
  have z2 := szR_val hs'.ok hu'.ok
  refine does_ext e_82 hf (h := ?_)
  intro ρ h0
  simp [s_82, r_82_0, h0, hs.cells, hu.cells, hs'.cells, hu'.cells]
  generalize hG : Array.push (Array.push (Array.push H _) _) _ = G
  have hx2 : Ext H G := by rw [← hG]; exact (Ext.refl H).push.push.push
  have b0 : Heap.blk G H.size = .row false T_api_Rat [.bool a.1.1, s, .bool a.2.1, u] := by rw [← hG]; simp
  have b1 : Heap.blk G (H.size + 1) = .row false T_api_Rat [.bool b.1.1, s', .bool b.2.1, u'] := by rw [← hG]; simp
  have b2 : Heap.blk G (H.size + 2) = .row false T_api_Rat [.bool false, .slice none 0 0, .bool false, .slice none 0 0] := by rw [← hG]; simp
  have hx := Ext.refl H
  clear hG
  (try replace b0:=hx2.blk b0);(try replace b1:=hx2.blk b1);(try replace b2:=hx2.blk b2);(try replace b3:=hx2.blk b3);(try replace hx:=hx.trans hx2);(try replace k0:=k0.mono hx2);(try replace k1:=k1.mono hx2);(try replace k2:=k2.mono hx2);(try replace k3:=k3.mono hx2);(try replace k4:=k4.mono hx2);(try replace k5:=k5.mono hx2);(try replace k6:=k6.mono hx2);(try replace k7 := k7.mono hx2)
  simp [r_82_1, b0]
  refine (r1_NormRat_does k0 hx.1 (by omega)).mono ?_
  rintro _ G2 ⟨⟨s1, u1, rfl, k2, k3⟩, hx2⟩
  (try replace b0:=hx2.blk b0);(try replace b1:=hx2.blk b1);(try replace b2:=hx2.blk b2);(try replace b3:=hx2.blk b3);(try replace hx:=hx.trans hx2);(try replace k0:=k0.mono hx2);(try replace k1:=k1.mono hx2);(try replace k2:=k2.mono hx2);(try replace k3:=k3.mono hx2);(try replace k4:=k4.mono hx2);(try replace k5:=k5.mono hx2);(try replace k6:=k6.mono hx2);(try replace k7 := k7.mono hx2)
  have hsz := hx.1
  simp [b0, k2.cells, k2.plain, k3.cells, k3.plain, hsz]
  generalize hS : Array.setIfInBounds G2 _ _ = G3
  have hsz := hx.1; (try replace k0 := k0.setS hS b0 (by decide)); (try replace k1 := k1.setS hS b0 (by decide)); (try replace k2 := k2.setS hS b0 (by decide)); (try replace k3 := k3.setS hS b0 (by decide)); (try replace k4 := k4.setS hS b0 (by decide)); (try replace k5 := k5.setS hS b0 (by decide)); (try replace k6 := k6.setS hS b0 (by decide)); (try replace k7 := k7.setS hS b0 (by decide)); (try replace b1 := set_keep hS b1 (by omega)); (try replace b2 := set_keep hS b2 (by omega)); (try replace b3 := set_keep hS b3 (by omega)); (try replace hx := set_ext hS hx (by omega)); replace b0 := set_new hS b0; clear hS hsz
  simp [r_82_2, b1]
  refine (r1_NormRat_does k1 hx.1 (by omega)).mono ?_
  rintro _ G2 ⟨⟨s2, u2, rfl, k4, k5⟩, hx2⟩
  (try replace b0:=hx2.blk b0);(try replace b1:=hx2.blk b1);(try replace b2:=hx2.blk b2);(try replace b3:=hx2.blk b3);(try replace hx:=hx.trans hx2);(try replace k0:=k0.mono hx2);(try replace k1:=k1.mono hx2);(try replace k2:=k2.mono hx2);(try replace k3:=k3.mono hx2);(try replace k4:=k4.mono hx2);(try replace k5:=k5.mono hx2);(try replace k6:=k6.mono hx2);(try replace k7 := k7.mono hx2)
  have hsz := hx.1
  simp [b1, k4.cells, k4.plain, k5.cells, k5.plain, hsz]
  generalize hS : Array.setIfInBounds G2 _ _ = G4
  have hsz := hx.1; (try replace k0 := k0.setS hS b1 (by decide)); (try replace k1 := k1.setS hS b1 (by decide)); (try replace k2 := k2.setS hS b1 (by decide)); (try replace k3 := k3.setS hS b1 (by decide)); (try replace k4 := k4.setS hS b1 (by decide)); (try replace k5 := k5.setS hS b1 (by decide)); (try replace k6 := k6.setS hS b1 (by decide)); (try replace k7 := k7.setS hS b1 (by decide)); (try replace b0 := set_keep hS b0 (by omega)); (try replace b2 := set_keep hS b2 (by omega)); (try replace b3 := set_keep hS b3 (by omega)); (try replace hx := set_ext hS hx (by omega)); replace b1 := set_new hS b1; clear hS hsz
  clear k0 k1 hs hu hs' hu'
  generalize valR a = x at *
  generalize valR b = y at *
  have x1 := szR_num x
  have x2 := szR_den x
  have y1 := szR_num y
  have y2 := szR_den y
  have c1 : (canonR x).1.2.length = lz x.num := len_canonI _
  have c2 : (canonR x).2.2.length = lz x.den := len_canonI _
  have c3 : (canonR y).1.2.length = lz y.num := len_canonI _
  have c4 : (canonR y).2.2.length = lz y.den := len_canonI _
  have i1 : IntV G4 (.agg #[.bool (canonR x).1.1, s1]) (canonI x.num) := ⟨s1, rfl, k2⟩
  have i2 : IntV G4 (.agg #[.bool (canonR x).2.1, u1]) (canonI x.den) := ⟨u1, rfl, k3⟩
  have i3 : IntV G4 (.agg #[.bool (canonR y).1.1, s2]) (canonI y.num) := ⟨s2, rfl, k4⟩
  have i4 : IntV G4 (.agg #[.bool (canonR y).2.1, u2]) (canonI y.den) := ⟨u2, rfl, k5⟩
  clear k2 k3 k4 k5
  refine W_draw ?_
  simp [r_82_3, b0, b1]
  refine (r1_Mul_does i1 i4 (by have := hx.1; omega) (by rw [len_canonI]; omega) (by rw [len_canonI]; omega)).mono ?_
  rintro m1 G5 ⟨j1, hx2⟩
  (try replace b0:=hx2.blk b0);(try replace b1:=hx2.blk b1);(try replace b2:=hx2.blk b2);(try replace b3:=hx2.blk b3);(try replace hx:=hx.trans hx2);(try replace k0:=k0.mono hx2);(try replace k1:=k1.mono hx2);(try replace k2:=k2.mono hx2);(try replace k3:=k3.mono hx2);(try replace k4:=k4.mono hx2);(try replace k5:=k5.mono hx2);(try replace k6:=k6.mono hx2);(try replace k7 := k7.mono hx2)
  replace i1 := i1.mono hx2
  replace i2 := i2.mono hx2
  replace i3 := i3.mono hx2
  replace i4 := i4.mono hx2
  simp [b0, b1]
  refine (r1_Mul_does i3 i2 (by have := hx.1; omega) (by rw [len_canonI]; omega) (by rw [len_canonI]; omega)).mono ?_
  rintro m2 G6 ⟨j2, hx2⟩
  (try replace b0:=hx2.blk b0);(try replace b1:=hx2.blk b1);(try replace b2:=hx2.blk b2);(try replace b3:=hx2.blk b3);(try replace hx:=hx.trans hx2);(try replace k0:=k0.mono hx2);(try replace k1:=k1.mono hx2);(try replace k2:=k2.mono hx2);(try replace k3:=k3.mono hx2);(try replace k4:=k4.mono hx2);(try replace k5:=k5.mono hx2);(try replace k6:=k6.mono hx2);(try replace k7 := k7.mono hx2)
  replace i1 := i1.mono hx2
  replace i2 := i2.mono hx2
  replace i3 := i3.mono hx2
  replace i4 := i4.mono hx2
  replace j1 := j1.mono hx2
  rw [val_canon, val_canon] at j1 j2
  simp
  have q1 := lz_mul x.num y.den
  have q2 := lz_mul y.num x.den
  have q3 := lz_mul x.den y.den
  have q4 := lz_add (x.num * y.den) (y.num * x.den)
  have hne : (x.den : Int) * y.den ≠ 0 := Int.mul_ne_zero (by have := x.den_nz; omega) (by have := y.den_nz; omega)
  rw [add_divInt]
  generalize x.num * y.den = p1 at *
  generalize y.num * x.den = p2 at *
  refine (r1_Add_does j1 j2 (by have := hx.1; omega) (by rw [len_canonI]; omega) (by rw [len_canonI]; omega)).mono ?_
  rintro m3 G7 ⟨j3, hx2⟩
  (try replace b0:=hx2.blk b0);(try replace b1:=hx2.blk b1);(try replace b2:=hx2.blk b2);(try replace b3:=hx2.blk b3);(try replace hx:=hx.trans hx2);(try replace k0:=k0.mono hx2);(try replace k1:=k1.mono hx2);(try replace k2:=k2.mono hx2);(try replace k3:=k3.mono hx2);(try replace k4:=k4.mono hx2);(try replace k5:=k5.mono hx2);(try replace k6:=k6.mono hx2);(try replace k7 := k7.mono hx2)
  replace i1 := i1.mono hx2
  replace i2 := i2.mono hx2
  replace i3 := i3.mono hx2
  replace i4 := i4.mono hx2
  clear j1 j2
  rw [val_canon, val_canon] at j3
  simp [b0, b1]
  refine (r1_Mul_does i2 i4 (by have := hx.1; omega) (by rw [len_canonI]; omega) (by rw [len_canonI]; omega)).mono ?_
  rintro m4 G8 ⟨j4, hx2⟩
  (try replace b0:=hx2.blk b0);(try replace b1:=hx2.blk b1);(try replace b2:=hx2.blk b2);(try replace b3:=hx2.blk b3);(try replace hx:=hx.trans hx2);(try replace k0:=k0.mono hx2);(try replace k1:=k1.mono hx2);(try replace k2:=k2.mono hx2);(try replace k3:=k3.mono hx2);(try replace k4:=k4.mono hx2);(try replace k5:=k5.mono hx2);(try replace k6:=k6.mono hx2);(try replace k7 := k7.mono hx2)
  replace j3 := j3.mono hx2
  rw [val_canon, val_canon] at j4
  simp
  generalize (x.den : Int) * y.den = q at *
  generalize p1 + p2 = p at *
  have hq := fun R' => r1_Quo_does (fl := max H.size G8.size) (R := R') j3 j4 (by have := hx.1; omega) (by rw [len_canonI]; omega) (by rw [len_canonI]; omega) (by rw [val_canon]; exact hne)
  simp only [val_canon] at hq
  refine (hq _).mono ?_
  rintro _ G6 ⟨⟨_, rfl, s8, s9, rfl, k6, k7⟩, hx2⟩
  (try replace b0:=hx2.blk b0);(try replace b1:=hx2.blk b1);(try replace b2:=hx2.blk b2);(try replace b3:=hx2.blk b3);(try replace hx:=hx.trans hx2);(try replace k0:=k0.mono hx2);(try replace k1:=k1.mono hx2);(try replace k2:=k2.mono hx2);(try replace k3:=k3.mono hx2);(try replace k4:=k4.mono hx2);(try replace k5:=k5.mono hx2);(try replace k6:=k6.mono hx2);(try replace k7 := k7.mono hx2)
  have hsz := hx.1
  have hb2l := blk_lt b2
  simp [k6.cells, k6.plain, k7.cells, k7.plain, hsz]
  generalize hN : Array.setIfInBounds (Array.push _ _) _ _ = G7
  obtain ⟨hx2, b3⟩ := new1 hN
  clear hN
  (try replace b0:=hx2.blk b0);(try replace b1:=hx2.blk b1);(try replace b2:=hx2.blk b2);(try replace b3:=hx2.blk b3);(try replace hx:=hx.trans hx2);(try replace k0:=k0.mono hx2);(try replace k1:=k1.mono hx2);(try replace k2:=k2.mono hx2);(try replace k3:=k3.mono hx2);(try replace k4:=k4.mono hx2);(try replace k5:=k5.mono hx2);(try replace k6:=k6.mono hx2);(try replace k7 := k7.mono hx2)
  obtain ⟨P, hP⟩ : ∃ P, P = G6.size := ⟨_, rfl⟩
  rw [← hP] at b3 hsz hb2l ⊢
  have hz := blk_lt b2
  simp [r_82_4, b2, b3, k6.cells, k6.plain, k7.cells, k7.plain, hz]
  exact fun _ => ⟨s8, s9, rfl, k6.setT b2 (by decide), k7.setT b2 (by decide)⟩

end Go.Proofs.YtjlohmnnldbjoaaGreat.AI

/- The reference's quotients: zero. -/
namespace Go.Proofs.YtjlohmnnldbjoaaGreat.AI
open Go
set_option maxHeartbeats 4000000

variable {fl : Nat} {H G : Heap} {R : PostP} {v w : Value} {a b : RawR}

theorem r1_zero_does (h : RatV H v a) (hf : fl ≤ H.size) : Does env fl f_96 [v] H (fun r H' => r = .bool (zeroR a) ∧ Ext H H') R := by
  obtain ⟨s, u, rfl, hs, hu⟩ := h
  obtain ⟨⟨p, lp⟩, ⟨q, lq⟩⟩ := a
  simp only at hs hu
  refine does_ext e_96 hf (h := ?_)
  intro ρ h0
  simp [s_96, r_96_0, h0]
  generalize hG : Array.push H _ = G
  obtain ⟨hx2, b0⟩ := new0 hG
  clear hG
  have hsl := (hs.mono hx2).slen
  have hul := (hu.mono hx2).slen
  unfold zeroR
  cases lp with
  | nil =>
    cases p with
    | true => simp [r_96_1, b0, hsl, hul]
    | false =>
      cases lq with
      | nil => cases q <;> simp [r_96_1, b0, hsl, hul]
      | cons y l =>
        have hne : ¬ ((l.length : Int) + 1 = 0) := by omega
        simp [r_96_1, b0, hsl, hul, hne]
  | cons y l =>
    have hne : ¬ ((l.length : Int) + 1 = 0) := by omega
    simp [r_96_1, b0, hsl, hul, hne]

end Go.Proofs.YtjlohmnnldbjoaaGreat.AI

/- The reference's ends: MayExt. -/
namespace Go.Proofs.YtjlohmnnldbjoaaGreat.AI
open Go
set_option maxHeartbeats 4000000

variable {fl : Nat} {H G : Heap} {R : PostP} {v w : Value} {e f : RawE}

theorem r1_MayExt_does (h : ExtV H v e) (hf : fl ≤ H.size) (hn : lenR e.2 < 268435456) : Does env fl f_58 [v] H (fun r H' => r = .bool (mayE e) ∧ Ext H H') R := by
  obtain ⟨s, u, rfl, hs, hu⟩ := h
  have k0 : RatV H (.agg #[.bool e.2.1.1, s, .bool e.2.2.1, u]) e.2 := ⟨s, u, rfl, hs, hu⟩
  refine does_ext e_58 hf (h := ?_)
  intro ρ h0
  simp [s_58, r_58_0, h0, hs.cells, hu.cells]
  generalize hG : Array.push H _ = G
  obtain ⟨hx2, b0⟩ := new0 hG
  have hx := Ext.refl H
  clear hG
  (try replace b0:=hx2.blk b0);(try replace hx:=hx.trans hx2);(try replace k0 := k0.mono hx2)
  unfold mayE
  by_cases h3 : e.1 = 0
  · simp [h3, r_58_1, r_58_2, b0]
    refine (r1_MayRat_does k0 hx.1 hn).mono ?_
    rintro _ G2 ⟨rfl, hx2⟩
    simp
  · by_cases h2 : e.1 = 1
    · simp [h2, r_58_1, r_58_3, b0]
      refine (r1_zero_does k0 hx.1).mono ?_
      rintro _ G2 ⟨rfl, hx2⟩
      simp
    · by_cases h1 : e.1 = -1
      · simp [h1, r_58_1, r_58_3, b0]
        refine (r1_zero_does k0 hx.1).mono ?_
        rintro _ G2 ⟨rfl, hx2⟩
        simp
      · simp [h1, h2, h3, r_58_1, r_58_3, b0]

end Go.Proofs.YtjlohmnnldbjoaaGreat.AI

/- The reference's ends: NormExt. -/
namespace Go.Proofs.YtjlohmnnldbjoaaGreat.AI
open Go
set_option maxHeartbeats 4000000

variable {fl : Nat} {H G : Heap} {R : PostP} {v w : Value} {e f : RawE}

theorem r1_NormExt_does (h : ExtV H v e) (hf : fl ≤ H.size) (hn : lenR e.2 < 268435456) : Does env fl f_59 [v] H (fun r H' => ExtV H' r (canonE (valE e)) ∧ Ext H H') R := by
  have k0 := h
  obtain ⟨s, u, rfl, hs, hu⟩ := h
  have k1 : RatV H (.agg #[.bool e.2.1.1, s, .bool e.2.2.1, u]) e.2 := ⟨s, u, rfl, hs, hu⟩
  refine does_ext e_59 hf (h := ?_)
  intro ρ h0
  simp [s_59, r_59_0, h0, hs.cells, hu.cells]
  generalize hG : Array.push (Array.push H _) _ = G
  have hx2 : Ext H G := by rw [← hG]; exact (Ext.refl H).push.push
  have b0 : Heap.blk G H.size = .row false T_api_Ext [.int .i64 e.1, .bool e.2.1.1, s, .bool e.2.2.1, u] := by rw [← hG]; simp
  have b1 : Heap.blk G (H.size + 1) = .row false T_api_Ext [.int .i64 0, .bool false, .slice none 0 0, .bool false, .slice none 0 0] := by rw [← hG]; simp
  have hx := Ext.refl H
  clear hG
  (try replace b0:=hx2.blk b0);(try replace b1:=hx2.blk b1);(try replace hx:=hx.trans hx2);(try replace k0:=k0.mono hx2);(try replace k1:=k1.mono hx2);(try replace k3:=k3.mono hx2);(try replace k4:=k4.mono hx2);(try replace k5:=k5.mono hx2);(try replace k6 := k6.mono hx2)
  simp [r_59_1, b0]
  refine (r1_MayExt_does k0 hx.1 hn).mono ?_
  rintro _ G2 ⟨rfl, hx2⟩
  (try replace b0:=hx2.blk b0);(try replace b1:=hx2.blk b1);(try replace hx:=hx.trans hx2);(try replace k0:=k0.mono hx2);(try replace k1:=k1.mono hx2);(try replace k3:=k3.mono hx2);(try replace k4:=k4.mono hx2);(try replace k5:=k5.mono hx2);(try replace k6 := k6.mono hx2)
  have hsz := hx.1
  unfold valE
  cases hm : mayE e with
  | false =>
    simp [r_59_2]
    refine (r1_nought_does hx.1).mono ?_
    rintro _ G3 ⟨⟨s3, u3, rfl, k3, k4⟩, hx2⟩
    (try replace b0:=hx2.blk b0);(try replace b1:=hx2.blk b1);(try replace hx:=hx.trans hx2);(try replace k0:=k0.mono hx2);(try replace k1:=k1.mono hx2);(try replace k3:=k3.mono hx2);(try replace k4:=k4.mono hx2);(try replace k5:=k5.mono hx2);(try replace k6 := k6.mono hx2)
    have hsz := hx.1
    simp [b1, k3.cells, k3.plain, k4.cells, k4.plain, hsz, writeL]
    generalize hS : Array.setIfInBounds G3 _ _ = G5
    have hsz := hx.1; (try replace k0 := k0.setS hS b1 (by decide)); (try replace k1 := k1.setS hS b1 (by decide)); (try replace k3 := k3.setS hS b1 (by decide)); (try replace k4 := k4.setS hS b1 (by decide)); (try replace k5 := k5.setS hS b1 (by decide)); (try replace k6 := k6.setS hS b1 (by decide)); (try replace b0 := set_keep hS b0 (by omega)); (try replace hx := set_ext hS hx (by omega)); replace b1 := set_new hS b1; clear hS hsz
    simp [b1]
    exact fun _ => ⟨s3, u3, rfl, k3, k4⟩
  | true =>
    by_cases h3 : e.1 = 0
    · simp [h3, r_59_3, r_59_5, b0]
      refine (r1_NormRat_does k1 hx.1 hn).mono ?_
      rintro _ G3 ⟨⟨s3, u3, rfl, k3, k4⟩, hx2⟩
      (try replace b0:=hx2.blk b0);(try replace b1:=hx2.blk b1);(try replace hx:=hx.trans hx2);(try replace k0:=k0.mono hx2);(try replace k1:=k1.mono hx2);(try replace k3:=k3.mono hx2);(try replace k4:=k4.mono hx2);(try replace k5:=k5.mono hx2);(try replace k6 := k6.mono hx2)
      have hsz := hx.1
      simp [b1, k3.cells, k3.plain, k4.cells, k4.plain, hsz, writeL]
      generalize hS : Array.setIfInBounds G3 _ _ = G5
      have hsz := hx.1; (try replace k0 := k0.setS hS b1 (by decide)); (try replace k1 := k1.setS hS b1 (by decide)); (try replace k3 := k3.setS hS b1 (by decide)); (try replace k4 := k4.setS hS b1 (by decide)); (try replace k5 := k5.setS hS b1 (by decide)); (try replace k6 := k6.setS hS b1 (by decide)); (try replace b0 := set_keep hS b0 (by omega)); (try replace hx := set_ext hS hx (by omega)); replace b1 := set_new hS b1; clear hS hsz
      simp [b1]
      exact fun _ => ⟨s3, u3, rfl, k3, k4⟩
    · have hz : zeroR e.2 = true := by
        unfold mayE at hm
        by_cases hc : e.1 = -1 ∨ e.1 = 1
        · rw [if_pos hc] at hm; exact hm
        · rw [if_neg hc, if_neg h3] at hm; exact absurd hm (by decide)
      have he := (zeroR_iff _).1 hz
      have hc : canonE (e.1, 0) = e := by
        unfold canonE
        simp only
        rw [if_neg h3]
        exact Prod.ext rfl he.symm
      obtain ⟨s5, u5, hv5, k5, k6⟩ := k0
      have hss : s5 = s ∧ u5 = u := by simpa [eq_comm] using hv5
      obtain ⟨rfl, rfl⟩ := hss
      simp [h3, r_59_3, r_59_4, b0, b1, k5.cells, k5.plain, k6.cells, k6.plain, hsz]
      generalize hS : Array.setIfInBounds G2 _ _ = G5
      have hsz := hx.1; (try replace k0 := k0.setS hS b1 (by decide)); (try replace k1 := k1.setS hS b1 (by decide)); (try replace k3 := k3.setS hS b1 (by decide)); (try replace k4 := k4.setS hS b1 (by decide)); (try replace k5 := k5.setS hS b1 (by decide)); (try replace k6 := k6.setS hS b1 (by decide)); (try replace b0 := set_keep hS b0 (by omega)); (try replace hx := set_ext hS hx (by omega)); replace b1 := set_new hS b1; clear hS hsz
      simp [b1]
      rw [hc]
      exact fun _ => ⟨s5, u5, rfl, k5, k6⟩

end Go.Proofs.YtjlohmnnldbjoaaGreat.AI

/- The reference's ends: CmpExt, MaxExt, MinExt. -/
namespace Go.Proofs.YtjlohmnnldbjoaaGreat.AI
open Go
set_option maxHeartbeats 4000000

variable {fl : Nat} {H G : Heap} {R : PostP} {v w : Value} {e f : RawE}

theorem r1_CmpExt_does (h : ExtV H v e) (k : ExtV H w f) (hf : fl ≤ H.size) (hn : lenR e.2 < 67108864) (hm : lenR f.2 < 67108864) : Does env fl f_55 [v, w] H (fun r H' => r = .int .i64 (cmpE (valE e) (valE f)) ∧ Ext H H') R := by
  have k0 := h
  have k1 := k
  have l1 := lenR_valE h
  have l2 := lenR_valE k
  obtain ⟨s, u, rfl, hs, hu⟩ := h
  obtain ⟨s', u', rfl, hs', hu'⟩ := k
  refine does_ext e_55 hf (h := ?_)
  intro ρ h0
  simp [s_55, r_55_0, h0, hs.cells, hu.cells, hs'.cells, hu'.cells]
  generalize hG : Array.push (Array.push H _) _ = G
  have hx2 : Ext H G := by rw [← hG]; exact (Ext.refl H).push.push
  have b0 : Heap.blk G H.size = .row false T_api_Ext [.int .i64 e.1, .bool e.2.1.1, s, .bool e.2.2.1, u] := by rw [← hG]; simp
  have b1 : Heap.blk G (H.size + 1) = .row false T_api_Ext [.int .i64 f.1, .bool f.2.1.1, s', .bool f.2.2.1, u'] := by rw [← hG]; simp
  have hx := Ext.refl H
  clear hG
  (try replace b0:=hx2.blk b0);(try replace b1:=hx2.blk b1);(try replace hx:=hx.trans hx2);(try replace k0:=k0.mono hx2);(try replace k1:=k1.mono hx2);(try replace k2:=k2.mono hx2);(try replace k3:=k3.mono hx2);(try replace k4:=k4.mono hx2);(try replace k5 := k5.mono hx2)
  simp [r_55_1, b0]
  refine (r1_NormExt_does k0 hx.1 (by omega)).mono ?_
  rintro _ G2 ⟨⟨s1, s2, rfl, k2, k3⟩, hx2⟩
  (try replace b0:=hx2.blk b0);(try replace b1:=hx2.blk b1);(try replace hx:=hx.trans hx2);(try replace k0:=k0.mono hx2);(try replace k1:=k1.mono hx2);(try replace k2:=k2.mono hx2);(try replace k3:=k3.mono hx2);(try replace k4:=k4.mono hx2);(try replace k5 := k5.mono hx2)
  have hz0 := blk_lt b0
  simp [b0, k2.cells, k2.plain, k3.cells, k3.plain, hz0]
  generalize hS : Array.setIfInBounds G2 _ _ = G3
  have hsz := hx.1; (try replace k0 := k0.setS hS b0 (by decide)); (try replace k1 := k1.setS hS b0 (by decide)); (try replace k2 := k2.setS hS b0 (by decide)); (try replace k3 := k3.setS hS b0 (by decide)); (try replace k4 := k4.setS hS b0 (by decide)); (try replace k5 := k5.setS hS b0 (by decide)); (try replace b1 := set_keep hS b1 (by omega)); (try replace hx := set_ext hS hx (by omega)); replace b0 := set_new hS b0; clear hS hsz
  simp [r_55_2, b1]
  refine (r1_NormExt_does k1 hx.1 (by omega)).mono ?_
  rintro _ G2 ⟨⟨s3, s4, rfl, k4, k5⟩, hx2⟩
  (try replace b0:=hx2.blk b0);(try replace b1:=hx2.blk b1);(try replace hx:=hx.trans hx2);(try replace k0:=k0.mono hx2);(try replace k1:=k1.mono hx2);(try replace k2:=k2.mono hx2);(try replace k3:=k3.mono hx2);(try replace k4:=k4.mono hx2);(try replace k5 := k5.mono hx2)
  clear k0 k1
  have hz0 := blk_lt b1
  simp [b1, k4.cells, k4.plain, k5.cells, k5.plain, hz0]
  generalize hS : Array.setIfInBounds G2 _ _ = G3
  have hsz := hx.1; (try replace k0 := k0.setS hS b1 (by decide)); (try replace k1 := k1.setS hS b1 (by decide)); (try replace k2 := k2.setS hS b1 (by decide)); (try replace k3 := k3.setS hS b1 (by decide)); (try replace k4 := k4.setS hS b1 (by decide)); (try replace k5 := k5.setS hS b1 (by decide)); (try replace b0 := set_keep hS b0 (by omega)); (try replace hx := set_ext hS hx (by omega)); replace b1 := set_new hS b1; clear hS hsz
  obtain ⟨x, hxv⟩ : ∃ x, x = valE e := ⟨_, rfl⟩
  obtain ⟨y, hyv⟩ : ∃ y, y = valE f := ⟨_, rfl⟩
  rw [← hxv] at l1 k2 k3 b0 ⊢
  rw [← hyv] at l2 k4 k5 b1 ⊢
  have kx : (canonE x).1 = x.1 := by unfold canonE; split <;> simp_all
  have ky : (canonE y).1 = y.1 := by unfold canonE; split <;> simp_all
  rw [kx] at b0
  rw [ky] at b1
  unfold cmpE
  simp [r_55_3, b0, b1]
  by_cases h1 : x.1 = y.1
  · have h2 : ¬ x.1 < y.1 := by omega
    have h2' : ¬ y.1 < x.1 := by omega
    by_cases h3 : x.1 = 0
    · have h4 : y.1 = 0 := by omega
      have kr : RatV _ (.agg #[.bool (canonE x).2.1.1, s1, .bool (canonE x).2.2.1, s2]) (canonE x).2 := ⟨s1, s2, rfl, k2, k3⟩
      have kq : RatV _ (.agg #[.bool (canonE y).2.1.1, s3, .bool (canonE y).2.2.1, s4]) (canonE y).2 := ⟨s3, s4, rfl, k4, k5⟩
      simp [h1, h2, h3, h4, r_55_7, r_55_9, b0, b1]
      refine (r1_CmpRat_does kr kq hx.1 (by omega) (by omega)).mono ?_
      rintro _ G2 ⟨rfl, hx2⟩
      have e1 : valR (canonE x).2 = x.2 := by unfold canonE; rw [if_pos h3]; exact valR_canon _
      have e2 : valR (canonE y).2 = y.2 := by unfold canonE; rw [if_pos h4]; exact valR_canon _
      simp [e1, e2]
    · have h4 : y.1 ≠ 0 := by omega
      simp [h1, h2, h3, h4, r_55_7, r_55_8, b0, b1]
  · by_cases h2 : x.1 < y.1
    · simp [h1, h2, r_55_4, r_55_5, b0, b1]
    · have h2' : y.1 < x.1 := by omega
      have h2'' : y.1 ≤ x.1 := by omega
      simp [h1, h2, h2', h2'', r_55_4, r_55_6, b0, b1]

end Go.Proofs.YtjlohmnnldbjoaaGreat.AI

/- The reference's templates and values: Right, Values. -/
namespace Go.Proofs.YtjlohmnnldbjoaaGreat.AI
open Go
set_option maxHeartbeats 4000000

variable {fl : Nat} {H G : Heap} {R : PostP} {v w : Value}

theorem W_cforE {E : Env} {nt tc b b2 : Nat} {body : SCode} {rx rc : List SOper} {Q : PostX} {ρ : Nat → Value} (Inv : Nat → (Nat → Value) → Heap → Prop) (n : Nat) (htc : tc < nt) (hI : Inv 0 ρ H)
    (step : ∀ i ρ G, i ≤ n → Inv i ρ G → WR E fl rc (T nt ρ) G (CStep E fl nt tc b b2 n body rx (fun t H => Q .normal t H) Q R i Inv) R) :
    W E fl (.loop (.seq (.seq (.reg rc) (.cond (.tmp tc) .skip (.exit b))) (.seq (.block b2 body) (.reg rx)))) (T nt ρ) H (blockW b Q) R := by
  have h := W_cfor (Z := fun t H => Q .normal t H) (Q := Q) Inv n htc hI step
  rwa [thenW_same] at h

theorem r17_Right_does {S : Nat} {rows : List (List RawR)} {n : Int} (h : TemplV H v rows) (hf : fl ≤ H.size) (hS : S < 67108864) (hr : ∀ r ∈ rows, Few S r ∧ r.length < 1073741824) (hrl : rows.length < 1073741824) :
    Does env fl f_57 [v, .int .i64 n] H (fun r H' => r = .bool (rightT rows n) ∧ Ext H H') R := by
  obtain ⟨s, rfl, hs⟩ := h
  refine does_ext e_57 hf (h := ?_)
  intro ρ h0
  simp [s_57, r_57_0, h0, hs.cells]
  generalize hG : Array.push H _ = G
  obtain ⟨hx2, b0⟩ := new0 hG
  have hx := Ext.refl H
  clear hG
  (try replace b0:=hx2.blk b0);(try replace b1:=hx2.blk b1);(try replace hx:=hx.trans hx2);(try replace k0 := k0.mono hx2)
  unfold rightT
  by_cases h1 : n < 0
  · have h1' : ¬ 0 ≤ n := by omega
    simp [r_57_1, r_57_2, h0, h1, h1']
  have h1' : 0 ≤ n := by omega
  by_cases h2 : 6 < n
  · have h2' : ¬ n ≤ 6 := by omega
    simp [r_57_1, r_57_2, h0, h1, h1', h2, h2']
  have h2' : n ≤ 6 := by omega
  by_cases h3 : 40 < rows.length
  · have h3' : ¬ rows.length ≤ 40 := by omega
    have h3'' : (40 : Int) < (rows.length : Int) := by omega
    simp [r_57_1, r_57_2, h0, b0, hs.slen, h1, h1', h2, h2', h3, h3', h3'']
  have h3' : rows.length ≤ 40 := by omega
  have h3'' : ¬ (40 : Int) < (rows.length : Int) := by omega
  simp [r_57_1, r_57_3, h0, b0, hs.slen, h1, h1', h2, h2', h3, h3', h3'']
  have ks0 := hs.mono monoPS hx
  refine W_cfor (fun i ρ G' => ρ 1 = .int .i64 n ∧ ρ 2 = .pointer (some ⟨H.size, 0, none⟩) ∧ ρ 5 = .int .i64 (i : Int) ∧ Ext G G' ∧ allB (rowOk n) (rows.take i) = true) rows.length (by decide) (by simp [h0, Ext.refl G, allB_nil]) ?_
  clear h0 ρ hx2
  rintro i ρ G1 hi1 ⟨g1, g2, g5, hx1, hc⟩
  have b1 := hx1.blk b0
  have ks := ks0.mono monoPS hx1
  simp [r_57_4, g2, g5, b1, ks.slen]
  refine CStep.mk (by simp) (fun hi => ?_) (fun heq => ?_)
  · obtain ⟨w, hl, kw⟩ := RowsV.load ks hi
    obtain ⟨hfew, hrl2⟩ := hr _ (List.getElem_mem hi)
    have hwn := wrap_succ (show i < 4611686018427387904 by omega)
    by_cases hlen : (rows[i].length : Int) = n
    · simp [r_57_5, r_57_7, g1, g2, g5, b1, ks.ia hi, hl, kw.slen, hlen]
      refine W_cforE (fun j ρ G' => ρ 1 = .int .i64 n ∧ ρ 2 = .pointer (some ⟨H.size, 0, none⟩) ∧ ρ 5 = .int .i64 (i : Int) ∧ ρ 6 = .int .i64 (j : Int) ∧ Ext G G' ∧ allB mayR (rows[i].take j) = true) rows[i].length (by decide) (by simp [g1, g2, g5, hx1, allB_nil]) ?_
      clear g1 g2 g5 hx1 kw hl ks b1 ρ G1
      rintro j ρ G1 hj1 ⟨g1, g2, g5, g6, hx1, hcj⟩
      have b1 := hx1.blk b0
      have ks := ks0.mono monoPS hx1
      simp [r_57_8, g1, g6]
      refine CStep.mk (by simp [← hlen]) (fun hj => ?_) (fun heq => ?_)
      · obtain ⟨w, hl, kw⟩ := RowsV.load ks hi
        obtain ⟨x, hlx, k0⟩ := RatsV.load kw hj
        simp [r_57_9, g1, g2, g5, g6, b1, ks.ia hi, hl, kw.ia hj, hlx]
        refine (r1_MayRat_does k0 (by have := hx.1; have := hx1.1; omega) (by have := (hfew _ (List.getElem_mem hj)).1; omega)).mono ?_
        rintro _ G2 ⟨rfl, hx2⟩
        replace hx1 := hx1.trans hx2
        cases hm : mayR rows[i][j]
        · simp [r_57_10]
          intros
          exact allB_no hi (by unfold rowOk; rw [allB_no hj hm]; simp)
        · simp
          unfold CEnd
          simp [r_57_11, g6, wrap_succ (show j < 4611686018427387904 by omega)]
          exact CNext.mk ⟨by simp [g1], by simp [g2], by simp [g5], by simp, hx1, by rw [allB_succ hj, hcj, hm]; rfl⟩
      · subst heq
        rw [List.take_length] at hcj
        unfold CEnd
        simp [r_57_12, g5, hwn]
        exact CNext.mk ⟨by simp [g1], by simp [g2], by simp, hx1, by rw [allB_succ hi, hc]; unfold rowOk; simp [hlen, hcj]⟩
    · simp [r_57_5, r_57_6, g1, g2, g5, b1, ks.ia hi, hl, kw.slen, hlen]
      intro _
      exact allB_no hi (by unfold rowOk; simp [hlen])
  · subst heq
    rw [List.take_length] at hc
    simp [r_57_13, hc]

theorem r17_Values_does {S : Nat} {rows : List (List RawR)} {n : Int} {d : List RawE} (h : TemplV H v rows) (hd : ExtsV H w d) (hf : fl ≤ H.size) (hS : S < 67108864) (hr : ∀ r ∈ rows, Few S r ∧ r.length < 1073741824) (hrl : rows.length < 1073741824) (hfd : FewE d) (hdl : d.length < 1073741824) :
    Does env fl f_24 [v, .int .i64 n, w] H (fun r H' => r = .bool (valuesT rows n d) ∧ Ext H H') R := by
  obtain ⟨s, rfl, hs⟩ := h
  refine does_ext e_24 hf (h := ?_)
  intro ρ h0
  simp [s_24, r_24_0, h0, hs.cells]
  generalize hG : Array.push H _ = G
  obtain ⟨hx2, b0⟩ := new0 hG
  have hx := Ext.refl H
  clear hG
  (try replace b0:=hx2.blk b0);(try replace hx:=hx.trans hx2);(try replace k0 := k0.mono hx2)
  have kt2 : TemplV G (.agg #[s]) rows := ⟨s, rfl, hs.mono monoPS hx⟩
  unfold valuesT
  simp [r_24_1, h0, b0]
  refine (r17_Right_does (n := n) kt2 hx.1 hS hr hrl).mono ?_
  rintro _ G2 ⟨rfl, hx2⟩
  (try replace b0:=hx2.blk b0);(try replace hx:=hx.trans hx2);(try replace k0 := k0.mono hx2)
  cases h1 : rightT rows n
  · simp [r_24_2]
  by_cases h2 : d.length = rows.length
  · have h2' : (d.length : Int) = (rows.length : Int) := by omega
    simp [h0, b0, hd.slen, hs.slen, h2, h2', r_24_3]
    refine W_cfor (fun i ρ G => ρ 2 = w ∧ ρ 7 = .int .i64 (i : Int) ∧ Ext H G ∧ anyB (fun e => !mayE e) (d.take i) = false) d.length (by decide) (by simp [h0, hx, anyB_nil]) ?_
    clear h0 ρ
    rintro i ρ G1 hi1 ⟨g2, g7, hx1, hc⟩
    have kd := hd.mono monoPE hx1
    simp [r_24_4, g2, g7, kd.slen]
    refine CStep.mk (by simp) (fun hi => ?_) (fun heq => ?_)
    · obtain ⟨x, hl, k0⟩ := ExtsV.load kd hi
      simp [r_24_5, g2, g7, kd.ia hi, hl]
      refine (r1_MayExt_does k0 hx1.1 (by have := hfd _ (List.getElem_mem hi); omega)).mono ?_
      rintro _ G3 ⟨rfl, hx3⟩
      replace hx1 := hx1.trans hx3
      cases hm : mayE d[i]
      · simp [r_24_6]
        intros
        exact anyB_yes hi (by simp [hm])
      · simp
        unfold CEnd
        simp [r_24_7, g7, wrap_succ (show i < 4611686018427387904 by omega)]
        exact CNext.mk ⟨by simp [g2], by simp, hx1, by rw [anyB_succ hi, hc, hm]; rfl⟩
    · subst heq
      rw [List.take_length] at hc
      simp [r_24_8, hc]
  · have h2' : ¬ (d.length : Int) = (rows.length : Int) := by omega
    simp [h0, b0, hd.slen, hs.slen, h2, h2', r_24_2]

end Go.Proofs.YtjlohmnnldbjoaaGreat.AI

/- The reference's values: Le, Join, Meet. -/
namespace Go.Proofs.YtjlohmnnldbjoaaGreat.AI
open Go
set_option maxHeartbeats 4000000

variable {fl : Nat} {H G : Heap} {R : PostP} {v w : Value} {a b : List RawE}

end Go.Proofs.YtjlohmnnldbjoaaGreat.AI

/- The reference's rows: Dot; its values: Has, Dead, noughts. -/
namespace Go.Proofs.YtjlohmnnldbjoaaGreat.AI
open Go
set_option maxHeartbeats 4000000

variable {fl : Nat} {H G : Heap} {R : PostP} {v w u : Value}

theorem len_num (x : Rat) : ((canonR x).1.2.length : Int) = if x = 0 then 0 else ((lz x.num : Nat) : Int) := by
  split
  · rename_i h; subst h; rw [canonR_0]; rfl
  · rfl
theorem lz_num_pos {x : Rat} (h : x ≠ 0) : 0 < lz x.num := digits_pos_len (by have : x.num ≠ 0 := fun h2 => h (Rat.num_eq_zero.1 h2); omega)
theorem fld_p (a b c d : Value) : fldA true 0 2 (.agg #[a, b, c, d]) = some (.agg #[a, b]) := rfl
theorem fld_l (a b : Value) : fldA false 1 1 (.agg #[a, b]) = some b := rfl
theorem fld_k (a b c d e : Value) : fldA false 0 1 (.agg #[a, b, c, d, e]) = some a := rfl

theorem r1_Dot_ne {a b : List RawR} (ha : RatsV H v a) (hb : RatsV H w b) (hf : fl ≤ H.size) (hne : a.length ≠ b.length) :
    Does env fl f_45 [v, w] H (fun r H' => (∃ q, r = .tuple #[q, .int .i64 1] ∧ RatV H' q rawZ) ∧ Ext H H') R := by
  refine does_ext e_45 hf (h := ?_)
  intro ρ h0
  have hne' : ¬ ((a.length : Int) = (b.length : Int)) := by omega
  simp [s_45, r_45_0, r_45_1, r_45_2, h0, ha.slen, hb.slen, hne, hne']
  exact ⟨_, _, rfl, Lim.nil, Lim.nil⟩

theorem r1_Dot_does {S : Nat} {a b : List RawR} (ha : RatsV H v a) (hb : RatsV H w b) (hf : fl ≤ H.size) (he : a.length = b.length) (hfa : Few S a) (hfb : Few S b) (hS : (a.length + 1) * (2 * S + 3) + 1 < 67108864) :
    Does env fl f_45 [v, w] H (fun r H' => (∃ q, r = .tuple #[q, .int .i64 0] ∧ RatV H' q (canonR (dotR a b a.length))) ∧ Ext H H') R := by
  refine does_ext e_45 hf (h := ?_)
  intro ρ h0
  have hal : a.length < 67108864 := by
    have : (a.length + 1) * 1 ≤ (a.length + 1) * (2 * S + 3) := Nat.mul_le_mul_left _ (by omega)
    omega
  have hSl : S < 33554432 := by
    have : 1 * (2 * S + 3) ≤ (a.length + 1) * (2 * S + 3) := Nat.mul_le_mul_right _ (by omega)
    omega
  simp [s_45, r_45_0, r_45_1, h0, ha.slen, hb.slen, he]
  generalize hG : Array.push H _ = G
  obtain ⟨hx2, b0⟩ := new0 hG
  have hx := Ext.refl H
  clear hG
  (try replace b0:=hx2.blk b0);(try replace b1:=hx2.blk b1);(try replace hx:=hx.trans hx2);(try replace k0:=k0.mono hx2);(try replace k1:=k1.mono hx2);(try replace k2:=k2.mono hx2);(try replace k3:=k3.mono hx2);(try replace k4:=k4.mono hx2);(try replace k5:=k5.mono hx2);(try replace k6:=k6.mono hx2);(try replace k7 := k7.mono hx2)
  simp [r_45_3]
  refine (r1_nought_does hx.1).mono ?_
  rintro _ G2 ⟨⟨s1, s2, rfl, k0, k1⟩, hx2⟩
  (try replace b0:=hx2.blk b0);(try replace b1:=hx2.blk b1);(try replace hx:=hx.trans hx2);(try replace k0:=k0.mono hx2);(try replace k1:=k1.mono hx2);(try replace k2:=k2.mono hx2);(try replace k3:=k3.mono hx2);(try replace k4:=k4.mono hx2);(try replace k5:=k5.mono hx2);(try replace k6:=k6.mono hx2);(try replace k7 := k7.mono hx2)
  have hsz := hx.1
  simp [h0, k0.cells, k0.plain, k1.cells, k1.plain, hsz]
  generalize hN : Array.setIfInBounds (Array.push _ _) _ _ = G3
  obtain ⟨hx2, b1⟩ := new1 hN
  have hb0l := blk_lt b0
  clear hN
  (try replace b0:=hx2.blk b0);(try replace b1:=hx2.blk b1);(try replace hx:=hx.trans hx2);(try replace k0:=k0.mono hx2);(try replace k1:=k1.mono hx2);(try replace k2:=k2.mono hx2);(try replace k3:=k3.mono hx2);(try replace k4:=k4.mono hx2);(try replace k5:=k5.mono hx2);(try replace k6:=k6.mono hx2);(try replace k7 := k7.mono hx2)
  obtain ⟨P, hP⟩ : ∃ P, P = G2.size := ⟨_, rfl⟩
  rw [← hP] at b1 hsz hb0l ⊢
  simp [r_45_4]
  refine W_cfor (fun i ρ G => ρ 0 = v ∧ ρ 1 = w ∧ ρ 4 = .pointer (some ⟨H.size, 0, none⟩) ∧ ρ 5 = .int .i64 0 ∧ ρ 6 = .pointer (some ⟨P, 0, none⟩) ∧ ρ 7 = .int .i64 (i : Int) ∧ Ext H G ∧
      Heap.blk G H.size = .row false T_api_Rat [.bool false, .slice none 0 0, .bool false, .slice none 0 0] ∧
      ∃ s1 s2, Heap.blk G P = .row false T_api_Rat [.bool (canonR (dotR a b i)).1.1, s1, .bool (canonR (dotR a b i)).2.1, s2] ∧ Lim G s1 (canonR (dotR a b i)).1.2 ∧ Lim G s2 (canonR (dotR a b i)).2.2)
    a.length (by decide) ⟨by simp [h0], by simp [h0], by simp, by simp, by simp, by simp, hx, b0, s1, s2, b1, k0, k1⟩ ?_
  clear h0 ρ k0 k1 b0 b1 hx hx2
  rintro i ρ G hi1 ⟨g0, g1, g4, g5, g6, g7, hx, b0, s1, s2, b1, k0, k1⟩
  have ka := ha.mono monoPR hx
  have kb := hb.mono monoPR hx
  simp [r_45_5, g0, g7, ka.slen]
  refine CStep.mk (by simp) (fun hi => ?_) (fun heq => ?_)
  · have hib : i < b.length := by omega
    obtain ⟨wa, hla, k2⟩ := RatsV.load ka hi
    obtain ⟨wb, hlb, k3⟩ := RatsV.load kb hib
    have fa := hfa _ (List.getElem_mem hi)
    have fb := hfb _ (List.getElem_mem hib)
    have hd : dotR a b (i + 1) = dotR a b i + valR a[i] * valR b[i] := by
      rw [dotR, List.getD_eq_getElem?_getD, List.getD_eq_getElem?_getD, List.getElem?_eq_getElem hi, List.getElem?_eq_getElem hib]; rfl
    have hwn := wrap_succ (show i < 4611686018427387904 by omega)
    obtain ⟨ea, hea⟩ : ∃ x, x = a[i] := ⟨_, rfl⟩
    obtain ⟨eb, heb⟩ : ∃ x, x = b[i] := ⟨_, rfl⟩
    rw [← hea, ← heb] at hd
    rw [← hea] at fa k2
    rw [← heb] at fb k3
    simp [r_45_6, g0, g7, ka.ia hi, hla]
    refine (r1_NormRat_does k2 hx.1 (by omega)).mono ?_
    rintro _ G2 ⟨⟨t1, t2, rfl, q1, q2⟩, hx2⟩
    replace ka := ka.mono monoPR hx2
    replace kb := kb.mono monoPR hx2
    replace k2 := k2.mono hx2
    replace k3 := k3.mono hx2
    replace k0 := k0.mono hx2
    replace k1 := k1.mono hx2
    replace b0 := hx2.blk b0
    replace b1 := hx2.blk b1
    replace hx := hx.trans hx2
    have hsl := q1.slen
    rw [len_num] at hsl
    by_cases hva : valR ea = 0
    · have hz0 : dotR a b i + valR ea * valR eb = dotR a b i := by rw [hva, Rat.zero_mul, Rat.add_zero]
      rw [if_pos hva] at hsl
      simp [fld_p, fld_l, hsl]
      unfold CEnd
      simp [r_45_8, g7, hwn]
      exact CNext.mk ⟨by simp [g0], by simp [g1], by simp [g4], by simp [g5], by simp [g6], by simp, hx, b0, s1, s2, by rw [hd, hz0]; exact b1, by rw [hd, hz0]; exact k0, by rw [hd, hz0]; exact k1⟩
    rw [if_neg hva] at hsl
    obtain ⟨wb', hlb', k3'⟩ := RatsV.load kb hib
    rw [← heb] at k3'
    simp [fld_p, fld_l, hsl, lz_num_pos hva, g1, g7, kb.ia hib, hlb']
    refine (r1_NormRat_does k3' hx.1 (by omega)).mono ?_
    rintro _ G2 ⟨⟨t3, t4, rfl, q3, q4⟩, hx2⟩
    clear k3'
    replace ka := ka.mono monoPR hx2
    replace kb := kb.mono monoPR hx2
    replace k2 := k2.mono hx2
    replace k3 := k3.mono hx2
    replace k0 := k0.mono hx2
    replace k1 := k1.mono hx2
    replace b0 := hx2.blk b0
    replace b1 := hx2.blk b1
    replace hx := hx.trans hx2
    have hsl2 := q3.slen
    rw [len_num] at hsl2
    by_cases hvb : valR eb = 0
    · have hz0 : dotR a b i + valR ea * valR eb = dotR a b i := by rw [hvb, Rat.mul_zero, Rat.add_zero]
      rw [if_pos hvb] at hsl2
      simp [fld_p, fld_l, hsl2]
      unfold CEnd
      simp [r_45_8, g7, hwn]
      exact CNext.mk ⟨by simp [g0], by simp [g1], by simp [g4], by simp [g5], by simp [g6], by simp, hx, b0, s1, s2, by rw [hd, hz0]; exact b1, by rw [hd, hz0]; exact k0, by rw [hd, hz0]; exact k1⟩
    rw [if_neg hvb] at hsl2
    simp [fld_p, fld_l, hsl2, lz_num_pos hvb]
    clear q1 q2 q3 q4 hsl hsl2 hlb' hla hlb k2 k3
    refine W_draw ?_
    obtain ⟨wa, hla, k2⟩ := RatsV.load ka hi
    obtain ⟨wb, hlb, k3⟩ := RatsV.load kb hib
    rw [← hea] at k2
    rw [← heb] at k3
    have k4 : RatV _ (.agg #[.bool (canonR (dotR a b i)).1.1, s1, .bool (canonR (dotR a b i)).2.1, s2]) (canonR (dotR a b i)) := ⟨s1, s2, rfl, k0, k1⟩
    simp [r_45_7, g0, g1, g6, g7, ka.ia hi, kb.ia hib, hla, hlb, b1]
    refine (r1_MulRat_does k2 k3 (by have := hx.1; omega) (by omega) (by omega)).mono ?_
    rintro _ G2 ⟨k5, hx2⟩
    replace k4 := k4.mono hx2
    replace ka := ka.mono monoPR hx2
    replace kb := kb.mono monoPR hx2
    replace k2 := k2.mono hx2
    replace k3 := k3.mono hx2
    replace k0 := k0.mono hx2
    replace k1 := k1.mono hx2
    replace b0 := hx2.blk b0
    replace b1 := hx2.blk b1
    replace hx := hx.trans hx2
    have hsd := szR_dot hfa hfb i
    have hsd2 : i * (2 * S + 3) ≤ a.length * (2 * S + 3) := Nat.mul_le_mul_right _ (by omega)
    rw [Nat.add_mul, Nat.one_mul] at hS
    have hsm := szR_mul (valR ea) (valR eb)
    have hs1 := szR_val fa.2.1 fa.2.2
    have hs2 := szR_val fb.2.1 fb.2.2
    simp
    refine (r1_AddRat_does k4 k5 hx.1 (by rw [lenR_canon]; omega) (by rw [lenR_canon]; omega)).mono ?_
    rintro _ G2 ⟨⟨s3, s4, rfl, k6, k7⟩, hx2⟩
    replace ka := ka.mono monoPR hx2
    replace kb := kb.mono monoPR hx2
    replace k2 := k2.mono hx2
    replace k3 := k3.mono hx2
    replace k0 := k0.mono hx2
    replace k1 := k1.mono hx2
    replace b0 := hx2.blk b0
    replace b1 := hx2.blk b1
    replace hx := hx.trans hx2
    rw [valR_canon, valR_canon, ← hd] at k6 k7 ⊢
    have hz := blk_lt b1
    simp [g0, g1, g4, g5, g6, b1, k6.cells, k6.plain, k7.cells, k7.plain, hsz]
    generalize hS' : Array.setIfInBounds _ _ _ = G3
    have hS := hS'
    replace k6 := k6.setS hS b1 (by decide)
    replace k7 := k7.setS hS b1 (by decide)
    replace b0 := set_keep hS b0 (by omega)
    replace hx := set_ext hS hx (by omega)
    replace b1 := set_new hS b1
    unfold CEnd
    simp [r_45_8, g7, hwn]
    exact CNext.mk ⟨by simp [g0], by simp [g1], by simp [g4], by simp [g5], by simp [g6], by simp, hx, b0, s3, s4, b1, k6, k7⟩
  · subst heq
    have hz := blk_lt b0
    simp [r_45_9, g4, g6, b1, b0, k0.cells, k0.plain, k1.cells, k1.plain, hz]
    refine fun _ => ⟨s1, s2, ?_, ?_, ?_⟩
    · rw [← he]
    · rw [← he]; exact k0.setT b0 (by decide)
    · rw [← he]; exact k1.setT b0 (by decide)

theorem r17_Dead_does {d : List RawE} (hd : ExtsV H v d) (hf : fl ≤ H.size) (hfd : FewE d) (hdl : d.length < 1073741824) :
    Does env fl f_25 [v] H (fun r H' => r = .bool (anyB (fun e => decide ((valE e).1 < 0)) d) ∧ Ext H H') R := by
  refine does_ext e_25 hf (h := ?_)
  intro ρ h0
  simp [s_25, r_25_0, r_25_1, h0]
  refine W_cfor (fun n ρ G => ρ 0 = v ∧ ρ 3 = .int .i64 (n : Int) ∧ Ext H G ∧ anyB (fun e : RawE => decide ((valE e).1 < 0)) (d.take n) = false) d.length (by decide) (by simp [h0, Ext.refl H, anyB_nil]) ?_
  clear h0 ρ
  rintro n ρ G hn1 ⟨g0, g3, hx, hc⟩
  have kd := hd.mono monoPE hx
  simp [r_25_2, g0, g3, kd.slen]
  refine CStep.mk (by simp) (fun hi => ?_) (fun heq => ?_)
  · obtain ⟨x, hl, k0⟩ := ExtsV.load kd hi
    simp [r_25_3, g0, g3, kd.ia hi, hl]
    refine (r1_NormExt_does k0 hx.1 (by have := hfd _ (List.getElem_mem hi); omega)).mono ?_
    rintro _ G3 ⟨⟨s1, s2, rfl, k1, k2⟩, hx3⟩
    replace hx := hx.trans hx3
    have kx : (canonE (valE d[n])).1 = (valE d[n]).1 := by unfold canonE; split <;> simp_all
    rw [kx]
    by_cases hneg : (valE d[n]).1 < 0
    · simp [fld_k, hneg, r_25_4]
      intros
      exact anyB_yes hi (by simp [hneg])
    · simp [fld_k, hneg]
      unfold CEnd
      simp [r_25_5, g3, wrap_succ (show n < 4611686018427387904 by omega)]
      exact CNext.mk ⟨by simp [g0], by simp, hx, by rw [anyB_succ hi, hc]; simp [hneg]⟩
  · subst heq
    rw [List.take_length] at hc
    simp [r_25_6, hc]

theorem r17_Has_does {S : Nat} {rows : List (List RawR)} {d : List RawE} {x : List RawR} (h : TemplV H v rows) (hd : ExtsV H w d) (hxv : RatsV H u x) (hf : fl ≤ H.size)
    (hr : ∀ r ∈ rows, Few S r) (hfx : Few S x) (hS : (x.length + 1) * (2 * S + 3) + 1 < 67108864) (hrl : rows.length < 1073741824) (hfd : FewE d) :
    Does env fl f_22 [v, w, u] H (fun r H' => r = .bool (hasT rows d x) ∧ Ext H H') R := by
  obtain ⟨s, rfl, hs⟩ := h
  refine does_ext e_22 hf (h := ?_)
  intro ρ h0
  simp [s_22, r_22_0, h0, hs.cells]
  generalize hG : Array.push H _ = G
  obtain ⟨hx2, b0⟩ := new0 hG
  have hx := Ext.refl H
  clear hG
  (try replace b0:=hx2.blk b0);(try replace b1:=hx2.blk b1);(try replace hx:=hx.trans hx2);(try replace k0:=k0.mono hx2);(try replace k1:=k1.mono hx2);(try replace k3:=k3.mono hx2);(try replace k4 := k4.mono hx2)
  unfold hasT
  by_cases hl : d.length = rows.length
  · have hl' : (d.length : Int) = (rows.length : Int) := by omega
    have hl1 := hd.slen
    rw [hl'] at hl1
    simp [r_22_1, r_22_3, h0, b0, hl1, hs.slen, hl, hl']
    refine W_cfor (fun i ρ G' => ρ 1 = w ∧ ρ 2 = u ∧ ρ 3 = .pointer (some ⟨H.size, 0, none⟩) ∧ ρ 7 = .int .i64 (i : Int) ∧ Ext G G' ∧ allB id ((List.zipWith (hasR x) rows d).take i) = true) rows.length (by decide) (by simp [h0, Ext.refl G, allB_nil]) ?_
    clear h0 ρ hx2
    rintro i ρ G1 hi1 ⟨g1, g2, g3, g7, hx1, hc⟩
    have hxx := hx.trans hx1
    have ks := hs.mono monoPS hxx
    have kd := hd.mono monoPE hxx
    have kx := hxv.mono monoPR hxx
    have b1 := hx1.blk b0
    have hl2 := kd.slen
    rw [hl'] at hl2
    simp [r_22_4, g1, g7, hl2]
    refine CStep.mk (by simp) (fun hi => ?_) (fun heq => ?_)
    · have hid : i < d.length := by omega
      obtain ⟨wr, hlr, kr⟩ := RowsV.load ks hi
      have hz : (List.zipWith (hasR x) rows d).length = rows.length := by simp; omega
      have hzi : (List.zipWith (hasR x) rows d)[i]'(by omega) = hasR x rows[i] d[i] := by simp
      have hfr := hr _ (List.getElem_mem hi)
      by_cases hlen : rows[i].length = x.length
      · simp [r_22_5, g2, g3, g7, b1, ks.ia hi, hlr]
        refine (r1_Dot_does kr kx (by have := hx.1; have := hx1.1; omega) hlen hfr hfx (by rw [hlen]; exact hS)).mono ?_
        rintro _ G2 ⟨⟨_, rfl, s1, s2, rfl, k0, k1⟩, hx2⟩
        replace kd := kd.mono monoPE hx2
        replace hx1 := hx1.trans hx2
        have hsz : H.size ≤ G2.size := by have := hx.1; have := hx1.1; omega
        simp [k0.cells, k0.plain, k1.cells, k1.plain, hsz]
        generalize hN : Array.setIfInBounds (Array.push _ _) _ _ = G3
        obtain ⟨hx2, b1⟩ := new1 hN
        have hN' := hN
        clear hN
        replace kd := kd.mono monoPE hx2
        replace hx1 := hx1.trans hx2
        replace k0 := k0.mono hx2
        replace k1 := k1.mono hx2
        refine W_draw ?_
        have hsd := szR_dot hfr hfx rows[i].length
        have hsd2 : rows[i].length * (2 * S + 3) ≤ (x.length + 1) * (2 * S + 3) := Nat.mul_le_mul_right _ (by omega)
        obtain ⟨we, hle, k4⟩ := ExtsV.load kd hid
        have k3 : ExtV G3 (.agg #[.int .i64 0, .bool (canonR (dotR rows[i] x rows[i].length)).1.1, s1, .bool (canonR (dotR rows[i] x rows[i].length)).2.1, s2]) (0, canonR (dotR rows[i] x rows[i].length)) := ⟨s1, s2, rfl, k0, k1⟩
        simp [r_22_6, b1, g1, g7, kd.ia hid, hle, writeL, k0.cells, k1.cells]
        refine (r1_CmpExt_does k3 k4 (by have := hx.1; have := hx1.1; omega) (by show lenR (canonR _) < _; rw [lenR_canon]; omega) (hfd _ (List.getElem_mem hid))).mono ?_
        rintro _ G4 ⟨rfl, hx2⟩
        replace hx1 := hx1.trans hx2
        rw [valE_canon0]
        by_cases hc0 : 0 < cmpE (0, dotR rows[i] x rows[i].length) (valE d[i])
        · simp [hc0, r_22_7]
          intros
          exact allB_no (i := i) (by omega) (by rw [hzi]; unfold hasR; simp [hc0])
        · simp [hc0]
          unfold CEnd
          simp [r_22_8, g7, wrap_succ (show i < 4611686018427387904 by omega)]
          refine CNext.mk ⟨by simp [g1], by simp [g2], by simp [g3], by simp, hx1, ?_⟩
          rw [allB_succ (by omega), hc, hzi]; unfold hasR; simp only [hlen, hc0, decide_true, decide_false, Bool.not_false, Bool.true_and, id_eq]
          rw [← hlen, decide_eq_false hc0]; rfl
      · simp [r_22_5, g2, g3, g7, b1, ks.ia hi, hlr]
        refine (r1_Dot_ne kr kx (by have := hx.1; have := hx1.1; omega) hlen).mono ?_
        rintro _ G2 ⟨⟨_, rfl, s1, s2, rfl, k0, k1⟩, hx2⟩
        replace hx1 := hx1.trans hx2
        have hsz : H.size ≤ G2.size := by have := hx.1; have := hx1.1; omega
        simp [k0.cells, k0.plain, k1.cells, k1.plain, hsz]
        refine W_draw ?_
        simp [r_22_6, r_22_7]
        intros
        exact allB_no (i := i) (by omega) (by rw [hzi]; unfold hasR; simp [hlen])
    · subst heq
      rw [List.take_of_length_le (by simp; omega)] at hc
      simp [r_22_9, hc]
  · have hl' : ¬ (d.length : Int) = (rows.length : Int) := by omega
    simp [r_22_1, r_22_2, h0, b0, hd.slen, hs.slen, hl, hl']

theorem r17_noughts_does {n : Nat} (hf : fl ≤ H.size) (hn : n < 1073741824) :
    Does env fl f_79 [.int .i64 (n : Int)] H (fun r H' => Owns PR H.size H' T_api_Rat 4 r (List.replicate n (canonR 0)) ∧ Ext H H') R := by
  refine does_ext e_79 hf (h := ?_)
  intro ρ h0
  simp [s_79, r_79_0, r_79_1, r_79_2, h0]
  refine W_cfor (fun i ρ G => ρ 0 = .int .i64 (n : Int) ∧ ρ 4 = .int .i64 (i : Int) ∧ Ext H G ∧ Owns PR H.size G T_api_Rat 4 (ρ 3) (List.replicate i (canonR 0))) n (by decide) ⟨by simp [h0], by simp, Ext.refl H, by simpa using Owns.nil⟩ ?_
  clear h0 ρ
  rintro i ρ G hi1 ⟨g0, g4, hx, ho⟩
  obtain ⟨s, g3⟩ : ∃ s, ρ 3 = s := ⟨_, rfl⟩
  rw [g3] at ho
  simp [r_79_3, g0, g4]
  refine CStep.mk (by simp) (fun hi => ?_) (fun heq => ?_)
  · simp [r_79_4, g3]
    refine (r1_OfRat_does (n := 0) hx.1 (by omega) (by omega)).mono ?_
    rintro _ G2 ⟨⟨s3, s4, rfl, k3, k4⟩, hx2⟩
    replace hx := hx.trans hx2
    replace ho := ho.mono monoPR hx2
    obtain ⟨s', G4, h1, h2, h3, h4⟩ := Owns.app (P := PR) (sz := 4) (e := T_api_Rat) (by decide) (fun G' cs x _ hl h => RatV.lx h hl) ho (e2 := T_api_Rat) (c := 1) (bytes := 64) (new := [.bool (canonR 0).1.1, s3, .bool (canonR 0).2.1, s4]) (x := canonR 0) ⟨s3, s4, rfl, k3, k4⟩ rfl (by simp [k3.plain, k4.plain]) (by simp; omega) (by omega) (by omega) hx.1
    have k3' : cellsL s3 = [s3] := k3.cells
    simp [g3, k3.cells, k4.cells, h1]
    unfold CEnd
    simp [r_79_5, g4, wrap_succ (show i < 4611686018427387904 by omega)]
    exact CNext.mk ⟨by simp [g0], by simp, h4 _ (Nat.le_refl _) hx, Owns.cast (v' := s') (by simp) (by rw [List.replicate_succ']; exact h2)⟩
  · subst heq
    simp [r_79_6, g3]
    exact fun _ => ho

end Go.Proofs.YtjlohmnnldbjoaaGreat.AI

/- The reference's own equality: rows of quotients, problems. -/
namespace Go.Proofs.YtjlohmnnldbjoaaGreat.AI
open Go
set_option maxHeartbeats 4000000

variable {fl : Nat} {H G : Heap} {R : PostP} {v w u : Value}

def FewQ (l : List RawR) : Prop := l.length < 1073741824 ∧ ∀ x ∈ l, lenR x < 1073741824

theorem SameRats_does {a b : List RawR} (ha : RatsV H v a) (hb : RatsV H w b) (hf : fl ≤ H.size) (hfa : FewQ a) :
    Does env fl f_56 [v, w] H (fun r H' => r = .bool (decide (a = b)) ∧ Ext H H') R := by
  refine does_ext e_56 hf (h := ?_)
  intro ρ h0
  have hal := hfa.1
  by_cases hl : a.length = b.length
  · simp [s_56, r_56_0, r_56_1, r_56_3, h0, ha.slen, hb.slen, hl]
    refine W_cfor (fun n ρ G => ρ 0 = v ∧ ρ 1 = w ∧ ρ 5 = .int .i64 (n : Int) ∧ Ext H G ∧ a.take n = b.take n) a.length (by decide) (by simp [h0]) ?_
    clear h0 ρ
    rintro n ρ G hn1 ⟨g0, g1, g5, hx, hpre⟩
    have ka := ha.mono monoPR hx
    have kb := hb.mono monoPR hx
    simp [r_56_4, g0, g5, ka.slen]
    refine CStep.mk (by simp) (fun hlt => ?_) (fun heq => ?_)
    · have hltb : n < b.length := by omega
      obtain ⟨wa, hla, k0⟩ := RatsV.load ka hlt
      obtain ⟨wb, hlb, k1⟩ := RatsV.load kb hltb
      simp
      refine W_draw ?_
      simp [r_56_5, g0, g1, g5, ka.ia hlt, kb.ia hltb, hla, hlb]
      refine (SameRat_does k0 k1 hx.1 (hfa.2 _ (List.getElem_mem hlt))).mono ?_
      rintro _ G2 ⟨rfl, hx2⟩
      (try replace hx:=hx.trans hx2);(try replace k0:=k0.mono hx2);(try replace k1 := k1.mono hx2)
      by_cases he : a[n] = b[n]
      · simp [he]
        unfold CEnd
        simp [r_56_7, g5, wrap_succ (show n < 4611686018427387904 by omega)]
        refine CNext.mk ⟨by simp [g0], by simp [g1], by simp, hx, ?_⟩
        rw [List.take_succ_eq_append_getElem hlt, List.take_succ_eq_append_getElem hltb, hpre, he]
      · simp [he, r_56_6]
        exact fun _ h => he (by subst h; rfl)
    · subst heq
      rw [List.take_length, hl, List.take_length] at hpre
      simp [r_56_8]
      exact fun _ => hpre
  · have hl' : ¬ ((a.length : Int) = (b.length : Int)) := by omega
    simp [s_56, r_56_0, r_56_1, r_56_2, h0, ha.slen, hb.slen, hl, hl']
    exact fun h => hl (by rw [h])

theorem SameLP_does {p : LPt} (h : LPV H v p) (k : LPV H w p) (hf : fl ≤ H.size) (hA : p.A.length < 1073741824) (hAr : ∀ r ∈ p.A, FewQ r) (hB : FewQ p.B) (hC : FewQ p.C) :
    Does env fl f_23 [v, w] H (fun r H' => r = .bool true ∧ Ext H H') R := by
  obtain ⟨n, A, B, C⟩ := p
  obtain ⟨a1, b1', c1, rfl, qA, qB, qC⟩ := h
  obtain ⟨a2, b2', c2, rfl, pA, pB, pC⟩ := k
  simp only at qA qB qC pA pB pC hA hAr hB hC
  refine does_ext e_23 hf (h := ?_)
  intro ρ h0
  simp [s_23, r_23_0, h0, qA.cells, qB.cells, qC.cells, pA.cells, pB.cells, pC.cells]
  generalize hG : Array.push (Array.push H _) _ = G
  have hx : Ext H G := by rw [← hG]; exact (Ext.refl H).push.push
  have b0 : Heap.blk G H.size = .row false T_api_LP [.int .i64 n, a1, b1', c1] := by rw [← hG]; simp
  have b1 : Heap.blk G (H.size + 1) = .row false T_api_LP [.int .i64 n, a2, b2', c2] := by rw [← hG]; simp
  clear hG
  simp [r_23_1, b0, b1, qA.slen, pA.slen]
  refine (SameRats_does (qB.mono monoPR hx) (pB.mono monoPR hx) hx.1 hB).mono ?_
  rintro _ G2 ⟨rfl, hx2⟩
  replace b0 := hx2.blk b0
  replace b1 := hx2.blk b1
  replace hx := hx.trans hx2
  simp [b0, b1]
  refine (SameRats_does (qC.mono monoPR hx) (pC.mono monoPR hx) hx.1 hC).mono ?_
  rintro _ G2 ⟨rfl, hx2⟩
  replace b0 := hx2.blk b0
  replace b1 := hx2.blk b1
  replace hx := hx.trans hx2
  simp [r_23_3]
  refine W_cfor (fun k ρ G2 => ρ 2 = .pointer (some ⟨H.size, 0, none⟩) ∧ ρ 3 = .pointer (some ⟨H.size + 1, 0, none⟩) ∧ ρ 5 = .int .i64 (k : Int) ∧ Ext H G2 ∧ Heap.blk G2 H.size = .row false T_api_LP [.int .i64 n, a1, b1', c1] ∧ Heap.blk G2 (H.size + 1) = .row false T_api_LP [.int .i64 n, a2, b2', c2]) A.length (by decide) ⟨by simp, by simp, by simp, hx, b0, b1⟩ ?_
  clear h0 ρ b0 b1 hx
  rintro k ρ G hk1 ⟨g2, g3, g5, hx, b0, b1⟩
  have rA := qA.mono monoPS hx
  have sA := pA.mono monoPS hx
  simp [r_23_4, g2, g5, b0, rA.slen]
  refine CStep.mk (by simp) (fun hlt => ?_) (fun heq => ?_)
  · obtain ⟨wa, hla, k0⟩ := RowsV.load rA hlt
    obtain ⟨wb, hlb, k1⟩ := RowsV.load sA hlt
    simp
    refine W_draw ?_
    simp [r_23_5, g2, g3, g5, b0, b1, rA.ia hlt, sA.ia hlt, hla, hlb]
    refine (SameRats_does k0 k1 hx.1 (hAr _ (List.getElem_mem hlt))).mono ?_
    rintro _ G2 ⟨rfl, hx2⟩
    replace b0 := hx2.blk b0
    replace b1 := hx2.blk b1
    replace hx := hx.trans hx2
    simp
    unfold CEnd
    simp [r_23_7, g5, wrap_succ (show k < 4611686018427387904 by omega)]
    exact CNext.mk ⟨by simp [g2], by simp [g3], by simp, hx, b0, b1⟩
  · simp [r_23_8]

end Go.Proofs.YtjlohmnnldbjoaaGreat.AI

/- The reference's problems: rows, Problem. -/
namespace Go.Proofs.YtjlohmnnldbjoaaGreat.AI
open Go
set_option maxHeartbeats 4000000

variable {fl : Nat} {H G : Heap} {R : PostP} {v w u : Value}

theorem ext_off {o : Option Nat} {H0 G' : Heap} (h : Ext H0 G) (hx : ExtB o G G') (ho : ∀ b, o = some b → H0.size ≤ b) : Ext H0 G' := by
  refine ⟨Nat.le_trans h.1 hx.1, fun b hb => ?_⟩
  rw [hx.2 b (Nat.lt_of_lt_of_le hb h.1) (fun he => by have := ho b he; omega)]
  exact h.2 b hb

theorem Owns.app0 {α β : Type} {P : Heap → List Value → α → Prop} {Q : Heap → List Value → β → Prop} {fl fl' fl2 e sz sz' e' bytes : Nat} {v w : Value} {l : List α} {H' : Heap} (h : Owns P fl G e sz v l) (k : Owns Q fl' H' e' sz' w ([] : List β)) :
    appA fl2 H e sz bytes v w = some (v, H) := by
  obtain ⟨cs, ⟨_, h1⟩, _⟩ := h
  obtain ⟨cs', ⟨_, k1⟩, _⟩ := k
  rcases h1 with ⟨rfl, _⟩ | ⟨b, c, rfl, _⟩ <;> rcases k1 with ⟨rfl, _⟩ | ⟨b', c', rfl, _⟩ <;> simp [appA]

def RowsInv (H : Heap) (P m : Nat) (s w sC : Value) (rows : List (List RawR)) (d : List RawE) (i : Nat) (ρ : Nat → Value) (G : Heap) : Prop :=
  ρ 1 = .int .i64 (m : Int) ∧ ρ 2 = .int .i64 0 ∧ ρ 3 = w ∧ ρ 4 = .pointer (some ⟨H.size, 0, none⟩) ∧ ρ 8 = .pointer (some ⟨H.size + 1, 0, none⟩) ∧ ρ 9 = .pointer (some ⟨P, 0, none⟩) ∧ ρ 10 = .int .i64 (i : Int) ∧ Ext H G ∧
    Heap.blk G H.size = .row false T_api_Template [s] ∧ Heap.blk G (H.size + 1) = .row false T_api_LP [.int .i64 0, .slice none 0 0, .slice none 0 0, .slice none 0 0] ∧
    ∃ sA sB, Heap.blk G P = .row false T_api_LP [.int .i64 (m : Int), sA, sB, sC] ∧ Owns (PSo (slB sB)) H.size G T_sl_api_Rat 1 sA (probA (rows.take i) (d.take i)) ∧
      Owns PR H.size G T_api_Rat 4 sB (probB (rows.take i) (d.take i)) ∧ RatsV G sC (List.replicate m (canonR 0)) ∧ (slB sC = none ∨ slB sC ≠ slB sB)

theorem r17_rows_does {S m : Nat} {rows : List (List RawR)} {d : List RawE} (h : TemplV H v rows) (hd : ExtsV H w d) (hf : fl ≤ H.size) (hS : S < 67108864) (hr : ∀ r ∈ rows, Few S r ∧ r.length = m) (hm : m < 1073741824) (hfd : FewE d) (hdl : d.length < 1073741824) (hdr : d.length = rows.length) (hmay : ∀ e ∈ d, mayE e = true) :
    Does env fl f_41 [v, .int .i64 (m : Int), .int .i64 0, w] H (fun r H' => LPV H' r ⟨m, probA rows d, probB rows d, List.replicate m (canonR 0)⟩ ∧ Ext H H') R := by
  obtain ⟨s, rfl, hs⟩ := h
  refine does_ext e_41 hf (h := ?_)
  intro ρ h0
  have w0 : IntKind.i64.wrap ((m : Int) + 0) = (m : Int) := by rw [Int.add_zero]; exact wrap64 (by omega) (by omega)
  rw [Int.add_zero] at w0
  simp [s_41, r_41_0, h0, hs.cells]
  generalize hG : Array.push (Array.push H _) _ = G
  have hx : Ext H G := by rw [← hG]; exact (Ext.refl H).push.push
  have b0 : Heap.blk G H.size = .row false T_api_Template [s] := by rw [← hG]; simp
  have b1 : Heap.blk G (H.size + 1) = .row false T_api_LP [.int .i64 0, .slice none 0 0, .slice none 0 0, .slice none 0 0] := by rw [← hG]; simp
  clear hG
  simp [r_41_1, h0, w0]
  refine (r17_noughts_does (n := m) hx.1 hm).mono ?_
  rintro sC G4 ⟨hC, hx2⟩
  (try replace b0:=hx2.blk b0);(try replace b1:=hx2.blk b1);(try replace b3:=hx2.blk b3);(try replace b4:=hx2.blk b4);(try replace hx:=hx.trans hx2);(try replace k0:=k0.mono hx2);(try replace k1:=k1.mono hx2);(try replace k2:=k2.mono hx2);(try replace k3:=k3.mono hx2);(try replace k4 := k4.mono hx2)
  have kC := hC.sls
  have hsz := hx.1
  have hb1l := blk_lt b1
  simp [h0, kC.cells, kC.plain, hsz]
  generalize hN : Array.setIfInBounds (Array.push _ _) _ _ = G5
  obtain ⟨hx2, b3⟩ := new1 hN
  clear hN
  (try replace b0:=hx2.blk b0);(try replace b1:=hx2.blk b1);(try replace b3:=hx2.blk b3);(try replace b4:=hx2.blk b4);(try replace hx:=hx.trans hx2);(try replace k0:=k0.mono hx2);(try replace k1:=k1.mono hx2);(try replace k2:=k2.mono hx2);(try replace k3:=k3.mono hx2);(try replace k4 := k4.mono hx2)
  replace kC := kC.mono monoPR hx2
  obtain ⟨P, hP⟩ : ∃ P, P = G4.size := ⟨_, rfl⟩
  rw [← hP] at b3 hsz hb1l ⊢
  have hPH := hsz
  have hPne : P ≠ H.size + 1 := by omega
  simp [r_41_2]
  refine W_cfor (RowsInv H P m s w sC rows d) d.length (by decide) ⟨by simp [h0], by simp [h0], by simp [h0], by simp, by simp, by simp, by simp, hx, b0, b1, _, _, b3, by simpa [probA] using Owns.nil, by simpa [probB] using Owns.nil, kC, by
      cases hsc : slB sC with
      | none => exact .inl rfl
      | some b => right; simp [slB]⟩ ?_
  clear h0 ρ hx b0 b1 b3 kC hC hx2
  rintro i ρ G hi1 ⟨g1, g2, g3, g4, g8, g9, g10, hx, b0, b1, sA, sB, b3, hA, hB, kC, hCB⟩
  have kd := hd.mono monoPE hx
  simp [r_41_3, g3, g10, kd.slen]
  refine CStep.mk (by simp) (fun hi => ?_) (fun heq => ?_)
  · have hir : i < rows.length := by omega
    have hwn := wrap_succ (show i < 4611686018427387904 by omega)
    have ks := hs.mono monoPS hx
    obtain ⟨we, hle, k0⟩ := ExtsV.load kd hi
    have hme := hmay _ (List.getElem_mem hi)
    obtain ⟨e, hee⟩ : ∃ e, e = d[i] := ⟨_, rfl⟩
    have hfe := hfd _ (List.getElem_mem hi)
    have pA := probA_succ hir hi
    have pB := probB_succ hir hi
    rw [← hee] at hme k0 hfe pA pB
    simp [r_41_4, g3, g10, kd.ia hi, hle]
    refine (r1_NormExt_does k0 hx.1 (by omega)).mono ?_
    rintro _ G2 ⟨⟨s1, s2, rfl, k1, k2⟩, hx2⟩
    (try replace b0:=hx2.blk b0);(try replace b1:=hx2.blk b1);(try replace b3:=hx2.blk b3);(try replace b4:=hx2.blk b4);(try replace hx:=hx.trans hx2);(try replace k0:=k0.mono hx2);(try replace k1:=k1.mono hx2);(try replace k2:=k2.mono hx2);(try replace k3:=k3.mono hx2);(try replace k4 := k4.mono hx2)
    replace ks := ks.mono monoPS hx2
    replace hA := hA.mono monoPSo hx2
    replace hB := hB.mono monoPR hx2
    replace kC := kC.mono monoPR hx2
    have hsz := hx.1
    simp [k1.cells, k1.plain, k2.cells, k2.plain, hsz]
    generalize hN : Array.setIfInBounds (Array.push _ _) _ _ = G3
    obtain ⟨hx2, b4⟩ := new1 hN
    clear hN
    (try replace b0:=hx2.blk b0);(try replace b1:=hx2.blk b1);(try replace b3:=hx2.blk b3);(try replace b4:=hx2.blk b4);(try replace hx:=hx.trans hx2);(try replace k0:=k0.mono hx2);(try replace k1:=k1.mono hx2);(try replace k2:=k2.mono hx2);(try replace k3:=k3.mono hx2);(try replace k4 := k4.mono hx2)
    replace ks := ks.mono monoPS hx2
    replace hA := hA.mono monoPSo hx2
    replace hB := hB.mono monoPR hx2
    replace kC := kC.mono monoPR hx2
    obtain ⟨P2, hP2⟩ : ∃ P2, P2 = G2.size := ⟨_, rfl⟩
    rw [← hP2] at b4 hsz ⊢
    have hve : valE e = if e.1 = 0 then (0, valR e.2) else (e.1, 0) := by unfold valE; rw [if_pos hme]
    by_cases he : e.1 = 0
    · rw [if_pos he] at hve pA pB
      have hcE : canonE (valE e) = (0, canonR (valR e.2)) := by rw [hve]; rfl
      rw [hcE] at b4 k1 k2
      simp only at b4 k1 k2
      obtain ⟨q, hq⟩ : ∃ q, q = canonR (valR e.2) := ⟨_, rfl⟩
      rw [← hq] at b4 k1 k2 pB
      rw [hcE, ← hq]
      simp [r_41_5, b4, r_41_6, r_41_7]
      obtain ⟨hfew, hrlen⟩ := hr _ (List.getElem_mem hir)
      have hBlt : ∀ b, slB sB = some b → b < G3.size := fun b h => (hB.ge h).2
      have hlA := probA_len (rows.take i) (d.take i)
      have hlB := probB_len (rows.take i) (d.take i)
      simp only [List.length_take] at hlA hlB
      obtain ⟨ri, hri⟩ : ∃ r, r = rows[i] := ⟨_, rfl⟩
      rw [← hri] at hfew hrlen pA
      refine W_cfor (fun k ρ G' => ρ 1 = .int .i64 (m : Int) ∧ ρ 2 = .int .i64 0 ∧ ρ 3 = w ∧ ρ 4 = .pointer (some ⟨H.size, 0, none⟩) ∧ ρ 8 = .pointer (some ⟨H.size + 1, 0, none⟩) ∧ ρ 9 = .pointer (some ⟨P, 0, none⟩) ∧ ρ 10 = .int .i64 (i : Int) ∧ ρ 11 = .pointer (some ⟨P2, 0, none⟩) ∧ ρ 13 = .int .i64 (k : Int) ∧
        Ext G3 G' ∧ Owns PR H.size G' T_api_Rat 4 (ρ 12) ((ownL ri).take k) ∧ ∀ b, slB (ρ 12) = some b → G3.size ≤ b) m (by decide)
        ⟨by simp [g1], by simp [g2], by simp [g3], by simp [g4], by simp [g8], by simp [g9], by simp [g10], by simp, by simp, Ext.refl G3, by simpa using Owns.nil, by simp [slB]⟩ ?_
      clear g1 g2 g3 g4 g8 g9 g10 ρ
      rintro k ρ G4 hk1 ⟨g1, g2, g3, g4, g8, g9, g10, g11, g13, hx3, ho, hge⟩
      obtain ⟨a, g12⟩ : ∃ s, ρ 12 = s := ⟨_, rfl⟩
      rw [g12] at ho hge
      simp [r_41_8, g1, g13]
      have hown : (ownL ri).length = m := by unfold ownL; simp [hrlen]
      refine CStep.mk (by simp) (fun hk => ?_) (fun heq => ?_)
      · have ks4 := ks.mono monoPS hx3
        obtain ⟨wr, hlr, kr⟩ := RowsV.load ks4 hir
        rw [← hri] at kr
        have hkr : k < ri.length := by omega
        obtain ⟨wx, hlx, kx⟩ := RatsV.load kr hkr
        simp [r_41_9, g4, g10, g12, g13, hx3.blk b0, ks4.ia hir, hlr, kr.ia hkr, hlx]
        refine (r1_NormRat_does kx (by have := hx.1; have := hx3.1; omega) (by have := (hfew _ (List.getElem_mem hkr)).1; omega)).mono ?_
        rintro _ G5 ⟨⟨s3, s4, rfl, k3, k4⟩, hx2⟩
        replace hx3 := hx3.trans hx2
        replace ho := ho.mono monoPR hx2
        obtain ⟨v', G6, h1, h2, h3, h4⟩ := Owns.app (P := PR) (sz := 4) (e := T_api_Rat) (by decide) (fun G' cs x _ hl h => RatV.lx h hl) ho (e2 := T_api_Rat) (c := 1) (bytes := 64) (new := [.bool (canonR (valR ri[k])).1.1, s3, .bool (canonR (valR ri[k])).2.1, s4]) (x := canonR (valR ri[k])) ⟨s3, s4, rfl, k3, k4⟩ rfl (by simp [k3.plain, k4.plain]) (by simp; omega) (by omega) (by omega) (by have := hx.1; have := hx3.1; omega)
        obtain ⟨m1, c1, hfr⟩ := app_fresh (by decide) h1
        simp [g12, k3.cells, k4.cells, h1]
        unfold CEnd
        simp [r_41_10, g13, wrap_succ (show k < 4611686018427387904 by omega)]
        refine CNext.mk ⟨by simp [g1], by simp [g2], by simp [g3], by simp [g4], by simp [g8], by simp [g9], by simp [g10], by simp [g11], by simp, ext_off hx3 h3 hge, Owns.cast (v' := v') (by simp) (by unfold ownL; rw [take_map hkr]; exact h2), ?_⟩
        intro b hb
        have hb' : slB v' = some b := by simpa using hb
        rw [hfr] at hb'
        simp [slB] at hb'
        have := hx3.1
        omega
      · subst heq
        rw [List.take_of_length_le (by omega)] at ho
        have hx2 := hx3
        (try replace b0:=hx2.blk b0);(try replace b1:=hx2.blk b1);(try replace b3:=hx2.blk b3);(try replace b4:=hx2.blk b4);(try replace hx:=hx.trans hx2);(try replace k0:=k0.mono hx2);(try replace k1:=k1.mono hx2);(try replace k2:=k2.mono hx2);(try replace k3:=k3.mono hx2);(try replace k4 := k4.mono hx2)
        replace hA := hA.mono monoPSo hx2
        replace hB := hB.mono monoPR hx2
        replace kC := kC.mono monoPR hx2
        simp [r_41_11, g2, g12]
        have hn0 := fun R' => r17_noughts_does (n := 0) (fl := H.size) (H := G4) (R := R') hx.1 (by omega)
        simp only [Int.natCast_zero] at hn0
        refine (hn0 _).mono ?_
        rintro z G5 ⟨hz0, hx2⟩
        (try replace b0:=hx2.blk b0);(try replace b1:=hx2.blk b1);(try replace b3:=hx2.blk b3);(try replace b4:=hx2.blk b4);(try replace hx:=hx.trans hx2);(try replace k0:=k0.mono hx2);(try replace k1:=k1.mono hx2);(try replace k2:=k2.mono hx2);(try replace k3:=k3.mono hx2);(try replace k4 := k4.mono hx2)
        replace hA := hA.mono monoPSo hx2
        replace hB := hB.mono monoPR hx2
        replace kC := kC.mono monoPR hx2
        replace ho := ho.mono monoPR hx2
        have happ := Owns.app0 (H := G5) (e := T_api_Rat) (sz := 4) (bytes := 64) (fl2 := H.size) ho hz0
        have hrB : slB a = none ∨ slB a ≠ slB sB := by
          cases hr1 : slB a with
          | none => exact .inl rfl
          | some b =>
            right; intro h
            have h1 := hge b hr1
            have h2 := hBlt b h.symm
            omega
        obtain ⟨cr, pr⟩ := ho.cells
        simp [g2, g12, happ]
        obtain ⟨sA', G6, h1, h2, h3, h4⟩ := Owns.app (P := PSo (slB sB)) (sz := 1) (e := T_sl_api_Rat) (by decide)
          (fun G' cs x hxb hl ⟨w', q1, q2, q3⟩ => ⟨w', q1, q2.lx2 (hA.lxT (by decide) hxb) hl, q3⟩) hA (e2 := T_sl_api_Rat) (c := 1) (bytes := 24) (new := [a]) (x := ownL ri) ⟨a, rfl, ho.sls, hrB⟩ rfl (by simp [pr]) (by omega) (by omega) (by omega) hx.1
        have hlx := hA.lx (by decide) h3
        have hlr := hA.lxT (e' := T_api_Rat) (by decide) h3
        have nA0 := hA.ne b0 (by decide)
        have nA1 := hA.ne b1 (by decide)
        have nA3 := hA.ne b3 (by decide)
        have nA4 := hA.ne b4 (by decide)
        obtain ⟨cA, pA'⟩ := h2.cells
        have hz3 := blk_lt b3
        simp [r_41_12, g9, b3, cr, h1, cA, pA', hPH]
        replace b0 := (h3.2 _ (blk_lt b0) nA0).trans b0
        replace b1 := (h3.2 _ (blk_lt b1) nA1).trans b1
        replace b3 := (h3.2 _ (blk_lt b3) nA3).trans b3
        replace b4 := (h3.2 _ (blk_lt b4) nA4).trans b4
        replace hx := h4 _ (Nat.le_refl _) hx
        replace k1 := k1.lx hlx
        replace k2 := k2.lx hlx
        replace kC := RatsV.lx2 kC hlr hlx
        replace hB := hB.lxm (Q' := PR) hlr (fun cs x h => RatV.lx h hlx)
        rw [← pA] at h2
        replace hA := h2
        clear h1 h2 h3 h4 ho happ hz0
        have hz := blk_lt b3
        simp [b3, cA, pA', hPH, hz]
        generalize hS1 : Array.setIfInBounds G6 P _ = G7
        have t1 : ∀ {e : Nat}, T_api_LP ≠ e → LxT e G6 G7 := fun hne => set_lxT hS1 b3 hne
        have n0 : P ≠ H.size := by intro h; rw [h, b0] at b3; cases b3
        have n4 : P ≠ P2 := by intro h; rw [h, b4] at b3; cases b3
        replace hA := hA.lxm (Q' := PSo (slB sB)) (t1 (by decide)) (fun cs x ⟨w', q1, q2, q3⟩ => ⟨w', q1, q2.lx2 (t1 (by decide)) (t1 (by decide)), q3⟩)
        replace hB := hB.lxm (Q' := PR) (t1 (by decide)) (fun cs x h => RatV.lx h (t1 (by decide)))
        replace kC := RatsV.lx2 kC (t1 (by decide)) (t1 (by decide))
        replace k1 := k1.lx (t1 (by decide))
        replace k2 := k2.lx (t1 (by decide))
        replace b0 := set_keep hS1 b0 n0
        replace b1 := set_keep hS1 b1 hPne
        replace b4 := set_keep hS1 b4 n4
        replace hx := set_ext hS1 hx hPH
        replace b3 := set_new hS1 b3
        clear hS1
        obtain ⟨sB', G8, p1, p2, p3, p4⟩ := Owns.app (P := PR) (sz := 4) (e := T_api_Rat) (by decide) (fun G' cs x _ hl h => RatV.lx h hl) hB (e2 := T_api_Rat) (c := 1) (bytes := 64) (new := [.bool q.1.1, s1, .bool q.2.1, s2]) (x := q) ⟨s1, s2, rfl, k1, k2⟩ rfl (by simp [k1.plain, k2.plain]) (by omega) (by omega) (by omega) hx.1
        obtain ⟨_, _, hBe⟩ := app_fresh (by decide) p1
        obtain ⟨cB, pB'⟩ := p2.cells
        simp [r_41_13, g9, g11, b3, b4, k1.cells, k2.cells, p1]
        have hlx := hB.lx (by decide) p3
        have nB0 := hB.ne b0 (by decide)
        have nB1 := hB.ne b1 (by decide)
        have nB3 := hB.ne b3 (by decide)
        have hsBn : slB sB' = some (G7.size + 1) := by rw [hBe]; simp [slB]
        have hA' : Owns (PSo (slB sB')) H.size G8 T_sl_api_Rat 1 sA' (probA (rows.take (i + 1)) (d.take (i + 1))) := by
          refine hA.lxm (hB.lxT (by decide) p3) (fun cs x ⟨w', q1, q2, q3⟩ => ⟨w', q1, q2.off p3 q3 hlx, ?_⟩)
          cases hw : slB w' with
          | none => exact .inl rfl
          | some b => right; rw [hsBn]; have := q2.lt hw; simp; omega
        have hCB' : slB sC = none ∨ slB sC ≠ slB sB' := by
          cases hw : slB sC with
          | none => exact .inl rfl
          | some b => right; rw [hsBn]; have := RatsV.lt kC hw; simp; omega
        replace kC := RatsV.off kC p3 hCB hlx
        replace b0 := (p3.2 _ (blk_lt b0) nB0).trans b0
        replace b1 := (p3.2 _ (blk_lt b1) nB1).trans b1
        replace b3 := (p3.2 _ (blk_lt b3) nB3).trans b3
        replace hx := p4 _ (Nat.le_refl _) hx
        rw [← pB] at p2
        have hz := blk_lt b3
        simp [b3, cB, pB', hPH, hz]
        generalize hS1 : Array.setIfInBounds G8 P _ = G9
        have t1 : ∀ {e : Nat}, T_api_LP ≠ e → LxT e G8 G9 := fun hne => set_lxT hS1 b3 hne
        unfold CEnd
        simp [r_41_14, g10, hwn]
        refine CNext.mk ⟨by simp [g1], by simp [g2], by simp [g3], by simp [g4], by simp [g8], by simp [g9], by simp, set_ext hS1 hx hPH, set_keep hS1 b0 n0, set_keep hS1 b1 hPne, sA', sB', set_new hS1 b3, ?_, ?_, ?_, hCB'⟩
        · exact hA'.lxm (t1 (by decide)) (fun cs x ⟨w', q1, q2, q3⟩ => ⟨w', q1, q2.lx2 (t1 (by decide)) (t1 (by decide)), q3⟩)
        · exact p2.lxm (t1 (by decide)) (fun cs x h => RatV.lx h (t1 (by decide)))
        · exact RatsV.lx2 kC (t1 (by decide)) (t1 (by decide))
    · rw [if_neg he, List.append_nil] at pA pB
      rw [if_neg he] at hve
      have hcE : (canonE (valE e)).1 = e.1 := by rw [hve]; unfold canonE; rw [if_neg he]
      rw [hcE] at b4
      simp [r_41_5, b4, he]
      unfold CEnd
      simp [r_41_14, g10, hwn]
      exact CNext.mk ⟨by simp [g1], by simp [g2], by simp [g3], by simp [g4], by simp [g8], by simp [g9], by simp, hx, b0, b1, sA, sB, b3, by rw [pA]; exact hA, by rw [pB]; exact hB, kC, hCB⟩
  · subst heq
    rw [hdr, List.take_length, ← hdr, List.take_length] at hA hB
    have hz := blk_lt b1
    obtain ⟨cA, pA⟩ := hA.cells
    obtain ⟨cB, pB⟩ := hB.cells
    simp [r_41_15, g8, g9, b3, b1, cA, pA, cB, pB, kC.cells, kC.plain, hz]
    generalize hS : Array.setIfInBounds _ _ _ = G9
    have t1 : ∀ {e : Nat}, T_api_LP ≠ e → LxT e G G9 := fun hne => set_lxT hS b1 hne
    refine fun _ => ⟨sA, sB, sC, rfl, ?_, RatsV.lx2 hB.sls (t1 (by decide)) (t1 (by decide)), RatsV.lx2 kC (t1 (by decide)) (t1 (by decide))⟩
    exact RowsV.lx3 (hA.imp (fun cs x ⟨w', q1, q2, _⟩ => ⟨w', q1, q2⟩)).sls (t1 (by decide)) (t1 (by decide)) (t1 (by decide))

end Go.Proofs.YtjlohmnnldbjoaaGreat.AI

/- The reference's problems: Problem. -/
namespace Go.Proofs.YtjlohmnnldbjoaaGreat.AI
open Go
set_option maxHeartbeats 4000000

variable {fl : Nat} {H G : Heap} {R : PostP} {v w u : Value}

theorem may_of_values {rows : List (List RawR)} {n : Int} {d : List RawE} (h : valuesT rows n d = true) : d.length = rows.length ∧ (∀ e ∈ d, mayE e = true) ∧ 0 ≤ n ∧ n ≤ 6 ∧ rows.length ≤ 40 ∧ ∀ r ∈ rows, (r.length : Int) = n := by
  unfold valuesT rightT at h
  simp only [Bool.and_eq_true, decide_eq_true_eq, Bool.not_eq_true'] at h
  obtain ⟨⟨⟨⟨⟨h1, h2⟩, h3⟩, h4⟩, h5⟩, h6⟩ := h
  refine ⟨h5, fun e he => ?_, h1, h2, h3, fun r hr => ?_⟩
  · cases hm : mayE e with
    | true => rfl
    | false => exact absurd (List.any_eq_true.2 ⟨e, he, (by rw [hm]; rfl : (!mayE e) = true)⟩) (by unfold anyB at h6; rw [h6]; decide)
  · unfold allB at h4
    have := List.all_eq_true.1 h4 r hr
    unfold rowOk at this
    simp only [Bool.and_eq_true, decide_eq_true_eq] at this
    exact this.1
theorem dead_same {d : List RawE} (h : ∀ e ∈ d, mayE e = true) : anyB (fun e => decide ((valE e).1 < 0)) d = anyB (fun e : RawE => decide (e.1 < 0)) d := by
  induction d with
  | nil => rfl
  | cons e l ih =>
    have h1 := h e (by simp)
    have h2 : (valE e).1 = e.1 := by unfold valE; rw [if_pos h1]; split; rename_i h; rw [h]; rfl
    have h3 := ih (fun x hx => h x (by simp [hx]))
    unfold anyB at h3 ⊢
    rw [List.any_cons, List.any_cons, h3, h2]

theorem r17_Problem_does {S : Nat} {rows : List (List RawR)} {n : Int} {d : List RawE} (h : TemplV H v rows) (hd : ExtsV H w d) (hf : fl ≤ H.size) (hS : S < 67108864) (hr : ∀ r ∈ rows, Few S r ∧ r.length < 1073741824) (hrl : rows.length < 1073741824) (hfd : FewE d) (hdl : d.length < 1073741824) :
    Does env fl f_14 [v, .int .i64 n, w] H (fun r H' => (if valuesT rows n d = true ∧ anyB (fun e => decide (e.1 < 0)) d = false then ∃ p, r = .tuple #[p, .bool true] ∧ LPV H' p ⟨n, probA rows d, probB rows d, List.replicate n.toNat (canonR 0)⟩ else ∃ p, r = .tuple #[p, .bool false] ∧ LPV H' p ⟨0, [], [], []⟩) ∧ Ext H H') R := by
  obtain ⟨s, rfl, hs⟩ := h
  refine does_ext e_14 hf (h := ?_)
  intro ρ h0
  simp [s_14, r_14_0, h0, hs.cells]
  generalize hG : Array.push (Array.push H _) _ = G
  have hx : Ext H G := by rw [← hG]; exact (Ext.refl H).push.push
  have b0 : Heap.blk G H.size = .row false T_api_Template [s] := by rw [← hG]; simp
  have b1 : Heap.blk G (H.size + 1) = .row false T_api_LP [.int .i64 0, .slice none 0 0, .slice none 0 0, .slice none 0 0] := by rw [← hG]; simp
  clear hG
  have kt : TemplV G (.agg #[s]) rows := ⟨s, rfl, hs.mono monoPS hx⟩
  simp [r_14_1, h0, b0]
  refine (r17_Values_does kt (hd.mono monoPE hx) hx.1 hS hr hrl hfd hdl).mono ?_
  rintro _ G2 ⟨rfl, hx2⟩
  (try replace b0:=hx2.blk b0);(try replace b1:=hx2.blk b1);(try replace hx := hx.trans hx2)
  cases hv : valuesT rows n d
  · have hz := blk_lt b1
    simp [r_14_2, h0, b1, hz]
    exact fun _ => ⟨_, _, _, rfl, Sls.nil, Sls.nil, Sls.nil⟩
  obtain ⟨hdr, hmay, hn0, hn6, hr40, hrn⟩ := may_of_values hv
  simp [h0]
  refine (r17_Dead_does (hd.mono monoPE hx) hx.1 hfd hdl).mono ?_
  rintro _ G2 ⟨rfl, hx2⟩
  (try replace b0:=hx2.blk b0);(try replace b1:=hx2.blk b1);(try replace hx := hx.trans hx2)
  rw [dead_same hmay]
  cases hno : anyB (fun e : RawE => decide (e.1 < 0)) d
  case true =>
    have hz := blk_lt b1
    simp [r_14_2, h0, b1, hz]
    exact fun _ => ⟨_, _, _, rfl, Sls.nil, Sls.nil, Sls.nil⟩
  obtain ⟨m, rfl⟩ : ∃ m : Nat, n = m := ⟨n.toNat, by omega⟩
  have kt : TemplV G2 (.agg #[s]) rows := ⟨s, rfl, hs.mono monoPS hx⟩
  simp [r_14_3, h0, b0]
  refine (r17_rows_does (S := S) (m := m) kt (hd.mono monoPE hx) hx.1 hS (fun r hr' => ⟨(hr r hr').1, by have := hrn r hr'; omega⟩) (by omega) hfd hdl hdr hmay).mono ?_
  rintro _ G3 ⟨⟨sA, sB, sC, rfl, kA, kB, kC⟩, hx2⟩
  (try replace b0:=hx2.blk b0);(try replace b1:=hx2.blk b1);(try replace hx := hx.trans hx2)
  have hz := blk_lt b1
  simp [b1, kA.cells, kA.plain, kB.cells, kB.plain, kC.cells, kC.plain, hz]
  generalize hS : Array.setIfInBounds _ _ _ = G9
  have t1 : ∀ {e : Nat}, T_api_LP ≠ e → LxT e G3 G9 := fun hne => set_lxT hS b1 hne
  refine fun _ => ⟨sA, sB, sC, rfl, ?_, RatsV.lx2 kB (t1 (by decide)) (t1 (by decide)), RatsV.lx2 kC (t1 (by decide)) (t1 (by decide))⟩
  exact RowsV.lx3 kA (t1 (by decide)) (t1 (by decide)) (t1 (by decide))

end Go.Proofs.YtjlohmnnldbjoaaGreat.AI

/- DomPoints: the law's walk. -/
namespace Go.Proofs.YtjlohmnnldbjoaaGreat.AI
open Go
set_option maxHeartbeats 4000000

variable {fl : Nat} {H G : Heap} {R : PostP} {u v w z : Value} {rows : List (List RawR)} {d : List RawE} {x : List RawR} {n : Int}

theorem fewq_canon {S : Nat} {r : List RawR} (h : Few S r) (hl : r.length < 1073741824) (hS : S < 67108864) : FewQ (ownL r) := by
  refine ⟨by unfold ownL; simpa using hl, fun y hy => ?_⟩
  unfold ownL at hy
  obtain ⟨x, hx, rfl⟩ := List.mem_map.1 hy
  obtain ⟨h1, h2, h3⟩ := h x hx
  have := szR_val h2 h3
  rw [lenR_canon]; omega
theorem probA_mem : ∀ {rows : List (List RawR)} {d : List RawE} {r : List RawR}, r ∈ probA rows d → ∃ q ∈ rows, r = ownL q
  | [], _, r, h => by simp [probA] at h
  | _ :: _, [], r, h => by simp [probA] at h
  | q :: rs, e :: es, r, h => by
    simp only [probA] at h
    split at h
    · rcases List.mem_cons.1 h with rfl | h
      · exact ⟨q, by simp, rfl⟩
      · obtain ⟨q', h1, h2⟩ := probA_mem h; exact ⟨q', by simp [h1], h2⟩
    · obtain ⟨q', h1, h2⟩ := probA_mem h; exact ⟨q', by simp [h1], h2⟩
theorem probB_mem : ∀ {rows : List (List RawR)} {d : List RawE} {r : RawR}, r ∈ probB rows d → ∃ e ∈ d, r = canonR (valR e.2)
  | [], _, r, h => by simp [probB] at h
  | _ :: _, [], r, h => by simp [probB] at h
  | q :: rs, e :: es, r, h => by
    simp only [probB] at h
    split at h
    · rcases List.mem_cons.1 h with rfl | h
      · exact ⟨e, by simp, rfl⟩
      · obtain ⟨q', h1, h2⟩ := probB_mem h; exact ⟨q', by simp [h1], h2⟩
    · obtain ⟨q', h1, h2⟩ := probB_mem h; exact ⟨q', by simp [h1], h2⟩

theorem LPV.mono {p : LPt} (h : LPV H v p) (hx : Ext H G) : LPV G v p := by
  obtain ⟨a, b, c, h1, h2, h3, h4⟩ := h
  exact ⟨a, b, c, h1, h2.mono monoPS hx, h3.mono monoPR hx, h4.mono monoPR hx⟩

theorem DomPoints_does (ht : TemplV H u rows) (ha : ExtsV H v d) (hc : RatsV H z x) (hf : fl ≤ H.size) :
    Does env fl f_4 [u, .int .i64 n, v, z] H (fun r H' => r = .bool true ∧ Ext H H') (fun _ => False) := by
  obtain ⟨s, rfl, hs⟩ := ht
  refine does_ext e_4 hf (h := ?_)
  intro ρ h0
  simp [s_4, r_4_0, h0, hs.cells]
  generalize hG : Array.push H _ = G
  obtain ⟨hx2, b0⟩ := new0 hG
  have hx := Ext.refl H
  have ka := ha
  have kt := hc
  have kc := hs
  clear hG
  replace hx := hx.trans hx2
  replace ka := ka.mono monoPE hx2
  replace kt := kt.mono monoPR hx2
  replace kc := kc.mono monoPS hx2
  simp [r_4_1, b0]
  refine (Great4_does kc hx.1).mono ?_
  rintro _ G1 ⟨⟨c, rfl, hgr⟩, hx2⟩
  replace hx := hx.trans hx2
  replace ka := ka.mono monoPE hx2
  replace kt := kt.mono monoPR hx2
  replace kc := kc.mono monoPS hx2
  (try replace b0 := hx2.blk b0)
  (try replace b2 := hx2.blk b2)
  (try replace b3 := hx2.blk b3)
  (try replace kp := kp.mono hx2)
  (try replace kq := kq.mono hx2)
  cases c with
  | true =>
    simp [r_4_2]
    refine awake_does.mono ?_
    rintro _ G2 ⟨rfl, rfl⟩
    simp
  | false =>
  replace hgr := hgr rfl
  simp [h0]
  refine (Great18_any ka hx.1).mono ?_
  rintro _ G1 ⟨rfl, hx2⟩
  replace hx := hx.trans hx2
  replace ka := ka.mono monoPE hx2
  replace kt := kt.mono monoPR hx2
  replace kc := kc.mono monoPS hx2
  (try replace b0 := hx2.blk b0)
  (try replace b2 := hx2.blk b2)
  (try replace b3 := hx2.blk b3)
  (try replace kp := kp.mono hx2)
  (try replace kq := kq.mono hx2)
  by_cases la : 100 < d.length
  · simp [la, r_4_2]
    refine awake_does.mono ?_
    rintro _ G2 ⟨rfl, rfl⟩
    simp
  by_cases ga : anyB longE d = true
  · simp [ga, la, r_4_2]
    refine awake_does.mono ?_
    rintro _ G2 ⟨rfl, rfl⟩
    simp
  rw [Bool.not_eq_true] at ga
  simp [ga, la, kt.cells, h0]
  generalize hG : Array.push G1 _ = G2
  obtain ⟨hx2, b1⟩ := new0 hG
  clear hG
  replace hx := hx.trans hx2
  replace ka := ka.mono monoPE hx2
  replace kt := kt.mono monoPR hx2
  replace kc := kc.mono monoPS hx2
  (try replace b0 := hx2.blk b0)
  (try replace b2 := hx2.blk b2)
  (try replace b3 := hx2.blk b3)
  (try replace kp := kp.mono hx2)
  (try replace kq := kq.mono hx2)
  refine (Great4_does (rowsv_one b1 kt) hx.1).mono ?_
  rintro _ G1 ⟨⟨c, rfl, hgx⟩, hx2⟩
  replace hx := hx.trans hx2
  replace ka := ka.mono monoPE hx2
  replace kt := kt.mono monoPR hx2
  replace kc := kc.mono monoPS hx2
  (try replace b0 := hx2.blk b0)
  (try replace b2 := hx2.blk b2)
  (try replace b3 := hx2.blk b3)
  (try replace kp := kp.mono hx2)
  (try replace kq := kq.mono hx2)
  clear b1
  cases c with
  | true =>
    simp [r_4_2]
    refine awake_does.mono ?_
    rintro _ G2 ⟨rfl, rfl⟩
    simp
  | false =>
  replace hgx := (hgx rfl).2 x (by simp)
  have fr := RowsV.few kc hgr
  have fx := RatsV.limR kt hgx.2
  have fa := few_of ga
  have hr : ∀ r ∈ rows, Few 6 r ∧ r.length < 1073741824 := fun r hr => ⟨fr r hr, by have := (hgr.2 r hr).1; omega⟩
  have hS : (x.length + 1) * (2 * 6 + 3) + 1 < 67108864 := by have := hgx.1; omega
  have hrl : rows.length < 1073741824 := by have := hgr.1; omega
  simp [r_4_3, b0, h0]
  refine (dom_Problem_does (S := 6) (rows := rows) (n := n) ⟨s, rfl, kc⟩ ka hx.1 (by decide) hr hrl fa (by omega)).mono ?_
  rintro rp G3 ⟨hp, hx2⟩
  replace hx := hx.trans hx2
  replace ka := ka.mono monoPE hx2
  replace kt := kt.mono monoPR hx2
  replace kc := kc.mono monoPS hx2
  (try replace b0 := hx2.blk b0)
  (try replace b2 := hx2.blk b2)
  (try replace b3 := hx2.blk b3)
  (try replace kp := kp.mono hx2)
  (try replace kq := kq.mono hx2)
  by_cases hok : valuesT rows n d = true ∧ anyB (fun e => decide (e.1 < 0)) d = false
  · rw [if_pos hok] at hp
    obtain ⟨p, rfl, hp⟩ := hp
    have hn0 := (may_of_values hok.1).2.2
    have fA : (probA rows d).length < 1073741824 := by have := probA_len rows d; omega
    have fAr : ∀ r ∈ probA rows d, FewQ r := fun r hr' => by
      obtain ⟨q, h1, rfl⟩ := probA_mem hr'
      exact fewq_canon (hr q h1).1 (hr q h1).2 (by decide)
    have fB : FewQ (probB rows d) := ⟨by have := probB_len rows d; omega, fun r hr' => by
      obtain ⟨e, h1, rfl⟩ := probB_mem hr'
      have h2 := fa e h1
      have h3 := ExtsV.limE ka e h1
      have := szR_val h3.1 h3.2
      rw [lenR_canon]; omega⟩
    have fC : FewQ (List.replicate n.toNat (canonR 0)) := ⟨by simp; omega, fun r hr' => by rw [(List.mem_replicate.1 hr').2, lenR_canon, szR_zero]; decide⟩
    obtain ⟨sA, sB, sC, rfl, qA, qB, qC⟩ := id hp
    have hsz := hx.1
    simp [qA.cells, qA.plain, qB.cells, qB.plain, qC.cells, qC.plain, hsz]
    generalize hN : Array.setIfInBounds (Array.push _ _) _ _ = G4
    obtain ⟨hx2, b2⟩ := new1 hN
    clear hN
    replace hp := LPV.mono hp hx2
    replace hx := hx.trans hx2
    replace ka := ka.mono monoPE hx2
    replace kt := kt.mono monoPR hx2
    replace kc := kc.mono monoPS hx2
    (try replace b0 := hx2.blk b0)
    (try replace b2 := hx2.blk b2)
    (try replace b3 := hx2.blk b3)
    (try replace kp := kp.mono hx2)
    (try replace kq := kq.mono hx2)
    obtain ⟨P1, hP1⟩ : ∃ P, P = G3.size := ⟨_, rfl⟩
    rw [← hP1] at b2 hsz ⊢
    simp [r_4_4, b0, h0]
    refine (r17_Problem_does (S := 6) (rows := rows) (n := n) ⟨s, rfl, kc⟩ ka hx.1 (by decide) hr hrl fa (by omega)).mono ?_
    rintro rq G5 ⟨hq, hx2⟩
    replace hp := LPV.mono hp hx2
    replace hx := hx.trans hx2
    replace ka := ka.mono monoPE hx2
    replace kt := kt.mono monoPR hx2
    replace kc := kc.mono monoPS hx2
    (try replace b0 := hx2.blk b0)
    (try replace b2 := hx2.blk b2)
    (try replace b3 := hx2.blk b3)
    (try replace kp := kp.mono hx2)
    (try replace kq := kq.mono hx2)
    rw [if_pos hok] at hq
    obtain ⟨q, rfl, hq⟩ := hq
    obtain ⟨tA, tB, tC, rfl, pA, pB, pC⟩ := id hq
    have hsz2 := hx.1
    simp [pA.cells, pA.plain, pB.cells, pB.plain, pC.cells, pC.plain, hsz2]
    generalize hN : Array.setIfInBounds (Array.push _ _) _ _ = G6
    obtain ⟨hx2, b3⟩ := new1 hN
    clear hN
    replace hp := LPV.mono hp hx2
    replace hq := LPV.mono hq hx2
    replace hx := hx.trans hx2
    replace ka := ka.mono monoPE hx2
    replace kt := kt.mono monoPR hx2
    replace kc := kc.mono monoPS hx2
    (try replace b0 := hx2.blk b0)
    (try replace b2 := hx2.blk b2)
    (try replace b3 := hx2.blk b3)
    (try replace kp := kp.mono hx2)
    (try replace kq := kq.mono hx2)
    obtain ⟨P2, hP2⟩ : ∃ P, P = G5.size := ⟨_, rfl⟩
    rw [← hP2] at b3 hsz2 ⊢
    refine W_draw ?_
    simp [r_4_5, b0, h0]
    refine (dom_Has_does (S := 6) (rows := rows) ⟨s, rfl, kc⟩ ka kt (by have := hx.1; omega) fr fx hS hrl fa).mono ?_
    rintro _ G7 ⟨rfl, hx2⟩
    replace hp := LPV.mono hp hx2
    replace hq := LPV.mono hq hx2
    replace hx := hx.trans hx2
    replace ka := ka.mono monoPE hx2
    replace kt := kt.mono monoPR hx2
    replace kc := kc.mono monoPS hx2
    (try replace b0 := hx2.blk b0)
    (try replace b2 := hx2.blk b2)
    (try replace b3 := hx2.blk b3)
    (try replace kp := kp.mono hx2)
    (try replace kq := kq.mono hx2)
    simp [b0, h0]
    refine (r17_Has_does (S := 6) (rows := rows) ⟨s, rfl, kc⟩ ka kt hx.1 fr fx hS hrl fa).mono ?_
    rintro _ G7 ⟨rfl, hx2⟩
    replace hp := LPV.mono hp hx2
    replace hq := LPV.mono hq hx2
    replace hx := hx.trans hx2
    replace ka := ka.mono monoPE hx2
    replace kt := kt.mono monoPR hx2
    replace kc := kc.mono monoPS hx2
    (try replace b0 := hx2.blk b0)
    (try replace b2 := hx2.blk b2)
    (try replace b3 := hx2.blk b3)
    (try replace kp := kp.mono hx2)
    (try replace kq := kq.mono hx2)
    simp [b2, b3]
    refine (SameLP_does hp hq hx.1 fA fAr fB fC).mono ?_
    rintro _ G7 ⟨rfl, hx2⟩
    replace hx := hx.trans hx2
    replace ka := ka.mono monoPE hx2
    replace kt := kt.mono monoPR hx2
    replace kc := kc.mono monoPS hx2
    (try replace b0 := hx2.blk b0)
    (try replace b2 := hx2.blk b2)
    (try replace b3 := hx2.blk b3)
    (try replace kp := kp.mono hx2)
    (try replace kq := kq.mono hx2)
    simp
    refine awake_does.mono ?_
    rintro _ G2 ⟨rfl, rfl⟩
    simp
  · rw [if_neg hok] at hp
    obtain ⟨p, rfl, hp⟩ := hp
    obtain ⟨sA, sB, sC, rfl, qA, qB, qC⟩ := id hp
    have hsz := hx.1
    simp [qA.cells, qA.plain, qB.cells, qB.plain, qC.cells, qC.plain, hsz]
    generalize hN : Array.setIfInBounds (Array.push _ _) _ _ = G4
    obtain ⟨hx2, b2⟩ := new1 hN
    clear hN
    replace hp := LPV.mono hp hx2
    replace hx := hx.trans hx2
    replace ka := ka.mono monoPE hx2
    replace kt := kt.mono monoPR hx2
    replace kc := kc.mono monoPS hx2
    (try replace b0 := hx2.blk b0)
    (try replace b2 := hx2.blk b2)
    (try replace b3 := hx2.blk b3)
    (try replace kp := kp.mono hx2)
    (try replace kq := kq.mono hx2)
    obtain ⟨P1, hP1⟩ : ∃ P, P = G3.size := ⟨_, rfl⟩
    rw [← hP1] at b2 hsz ⊢
    simp [r_4_4, b0, h0]
    refine (r17_Problem_does (S := 6) (rows := rows) (n := n) ⟨s, rfl, kc⟩ ka hx.1 (by decide) hr hrl fa (by omega)).mono ?_
    rintro rq G5 ⟨hq, hx2⟩
    replace hp := LPV.mono hp hx2
    replace hx := hx.trans hx2
    replace ka := ka.mono monoPE hx2
    replace kt := kt.mono monoPR hx2
    replace kc := kc.mono monoPS hx2
    (try replace b0 := hx2.blk b0)
    (try replace b2 := hx2.blk b2)
    (try replace b3 := hx2.blk b3)
    (try replace kp := kp.mono hx2)
    (try replace kq := kq.mono hx2)
    rw [if_neg hok] at hq
    obtain ⟨q, rfl, hq⟩ := hq
    obtain ⟨tA, tB, tC, rfl, pA, pB, pC⟩ := id hq
    have hsz2 := hx.1
    simp [pA.cells, pA.plain, pB.cells, pB.plain, pC.cells, pC.plain, hsz2]
    generalize hN : Array.setIfInBounds (Array.push _ _) _ _ = G6
    obtain ⟨hx2, b3⟩ := new1 hN
    clear hN
    replace hp := LPV.mono hp hx2
    replace hq := LPV.mono hq hx2
    replace hx := hx.trans hx2
    replace ka := ka.mono monoPE hx2
    replace kt := kt.mono monoPR hx2
    replace kc := kc.mono monoPS hx2
    (try replace b0 := hx2.blk b0)
    (try replace b2 := hx2.blk b2)
    (try replace b3 := hx2.blk b3)
    (try replace kp := kp.mono hx2)
    (try replace kq := kq.mono hx2)
    obtain ⟨P2, hP2⟩ : ∃ P, P = G5.size := ⟨_, rfl⟩
    rw [← hP2] at b3 hsz2 ⊢
    refine W_draw ?_
    simp [r_4_5, b0, h0]
    refine (dom_Has_does (S := 6) (rows := rows) ⟨s, rfl, kc⟩ ka kt (by have := hx.1; omega) fr fx hS hrl fa).mono ?_
    rintro _ G7 ⟨rfl, hx2⟩
    replace hp := LPV.mono hp hx2
    replace hq := LPV.mono hq hx2
    replace hx := hx.trans hx2
    replace ka := ka.mono monoPE hx2
    replace kt := kt.mono monoPR hx2
    replace kc := kc.mono monoPS hx2
    (try replace b0 := hx2.blk b0)
    (try replace b2 := hx2.blk b2)
    (try replace b3 := hx2.blk b3)
    (try replace kp := kp.mono hx2)
    (try replace kq := kq.mono hx2)
    simp [b0, h0]
    refine (r17_Has_does (S := 6) (rows := rows) ⟨s, rfl, kc⟩ ka kt hx.1 fr fx hS hrl fa).mono ?_
    rintro _ G7 ⟨rfl, hx2⟩
    replace hp := LPV.mono hp hx2
    replace hq := LPV.mono hq hx2
    replace hx := hx.trans hx2
    replace ka := ka.mono monoPE hx2
    replace kt := kt.mono monoPR hx2
    replace kc := kc.mono monoPS hx2
    (try replace b0 := hx2.blk b0)
    (try replace b2 := hx2.blk b2)
    (try replace b3 := hx2.blk b3)
    (try replace kp := kp.mono hx2)
    (try replace kq := kq.mono hx2)
    simp [b2, b3]
    refine (SameLP_does hp hq hx.1 (by simp) (by simp) ⟨by simp, by simp⟩ ⟨by simp, by simp⟩).mono ?_
    rintro _ G7 ⟨rfl, hx2⟩
    replace hx := hx.trans hx2
    replace ka := ka.mono monoPE hx2
    replace kt := kt.mono monoPR hx2
    replace kc := kc.mono monoPS hx2
    (try replace b0 := hx2.blk b0)
    (try replace b2 := hx2.blk b2)
    (try replace b3 := hx2.blk b3)
    (try replace kp := kp.mono hx2)
    (try replace kq := kq.mono hx2)
    simp
    refine awake_does.mono ?_
    rintro _ G2 ⟨rfl, rfl⟩
    simp

end Go.Proofs.YtjlohmnnldbjoaaGreat.AI
