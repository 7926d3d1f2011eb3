/- Part 7 of the proof: AiNum15, AiNum16, AiWd, AiNum17, AiCall, AiRat1, AiMath3, AiRat2, AiRat3, AiExt1. -/
import Derived.Test.YtjlohmnnldbjoaaGreatM05
set_option linter.unusedVariables false
set_option linter.unusedSimpArgs false
set_option linter.unusedSectionVars false

/- num.divide. -/
namespace Go.Proofs.YtjlohmnnldbjoaaGreat.AI
open Go
set_option maxHeartbeats 4000000
set_option maxRecDepth 20000

variable {fl : Nat} {H G : Heap} {R : PostP} {v w : Value} {a b : List Nat}

theorem own_elem {e p o n c : Nat} {cs : List Value} (hb : G.blk p = .row false e cs) : elemOk G e (.slice (some ⟨p, o, none⟩) n c) = true := by
  unfold elemOk; simp only [hb]; simp
theorem slice_own {p o n cap lo hi : Nat} {x y : Option Value} (hx : bnd 0 x = some lo) (hy : bnd n y = some hi) (h1 : lo ≤ hi) (h2 : hi ≤ n) :
    sliceA 1 (.slice (some ⟨p, o, none⟩) n cap) x y none = some (.slice (some ⟨p, o + lo, none⟩) (hi - lo) (if cap = unk then unk else cap - lo)) := by
  unfold sliceA; simp only [hx, hy]; rw [if_pos ⟨h1, h2⟩]; simp
theorem lim_own {p o n cap : Nat} {ro : Bool} {L : List Nat} (hb : G.blk p = .row ro T_uint32 (u32s L)) (hok : LimOk L) (hL : o + n ≤ L.length) : Lim G (.slice (some ⟨p, o, none⟩) n cap) ((L.drop o).take n) := by
  have hl : ((L.drop o).take n).length = n := by simp; omega
  refine ⟨⟨by simp [hl], .inr ⟨p, o, cap, ro, u32s L, by rw [hl], hb, by simp [hl]; omega, ?_⟩⟩, fun x hx => hok x (List.mem_of_mem_drop (List.mem_of_mem_take hx))⟩
  rw [hl, Nat.mul_one]; simp [u32s, List.map_take, List.map_drop]
theorem natL_dt {L : List Nat} {o : Nat} : ∀ {n : Nat}, o + n ≤ L.length → natL ((L.drop o).take n) = win L o n
  | 0, _ => by simp [natL, win]
  | n + 1, h => by
    rw [natL_take_succ (by simp; omega), natL_dt (by omega), win]
    simp [List.getD_eq_getElem?_getD]
theorem top_lt {b : List Nat} {k n : Nat} (hok : LimOk b) (hk : b.length = k + 1) (hn : n ≤ 31) (ht : b.getD k 0 * 2 ^ n < 4294967296) : natL b * 2 ^ n < 4294967296 ^ (k + 1) := by
  have h1 : natL b = win b 0 k + 4294967296 ^ k * b.getD k 0 := by
    rw [← win_all (L := b) (n := k + 1) (by omega), win, Nat.zero_add]
  have h2 := win_lt hok 0 k
  have h3 : (b.getD k 0 + 1) * 2 ^ n ≤ 4294967296 := by
    obtain ⟨m, hm⟩ : ∃ m, 4294967296 = m * 2 ^ n := ⟨2 ^ (32 - n), by rw [← Nat.pow_add, show 32 - n + n = 32 by omega]⟩
    rw [hm] at ht ⊢
    exact Nat.mul_le_mul_right _ (Nat.lt_of_mul_lt_mul_right ht)
  have h4 : natL b < 4294967296 ^ k * (b.getD k 0 + 1) := by rw [h1, Nat.mul_add, Nat.mul_one]; omega
  have hp : 0 < 2 ^ n := Nat.two_pow_pos n
  calc natL b * 2 ^ n < 4294967296 ^ k * (b.getD k 0 + 1) * 2 ^ n := Nat.mul_lt_mul_of_pos_right h4 hp
    _ = 4294967296 ^ k * ((b.getD k 0 + 1) * 2 ^ n) := Nat.mul_assoc ..
    _ ≤ 4294967296 ^ k * 4294967296 := Nat.mul_le_mul_left _ h3
    _ = 4294967296 ^ (k + 1) := (Nat.pow_succ ..).symm
theorem take_top {o : List Nat} {k : Nat} (ho : o.length = k + 1) (h : natL o < 4294967296 ^ k) : natL (o.take k) = natL o := by
  have h1 : natL o = natL (o.take k) + 4294967296 ^ k * o.getD k 0 := by
    rw [← natL_take_succ (by omega), List.take_of_length_le (by omega)]
  have : o.getD k 0 = 0 := by
    by_cases h0 : o.getD k 0 = 0
    · exact h0
    · have := Nat.le_mul_of_pos_right (4294967296 ^ k) (by omega : 0 < o.getD k 0); omega
  rw [this] at h1; omega
theorem top_ge {b : List Nat} {k n : Nat} (hk : b.length = k + 1) (ht : 2147483648 ≤ b.getD k 0 * 2 ^ n) : 2147483648 * 4294967296 ^ k ≤ natL b * 2 ^ n := by
  have h1 : natL b = win b 0 k + 4294967296 ^ k * b.getD k 0 := by
    rw [← win_all (L := b) (n := k + 1) (by omega), win, Nat.zero_add]
  rw [h1, Nat.add_mul, Nat.mul_assoc, Nat.mul_comm 2147483648]
  have := Nat.mul_le_mul_left (4294967296 ^ k) ht
  omega
theorem first_lt {x y la k n B : Nat} (h1 : x < B ^ la) (hn : 2 ^ n ≤ 2147483648) (h2 : 2147483648 * B ^ k ≤ y) : x * 2 ^ n < y * B ^ (la - k) ∨ la < k := by
  by_cases hk : k ≤ la
  · left
    have hp : 0 < 2 ^ n := Nat.two_pow_pos n
    calc x * 2 ^ n < B ^ la * 2 ^ n := Nat.mul_lt_mul_of_pos_right h1 hp
      _ ≤ B ^ la * 2147483648 := Nat.mul_le_mul_left _ hn
      _ = 2147483648 * B ^ k * B ^ (la - k) := by rw [Nat.mul_assoc, ← Nat.pow_add, show k + (la - k) = la by omega, Nat.mul_comm]
      _ ≤ y * B ^ (la - k) := Nat.mul_le_mul_right _ h2
  · right; omega

theorem Won.trans {L X Y : List Nat} {o n : Nat} (h : Won L X o n) (k : Won X Y o n) : Won L Y o n := ⟨k.1.trans h.1, k.2.1, fun j hj => (k.2.2 j hj).trans (h.2.2 j hj)⟩

theorem shl32 {tag r : Nat} (h : r < 4294967296) : binA tag .shl (.int .u64 (r : Int)) (.int .u64 32) = some (.int .u64 ((r * 4294967296 : Nat) : Int)) := by
  have h1 := shl64 (tag := tag) (n := r) (s := 32) (k' := .u64) (by omega)
  have h2 : r * 2 ^ 32 % 18446744073709551616 = r * 4294967296 := by omega
  rw [h2] at h1; exact h1
theorem or32 {tag x y : Nat} (hx : x < 4294967296) (hy : y < 4294967296) : binA tag .or (.int .u64 ((x * 4294967296 : Nat) : Int)) (.int .u64 (y : Int)) = some (.int .u64 ((x * 4294967296 + y : Nat) : Int)) := by
  rw [or64 (by omega) (by omega), or_add32 hy]

theorem repl_u32 : ∀ N : Nat, repl [.int .u32 0] N = u32s (List.replicate N 0)
  | 0 => rfl
  | n + 1 => by rw [repl, repl_u32 n]; rfl

theorem num_divide_does (ha : Lim H v a) (hb : Lim H w b) (hf : fl ≤ H.size) (hna : a.length < 1073741823) (h2 : 2 ≤ b.length) (hle : b.length ≤ a.length) (hb0 : b.getD (b.length - 1) 0 ≠ 0) :
    Does env fl f_173 [v, w] H (fun r H' => (∃ q o q' o', r = .tuple #[q, q'] ∧ Lim H' q o ∧ natL o = natL a / natL b ∧ o.length ≤ a.length ∧ Lim H' q' o' ∧ natL o' = natL a % natL b ∧ o'.length ≤ a.length) ∧ Ext H H') R := by
  refine does_ext e_173 hf (h := ?_)
  intro ρ h0
  simp only [s_173]
  obtain ⟨k, hk⟩ : ∃ k, b.length = k + 1 := ⟨b.length - 1, by omega⟩
  have hk1 : 1 ≤ k := by omega
  rw [show b.length - 1 = k by omega] at hb0
  have htl := getD_lt hb.ok k
  have hial := hb.ia (k := .i64) (show k < b.length by omega)
  have hldl := hb.load (show k < b.length by omega) (Ext.refl H)
  have htlt := @top_lt b k
  have htge := @top_ge b k
  generalize htp : b.getD k 0 = tp at *
  have e0 : IntKind.i64.wrap ((b.length : Int) - 1) = ((k : Nat) : Int) := by rw [wrap64 (by omega) (by omega)]; omega
  simp [r_173_0, r_173_1, h0]
  refine W_loopM (fun c t G => ∃ n : Nat, G = H ∧ n + c = 31 ∧ t.length = 147 ∧ get t 0 = v ∧ get t 1 = w ∧ get t 6 = .int .i64 ((n : Nat) : Int) ∧ tp * 2 ^ n < 4294967296)
    (fun t G => ∃ n : Nat, G = H ∧ n ≤ 31 ∧ t.length = 147 ∧ get t 0 = v ∧ get t 1 = w ∧ get t 6 = .int .i64 ((n : Nat) : Int) ∧ tp * 2 ^ n < 4294967296 ∧ 2147483648 ≤ tp * 2 ^ n) 31 ?_ ?_ ?_
  · exact ⟨0, rfl, by omega, by simp, by simp [h0], by simp [h0], by simp, by omega⟩
  · clear h0 ρ
    rintro c t G ⟨n, rfl, hn, ht, g0, g1, g6, hy⟩
    obtain ⟨ρ, rfl⟩ := toT ht
    simp only [get_T, Nat.reduceLT] at g0 g1 g6
    have hy2 : tp * 2 ^ (n + 1) = 2 * (tp * 2 ^ n) := by rw [Nat.pow_succ, ← Nat.mul_assoc]; omega
    have hy3 : 2 ^ n ≤ tp * 2 ^ n := Nat.le_mul_of_pos_left _ (by omega)
    have hy4 : n = 31 → 2147483648 ≤ tp * 2 ^ n := by rintro rfl; exact hy3
    have s1 := shl_u32 (tag := 0) (n := tp) (s := n) (k' := .i64) (by omega)
    rw [Nat.mod_eq_of_lt hy] at s1
    generalize hyd : tp * 2 ^ n = y at *
    have s2 : binA 0 .shr (.int .u32 (y : Int)) (.int .u64 31) = some (.int .u32 ((y / 2147483648 : Nat) : Int)) := shr_u32 (tag := 0) (n := y) (s := 31) (k' := .u64) (by omega)
    have e9 : IntKind.i64.wrap ((n : Int) + 1) = ((n + 1 : Nat) : Int) := by rw [wrap64 (by omega) (by omega)]; omega
    by_cases hd : y / 2147483648 = 0
    · have hdb : ((y / 2147483648 : Nat) == 0) = true := by simp [hd]
      simp [-Int.natCast_ediv, -Int.natCast_add, -beq_iff_eq, r_173_2, r_173_3, g0, g1, g6, hb.slen, e0, hial, hldl, s1, s2, hdb, e9]
      exact ⟨c - 1, by omega, n + 1, by omega, rfl, by rw [hy2]; omega⟩
    · have hdb : ((y / 2147483648 : Nat) == 0) = false := by simp [hd]
      simp [-Int.natCast_ediv, -Int.natCast_add, -beq_iff_eq, r_173_2, r_173_3, g0, g1, g6, hb.slen, e0, hial, hldl, s1, s2, hdb, e9]
      exact ⟨n, by omega, rfl, by rw [hyd]; exact hy, by rw [hyd]; omega⟩
  · clear h0 ρ
    rintro t G ⟨n, rfl, hn, ht, g0, g1, g6, hy, hy2⟩
    obtain ⟨ρ, rfl⟩ := toT ht
    simp only [get_T, Nat.reduceLT] at g0 g1 g6
    refine W_draw ?_
    simp [r_173_4, g0, g1, g6]
    refine (num_shifted_does ha (Nat.le_refl _) (by omega) (by omega)).mono ?_
    rintro u G1 ⟨⟨L0, hu, hok0, hv0, hl0⟩, hx1⟩
    try simp [g0, g1, g6]
    refine (num_shifted_does (hb.mono hx1) hx1.1 (by omega) (by omega)).mono ?_
    rintro u2 G2 ⟨⟨L1, hu1, hok1, hv1, hl1⟩, hx2⟩
    have hx := hx1.trans hx2
    have hxs := hx.1
    have hx1s := hx1.1
    obtain ⟨hul, ⟨_, hbad⟩ | ⟨P, capu, rfl, hP, hfP⟩⟩ := hu.mono hx2
    · omega
    obtain ⟨hul1, ⟨_, hbad⟩ | ⟨Q, capv, rfl, hQ, hfQ⟩⟩ := hu1
    · omega
    have hPl : P < G1.size := by
      obtain ⟨_, ⟨hbad, _⟩ | ⟨P', cap', he, hP', _⟩⟩ := hu
      · cases hbad
      · simp at he; rw [he.1]; exact blk_lt hP'
    have hQl := blk_lt hQ
    -- the divisor
    have hVlt := htlt hb.ok hk hn hy
    have hVge := htge hk hy2
    have hVt := take_top (o := L1) (k := b.length) hl1 (by rw [hv1, hk]; exact hVlt)
    have hlt0 := first_lt (x := natL a) (y := natL b * 2 ^ n) (la := a.length) (k := k) (n := n) (B := 4294967296) (natL_lt a ha.ok) (Nat.pow_le_pow_right (n := 2) (by omega) hn) hVge
    have hlt0 : natL a * 2 ^ n < natL b * 2 ^ n * 4294967296 ^ (a.length - k) := by rcases hlt0 with h | h; exact h; omega
    have hpn : 0 < 2 ^ n := Nat.two_pow_pos n
    have hqv : natL a / natL b = natL a * 2 ^ n / (natL b * 2 ^ n) := (Nat.mul_div_mul_right _ _ hpn).symm
    have hrv : natL a % natL b = natL a * 2 ^ n % (natL b * 2 ^ n) / 2 ^ n := by rw [Nat.mul_mod_mul_right, Nat.mul_div_cancel _ hpn]
    rw [hv1] at hVt
    rw [hqv, hrv]
    generalize natL b * 2 ^ n = V at *
    generalize natL a * 2 ^ n = U0 at *
    clear hqv hrv htlt htge hial hldl e0 htp hb0 htl hy hy2 hul hul1 hpn hu hx1 hx2
    obtain ⟨j, hj⟩ : ∃ j, k = j + 1 := ⟨k - 1, by omega⟩
    generalize hK : b.length = K at *
    have hLv : ((L1.drop 0).take K) = L1.take K := by rw [List.drop_zero]
    have hsl := hb.slen
    rw [hK] at hsl
    have hslv := slice_own (p := Q) (o := 0) (cap := capv) (n := K + 1) (x := none) (y := some (.int .i64 (K : Int))) (lo := 0) (hi := K) rfl (by simp) (by omega) (by omega)
    rw [Nat.add_zero, Nat.sub_zero, Nat.sub_zero] at hslv
    generalize (if capv = unk then unk else capv) = capw at hslv
    have hw1 : IntKind.i64.wrap (((a.length + 1 : Nat) : Int) - (K : Int)) = ((a.length - k : Nat) : Int) := by rw [wrap64 (by omega) (by omega)]; omega
    have hmn : mnxA true (.int .i64 ((a.length - k : Nat) : Int)) [.int .i64 0] = some (.int .i64 ((a.length - k : Nat) : Int)) := by
      simp only [mnxA, mn2]; rw [if_pos trivial, if_neg (by omega)]
    have hm := mkV_int (bytes := 4) (k := .i64) (k' := .i64) (l := a.length - k) (c := a.length - k) (Nat.le_refl _) (by omega) (by omega)
    generalize hN : a.length - k = N at *
    simp [-Int.natCast_add, hsl, own_elem hQ, hslv]
    simp [-Int.natCast_add, r_173_5, r_173_6, slenV, hw1, hmn, hm]
    generalize hPQ : G2.size = PQ
    generalize hG3 : G2.push (.row false T_uint32 (repl [.int .u32 0] N)) = G3
    have hx3 : Ext G2 G3 := by rw [← hG3]; exact (Ext.refl _).push
    have hP3 := hx3.blk hP
    have hQ3 := hx3.blk hQ
    have hPQ3 : Heap.blk G3 PQ = .row false T_uint32 (u32s (List.replicate N 0)) := by rw [← hG3, ← hPQ, blk_push_self, repl_u32]
    replace hx := hx.trans hx3
    have hv3 : Lim G3 (.slice (some ⟨Q, 0, none⟩) K capw) (L1.take K) := by rw [← hLv]; exact lim_own hQ3 hok1 (by omega)
    have hLl : (L1.take K).length = K := by simp; omega
    have hok2 := hv3.ok
    generalize L1.take K = Vl at *
    clear hG3 hx3 hP hQ hQ3 hok1 hslv hLv hv1 hl1 hm hmn hw1 L1
    generalize hSU : Value.slice (some ⟨P, 0, none⟩) (a.length + 1) capu = SU
    generalize hSV : Value.slice (some ⟨Q, 0, none⟩) K capw = SV at *
    generalize hSQ : Value.slice (some ⟨PQ, 0, none⟩) N N = SQ
    -- its highest limbs
    have hia1 := hv3.ia (k := .i64) (show k < Vl.length by omega)
    have hia2 := hv3.ia (k := .i64) (show j < Vl.length by omega)
    have hld1 := hv3.load (show k < Vl.length by omega) (Ext.refl _)
    have hld2 := hv3.load (show j < Vl.length by omega) (Ext.refl _)
    have hV1 : V = win Vl 0 k + 4294967296 ^ k * Vl.getD k 0 := by rw [← hVt, ← win_all (L := Vl) (n := k + 1) (by omega), win, Nat.zero_add]
    have hV2 : V = win Vl 0 j + 4294967296 ^ j * (Vl.getD k 0 * 4294967296 + Vl.getD j 0) := by
      rw [← hVt, ← win_all (L := Vl) (n := k + 1) (by omega), win_top2 (by omega), show k + 1 - 1 = k by omega, show k + 1 - 2 = j by omega, Nat.zero_add, Nat.zero_add]
    have hTt := getD_lt hok2 k
    have hTn := getD_lt hok2 j
    have hTg : 2147483648 ≤ Vl.getD k 0 := by
      by_cases h : 2147483648 ≤ Vl.getD k 0
      · exact h
      · exfalso
        have h3 := win_lt hok2 0 k
        have : 4294967296 ^ k * (Vl.getD k 0 + 1) ≤ 4294967296 ^ k * 2147483648 := Nat.mul_le_mul_left _ (by omega)
        rw [Nat.mul_add, Nat.mul_one] at this
        rw [Nat.mul_comm] at hVge
        omega
    clear hV1
    generalize Vl.getD k 0 = top at *
    generalize Vl.getD j 0 = next at *
    have et : IntKind.u64.wrap (top : Int) = (top : Int) := by rw [wrapu64]; omega
    have en : IntKind.u64.wrap (next : Int) = (next : Int) := by rw [wrapu64]; omega
    have ew1 : IntKind.i64.wrap ((K : Int) - 1) = (k : Int) := by rw [wrap64 (by omega) (by omega)]; omega
    have ew2 : IntKind.i64.wrap ((K : Int) - 2) = (j : Int) := by rw [wrap64 (by omega) (by omega)]; omega
    have ew3 : IntKind.i64.wrap (((a.length + 1 : Nat) : Int) - (K : Int)) = (N : Int) := by rw [wrap64 (by omega) (by omega)]; omega
    have ew4 : IntKind.i64.wrap ((N : Int) - 1) = (N : Int) - 1 := wrap64 (by omega) (by omega)
    have hslu : slenV SU = some (.int .i64 ((a.length + 1 : Nat) : Int)) := by rw [← hSU]; rfl
    have hslPQ : slB SV ≠ some PQ := by rw [← hSV]; simp [slB]; omega
    have hslP : slB SV ≠ some P := by rw [← hSV]; simp [slB]; omega
    refine W_draw ?_
    simp [-Int.natCast_add, r_173_7, r_173_8, hv3.slen, ew1, ew2, hia1, hia2, hld1, hld2, et, en, hLl, hslu, ew3, ew4, g6]
    clear hia1 hia2 hld1 hld2 et en ew1 ew2 ew3 ew4 hslu hsl
    refine W_loopM (fun c t G' => ∃ L Qs, t.length = 147 ∧ get t 4 = SQ ∧ get t 6 = .int .i64 (n : Int) ∧ get t 7 = SU ∧ get t 8 = SV ∧ get t 9 = .int .i64 (K : Int) ∧ get t 10 = .int .u64 (top : Int) ∧ get t 11 = .int .u64 (next : Int) ∧ get t 12 = .int .i64 ((c : Int) - 1) ∧
        Ext G G' ∧ Lim G' SV Vl ∧ Heap.blk G' P = .row false T_uint32 (u32s L) ∧ Heap.blk G' PQ = .row false T_uint32 (u32s Qs) ∧ L.length = a.length + 1 ∧ LimOk L ∧ Qs.length = N ∧ LimOk Qs ∧ c ≤ N ∧ U0 = natL (Qs.drop c) * 4294967296 ^ c * V + natL L ∧ natL L < V * 4294967296 ^ c)
      (fun t G' => ∃ L Qs, t.length = 147 ∧ get t 4 = SQ ∧ get t 6 = .int .i64 (n : Int) ∧ get t 7 = SU ∧ get t 9 = .int .i64 (K : Int) ∧
        Ext G G' ∧ Heap.blk G' P = .row false T_uint32 (u32s L) ∧ Heap.blk G' PQ = .row false T_uint32 (u32s Qs) ∧ L.length = a.length + 1 ∧ LimOk L ∧ Qs.length = N ∧ LimOk Qs ∧ U0 = natL Qs * V + natL L ∧ natL L < V) N ?_ ?_ ?_
    · refine ⟨L0, List.replicate N 0, by simp, by simp [hSQ], by simp [g6], by simp [hSU], by simp, by simp, by simp, by simp, by simp, hx, hv3, hP3, hPQ3, hl0, hok0, by simp, fun z hz => by rw [List.mem_replicate] at hz; omega, Nat.le_refl _, ?_, by rw [hv0]; exact hlt0⟩
      rw [List.drop_eq_nil_of_le (by simp), hv0]; simp [natL]
    · clear hP3 hPQ3 hv0 hl0 hok0 L0 g0 g1 g6 ht ρ hx hv3 G3
      rintro c t G3 ⟨L, Qs, ht, g4, g6, g7, g8, g9, g10, g11, g12, hx, hv3, hP, hPQb, hLlen, hLok, hQlen, hQok, hcN, hU, hlt⟩
      obtain ⟨ρ, rfl⟩ := toT ht
      simp only [get_T, Nat.reduceLT] at g4 g6 g7 g8 g9 g10 g11 g12
      by_cases hc0 : c = 0
      · subst hc0
        simp [-Int.natCast_add, r_173_9, g4, g6, g7, g8, g9, g10, g11, g12]
        exact ⟨hx, L, hP, Qs, hPQb, hLlen, hLok, hQlen, hQok, by simpa using hU, by simpa using hlt⟩
      · obtain ⟨i, rfl⟩ : ∃ i, c = i + 1 := ⟨c - 1, by omega⟩
        have ec : (((i + 1 : Nat) : Int) - 1) = (i : Int) := by omega
        rw [ec] at g12
        -- places
        obtain ⟨iK, hiK⟩ : ∃ iK, iK = i + K := ⟨_, rfl⟩
        have ew1 : IntKind.i64.wrap ((i : Int) + (K : Int)) = (iK : Int) := by rw [wrap64 (by omega) (by omega)]; omega
        have ew2 : IntKind.i64.wrap ((iK : Int) - 1) = ((i + k : Nat) : Int) := by rw [wrap64 (by omega) (by omega)]; omega
        have ew3 : IntKind.i64.wrap ((iK : Int) - 2) = ((i + j : Nat) : Int) := by rw [wrap64 (by omega) (by omega)]; omega
        have ew4 : IntKind.i64.wrap ((iK : Int) + 1) = ((iK + 1 : Nat) : Int) := by rw [wrap64 (by omega) (by omega)]; omega
        have ew5 : IntKind.i64.wrap ((i : Int) - 1) = (i : Int) - 1 := wrap64 (by omega) (by omega)
        obtain ⟨hi1, hr1⟩ := own_at (k := .i64) (cap := capu) (o := 0) (n := a.length + 1) hP (by omega) (show iK < a.length + 1 by omega)
        obtain ⟨hi2, hr2⟩ := own_at (k := .i64) (cap := capu) (o := 0) (n := a.length + 1) hP (by omega) (show i + k < a.length + 1 by omega)
        obtain ⟨hi3, hr3⟩ := own_at (k := .i64) (cap := capu) (o := 0) (n := a.length + 1) hP (by omega) (show i + j < a.length + 1 by omega)
        rw [hSU, Nat.zero_add] at hi1 hi2 hi3
        rw [Nat.zero_add] at hr1 hr2 hr3
        have hA1 := getD_lt hLok iK
        have hA2 := getD_lt hLok (i + k)
        have hA3 := getD_lt hLok (i + j)
        -- the window
        have hwin := win_top (L := L) (o := i) (k := K) (by omega)
        rw [show K - 2 = j by omega, show K - 1 = k by omega, ← hiK] at hwin
        have hUw : win L i (K + 1) < V * 4294967296 := by
          have h1 := natL_win (L := L) (Nat.le_refl _)
          rw [List.take_length, hLlen, show a.length + 1 = i + ((K + 1) + (a.length - i - K)) by omega, win_split, win_split, Nat.zero_add] at h1
          have h2 : 4294967296 ^ i * win L i (K + 1) < 4294967296 ^ i * (V * 4294967296) := by
            rw [Nat.pow_succ, ← Nat.mul_assoc, Nat.mul_right_comm] at hlt
            rw [Nat.mul_add] at h1
            have : V * 4294967296 * 4294967296 ^ i = 4294967296 ^ i * (V * 4294967296) := Nat.mul_comm _ _
            omega
          exact Nat.lt_of_mul_lt_mul_left h2
        generalize L.getD iK 0 = A1 at hA1 hr1 hwin
        generalize L.getD (i + k) 0 = A2 at hA2 hr2 hwin
        generalize L.getD (i + j) 0 = A3 at hA3 hr3 hwin
        obtain ⟨x, hX⟩ : ∃ x, x = A1 * 4294967296 + A2 := ⟨_, rfl⟩
        rw [← hX] at hwin
        have gs : Gs (4294967296 ^ j) (win L i j) (win Vl 0 j) (win L i (K + 1)) V x A3 top next 4294967296 :=
          ⟨Nat.pow_pos (by omega), win_lt hLok i j, win_lt hok2 0 j, hwin, hV2, by omega, hTt, hTn, hA3, hUw⟩
        clear hwin
        have eA1 : IntKind.u64.wrap (A1 : Int) = (A1 : Int) := by rw [wrapu64]; omega
        have eA2 : IntKind.u64.wrap (A2 : Int) = (A2 : Int) := by rw [wrapu64]; omega
        have eA3 : IntKind.u64.wrap (A3 : Int) = (A3 : Int) := by rw [wrapu64]; omega
        have s1 := shl32 (tag := 0) hA1
        have s2 := or32 (tag := 0) hA1 hA2
        have hxl : x < 18446744073709551616 := by omega
        have hqle := gs.q_le
        have hxlt := gs.x_lt
        rw [← hX] at s2
        have s3 := quo64 (tag := 0) (a := x) (b := top) hxl (by omega)
        have s4 := rem64 (tag := 0) (a := x) (b := top) (by omega)
        have hgr : x / top * top + x % top = x := Nat.div_add_mod' x top
        have hrt := Nat.mod_lt x (show 0 < top by omega)
        have hgB : x / top ≤ 4294967297 := by
          have : x / top < 4294967298 := by rw [Nat.div_lt_iff_lt_mul (by omega)]; omega
          omega
        have hic : (i : Int) ≥ 0 := by omega
        simp [-Int.natCast_add, -Int.natCast_mul, -Int.natCast_ediv, -Int.natCast_emod, r_173_9, g4, g6, g7, g8, g9, g10, g11, g12, hic]
        refine W_draw ?_
        simp [-Int.natCast_add, -Int.natCast_mul, -Int.natCast_ediv, -Int.natCast_emod, r_173_10, g4, g6, g7, g8, g9, g10, g11, g12, ew1, ew2, hi1, hi2, hr1, hr2, eA1, eA2, s1, s2]
        refine W_draw ?_
        simp [-Int.natCast_add, -Int.natCast_mul, -Int.natCast_ediv, -Int.natCast_emod, r_173_11, g4, g6, g7, g8, g9, g10, g11, g12, s3, s4]
        clear s1 s2 s3 s4
        generalize x / top = gq at hgr hgB hqle ⊢
        generalize x % top = rr at hgr hrt ⊢
        have hslice : ∃ cap', sliceA 1 SU (some (.int .i64 (i : Int))) (some (.int .i64 ((iK + 1 : Nat) : Int))) none = some (.slice (some ⟨P, i, none⟩) (K + 1) cap') := by
          rw [← hSU, slice_own (lo := i) (hi := iK + 1) (by simp) (bnd_int (n := iK + 1)) (by omega) (by omega), Nat.zero_add, show iK + 1 - i = K + 1 by omega]
          exact ⟨_, rfl⟩
        obtain ⟨capt, hslice⟩ := hslice
        have helem : ∀ (G' : Heap) (cs : List Value), Heap.blk G' P = .row false T_uint32 cs → elemOk G' T_uint32 SU = true := fun G' cs h => by rw [← hSU]; exact own_elem h
        refine W_loopM (fun c t G' => ∃ g rest : Nat, c = g ∧ G' = G3 ∧ t.length = 147 ∧ get t 4 = SQ ∧ get t 6 = .int .i64 (n : Int) ∧ get t 7 = SU ∧ get t 8 = SV ∧ get t 9 = .int .i64 (K : Int) ∧ get t 10 = .int .u64 (top : Int) ∧ get t 11 = .int .u64 (next : Int) ∧ get t 12 = .int .i64 (i : Int) ∧ get t 14 = .int .u64 (g : Int) ∧ get t 15 = .int .u64 (rest : Int) ∧
            g * top + rest = x ∧ win L i (K + 1) / V ≤ g ∧ g ≤ 4294967297 ∧ rest < 4294967296)
          (fun t G' => ∃ g rest : Nat, G' = G3 ∧ t.length = 147 ∧ get t 4 = SQ ∧ get t 6 = .int .i64 (n : Int) ∧ get t 7 = SU ∧ get t 8 = SV ∧ get t 9 = .int .i64 (K : Int) ∧ get t 10 = .int .u64 (top : Int) ∧ get t 11 = .int .u64 (next : Int) ∧ get t 12 = .int .i64 (i : Int) ∧ get t 14 = .int .u64 (g : Int) ∧
            g * top + rest = x ∧ win L i (K + 1) / V ≤ g ∧ g < 4294967296 ∧ g * next ≤ rest * 4294967296 + A3) gq ?_ ?_ ?_
        · exact ⟨gq, rr, rfl, rfl, by simp, by simp [g4], by simp [g6], by simp [g7], by simp [g8], by simp [g9], by simp [g10], by simp [g11], by simp [g12], by simp, by simp, hgr, hqle, hgB, by omega⟩
        · clear g4 g6 g7 g8 g9 g10 g11 g12 ht ρ
          rintro c t G' ⟨g, rest, rfl, rfl, ht, g4, g6, g7, g8, g9, g10, g11, g12, g14, g15, hgx, hq, hgl, hrl⟩
          obtain ⟨ρ, rfl⟩ := toT ht
          simp only [get_T, Nat.reduceLT] at g4 g6 g7 g8 g9 g10 g11 g12 g14 g15
          obtain ⟨rt, hrt2⟩ : ∃ rt, rt = rest + top := ⟨_, rfl⟩
          have er : IntKind.u64.wrap ((rest : Int) + (top : Int)) = (rt : Int) := by rw [wrapu64]; omega
          by_cases hcB : 4294967296 ≤ c
          · have hcB2 : (4294967296 : Int) ≤ (c : Int) := by omega
            have hcase : 4294967296 ≤ c ∨ rest * 4294967296 + A3 < c * next := .inl hcB
            have hcs : (c : Int) ≥ 4294967296 := hcB2
            simp (config := {maxSteps := 4000000}) [-Int.natCast_add, -Int.natCast_mul, r_173_12, g4, g6, g7, g8, g9, g10, g11, g12, g14, g15, hcB, hcB2]
            obtain ⟨hq', hg0⟩ := gs.down hgx hq hcase
            obtain ⟨g', rfl⟩ : ∃ g', c = g' + 1 := ⟨c - 1, by omega⟩
            rw [Nat.add_sub_cancel] at hq'
            have eg : IntKind.u64.wrap (((g' + 1 : Nat) : Int) - 1) = (g' : Int) := by rw [wrapu64]; omega
            have hgx' : g' * top + rt = x := by rw [← hgx, hrt2, Nat.add_mul, Nat.one_mul]; omega
            by_cases hbr : 4294967296 ≤ rt
            · have hbr2 : (4294967296 : Int) ≤ (rt : Int) := by omega
              simp [-Int.natCast_add, -Int.natCast_mul, hcs, r_173_13, r_173_14, r_173_15, g4, g6, g7, g8, g9, g10, g11, g12, g14, g15, eg, er, hbr, hbr2]
              have hgl' : g' < 4294967296 := by
                by_cases h : g' = 4294967296
                · subst h; rw [Nat.mul_comm] at hgx'; omega
                · omega
              refine ⟨g', rfl, rt, hgx', hq', hgl', ?_⟩
              have h1 : g' * next ≤ 4294967295 * 4294967295 := Nat.mul_le_mul (by omega) (by omega)
              omega
            · have hbr2 : ¬ (4294967296 : Int) ≤ (rt : Int) := by omega
              simp [-Int.natCast_add, -Int.natCast_mul, hcs, r_173_13, r_173_14, r_173_15, g4, g6, g7, g8, g9, g10, g11, g12, g14, g15, eg, er, hbr, hbr2]
              exact ⟨g', by omega, rfl, rt, rfl, hgx', hq', by omega, by omega⟩
          · have hcB2 : ¬ (4294967296 : Int) ≤ (c : Int) := by omega
            have hcn : c * next ≤ 4294967295 * 4294967295 := Nat.mul_le_mul (by omega) (by omega)
            obtain ⟨cn, hcn2⟩ : ∃ cn, cn = c * next := ⟨_, rfl⟩
            have em : IntKind.u64.wrap ((c : Int) * (next : Int)) = (cn : Int) := by rw [wrapu64, ← Int.natCast_mul, ← hcn2]; omega
            have s1 := shl32 (tag := 0) hrl
            have s2 := or32 (tag := 0) hrl hA3
            obtain ⟨rA, hrA⟩ : ∃ rA, rA = rest * 4294967296 + A3 := ⟨_, rfl⟩
            rw [← hrA] at s2
            by_cases hgt : rA < cn
            · have hcase : 4294967296 ≤ c ∨ rest * 4294967296 + A3 < c * next := .inr (by rw [← hrA, ← hcn2]; exact hgt)
              have hcs : rA < cn := hgt
              simp (config := {maxSteps := 4000000}) [-Int.natCast_add, -Int.natCast_mul, r_173_12, g4, g6, g7, g8, g9, g10, g11, g12, g14, g15, hcB, hcB2, ew1, ew3, hi3, hr3, eA3, em, s1, s2, hgt]
              obtain ⟨hq', hg0⟩ := gs.down hgx hq hcase
              obtain ⟨g', rfl⟩ : ∃ g', c = g' + 1 := ⟨c - 1, by omega⟩
              rw [Nat.add_sub_cancel] at hq'
              have eg : IntKind.u64.wrap (((g' + 1 : Nat) : Int) - 1) = (g' : Int) := by rw [wrapu64]; omega
              have hgx' : g' * top + rt = x := by rw [← hgx, hrt2, Nat.add_mul, Nat.one_mul]; omega
              by_cases hbr : 4294967296 ≤ rt
              · have hbr2 : (4294967296 : Int) ≤ (rt : Int) := by omega
                simp [-Int.natCast_add, -Int.natCast_mul, hcs, r_173_13, r_173_14, r_173_15, g4, g6, g7, g8, g9, g10, g11, g12, g14, g15, eg, er, hbr, hbr2]
                have hgl' : g' < 4294967296 := by
                  by_cases h : g' = 4294967296
                  · subst h; rw [Nat.mul_comm] at hgx'; omega
                  · omega
                refine ⟨g', rfl, rt, hgx', hq', hgl', ?_⟩
                have h1 : g' * next ≤ 4294967295 * 4294967295 := Nat.mul_le_mul (by omega) (by omega)
                omega
              · have hbr2 : ¬ (4294967296 : Int) ≤ (rt : Int) := by omega
                simp [-Int.natCast_add, -Int.natCast_mul, hcs, r_173_13, r_173_14, r_173_15, g4, g6, g7, g8, g9, g10, g11, g12, g14, g15, eg, er, hbr, hbr2]
                exact ⟨g', by omega, rfl, rt, rfl, hgx', hq', by omega, by omega⟩
            · simp (config := {maxSteps := 4000000}) [-Int.natCast_add, -Int.natCast_mul, r_173_12, g4, g6, g7, g8, g9, g10, g11, g12, g14, g15, hcB, hcB2, ew1, ew3, hi3, hr3, eA3, em, s1, s2, hgt]
              exact ⟨c, rfl, rest, hgx, hq, by omega, by rw [← hrA, ← hcn2]; omega⟩
        · clear g4 g6 g7 g8 g9 g10 g11 g12 ht ρ hgr hgB hqle hrt
          rintro t G' ⟨gg, rest, rfl, ht, g4, g6, g7, g8, g9, g10, g11, g12, g14, hgx, hq, hgl, hgn⟩
          obtain ⟨ρ, rfl⟩ := toT ht
          simp only [get_T, Nat.reduceLT] at g4 g6 g7 g8 g9 g10 g11 g12 g14
          have hq1 := gs.fine hgx hgl hgn
          have hVK : V < 4294967296 ^ (K + 1) := by
            rw [hk, Nat.pow_succ]; omega
          simp [-Int.natCast_add, r_173_16, g4, g6, g7, g8, g9, g10, g11, g12, g14, ew1, ew4, helem _ _ hP, hslice]
          refine (num_take_does (n := K + 1) hP hLok (by omega) hv3 hslP hfP hgl (by omega) (by omega)).mono ?_
          rintro _ G4 ⟨X0, cc, rfl, hXb0, hxb, hwon0, hs⟩
          rw [hVt] at hs
          obtain ⟨hc1, hc2⟩ := take_fine gs hq hq1 hs (win_lt hwon0.2.1 i (K + 1)) hVK
          have hx4 := hxb.ext hfP hx
          have hv4 := hv3.off hxb hslP
          have hPQ4 : Heap.blk G4 PQ = .row false T_uint32 (u32s Qs) := by rw [hxb.2 PQ (blk_lt hPQb) (by simp; omega)]; exact hPQb
          have hml := Nat.mod_lt (win L i (K + 1)) gs.V0
          have hdm0 := (Nat.div_add_mod (win L i (K + 1)) V).symm
          by_cases hcc : cc = 0
          · obtain ⟨hg1, hwin⟩ := hc1 hcc
            obtain ⟨X, hXe⟩ : ∃ X, X = X0 := ⟨_, rfl⟩
            obtain ⟨g, hge⟩ : ∃ g, g = gg := ⟨_, rfl⟩
            subst hXe hge
            have hXb := hXb0
            have hwon := hwon0
            have hdm : win L i (K + 1) = V * g + win L i (K + 1) % V := by rw [hg1]; exact hdm0
            simp [-Int.natCast_add, hcc, r_173_19, g4, g6, g7, g8, g9, g10, g11, g12, g14]
            refine (num_low_uint64_does hx4.1).mono ?_
            rintro _ G6 ⟨rfl, hx6⟩
            have hPQ6 := hx6.blk hPQ4
            have hP6 := hx6.blk hXb
            have hPQl := blk_lt hPQ6
            obtain ⟨hj1, _⟩ := own_at (k := .i64) (cap := N) (o := 0) (n := N) hPQ6 (by omega) (show i < N by omega)
            rw [hSQ, Nat.zero_add] at hj1
            have hile : i + 1 ≤ Qs.length := by omega
            have hfPQ : G.size ≤ PQ := by omega
            rw [Nat.mod_eq_of_lt hgl]
            obtain ⟨hd1, hd2⟩ := div_step (BB := 4294967296) (n := a.length + 1) (q := g) rfl hLlen hwon (by omega) (show i < Qs.length by omega) hU (by rw [hk]; exact hVlt) hlt hdm hml hwin
            simp [-Int.natCast_add, r_173_20, hj1, hPQ6, hile, hfPQ, g4, g6, g7, g8, g9, g10, g11, g12, ew5]
            refine ⟨i, by omega, rfl, (hx4.trans hx6).set hfPQ, (hv4.mono hx6).off ExtB.refl.set hslPQ, X, by rw [blk_set_ne (by omega)]; exact hP6, Qs.set i g, by rw [blk_set_self hPQl, u32s_set], by rw [hwon.1, hLlen], hwon.2.1, by simpa using hQlen, LimOk_set hQok hgl, by omega, hd2, hd1⟩
          · obtain ⟨hg1, hgive⟩ := hc2 hcc
            obtain ⟨g, rfl⟩ : ∃ g, gg = g + 1 := ⟨win L i (K + 1) / V, hg1⟩
            have hg2 : g = win L i (K + 1) / V := Nat.succ.inj hg1
            have eg : IntKind.u64.wrap (((g + 1 : Nat) : Int) - 1) = (g : Int) := by rw [wrapu64]; omega
            have hdm : win L i (K + 1) = V * g + win L i (K + 1) % V := by rw [hg2]; exact hdm0
            simp [-Int.natCast_add, hcc, r_173_17, r_173_18, g4, g6, g7, g8, g9, g10, g11, g12, g14, eg, ew1, ew4, helem _ _ hXb0, hslice]
            refine (num_give_does (n := K + 1) hXb0 hwon0.2.1 (by rw [hwon0.1]; omega) hv4 hslP hfP (by omega) (by omega)).mono ?_
            rintro _ G5 ⟨X, c2, hXb, hxb2, hwon2, hs2⟩
            rw [hVt] at hs2
            have hwin := hgive _ _ hs2 (win_lt hwon2.2.1 i (K + 1))
            replace hPQ4 : Heap.blk G5 PQ = .row false T_uint32 (u32s Qs) := by rw [hxb2.2 PQ (blk_lt hPQ4) (by simp; omega)]; exact hPQ4
            replace hx4 := hxb2.ext hfP hx4
            replace hv4 := hv4.off hxb2 hslP
            have hwon := hwon0.trans hwon2
            replace hgl : g < 4294967296 := by omega
            simp [-Int.natCast_add, r_173_19, g4, g6, g7, g8, g9, g10, g11, g12]
            refine (num_low_uint64_does hx4.1).mono ?_
            rintro _ G6 ⟨rfl, hx6⟩
            have hPQ6 := hx6.blk hPQ4
            have hP6 := hx6.blk hXb
            have hPQl := blk_lt hPQ6
            obtain ⟨hj1, _⟩ := own_at (k := .i64) (cap := N) (o := 0) (n := N) hPQ6 (by omega) (show i < N by omega)
            rw [hSQ, Nat.zero_add] at hj1
            have hile : i + 1 ≤ Qs.length := by omega
            have hfPQ : G.size ≤ PQ := by omega
            rw [Nat.mod_eq_of_lt hgl]
            obtain ⟨hd1, hd2⟩ := div_step (BB := 4294967296) (n := a.length + 1) (q := g) rfl hLlen hwon (by omega) (show i < Qs.length by omega) hU (by rw [hk]; exact hVlt) hlt hdm hml hwin
            simp [-Int.natCast_add, r_173_20, hj1, hPQ6, hile, hfPQ, g4, g6, g7, g8, g9, g10, g11, g12, ew5]
            refine ⟨i, by omega, rfl, (hx4.trans hx6).set hfPQ, (hv4.mono hx6).off ExtB.refl.set hslPQ, X, by rw [blk_set_ne (by omega)]; exact hP6, Qs.set i g, by rw [blk_set_self hPQl, u32s_set], by rw [hwon.1, hLlen], hwon.2.1, by simpa using hQlen, LimOk_set hQok hgl, by omega, hd2, hd1⟩
    · clear hP3 hPQ3 hv0 hl0 hok0 L0 g0 g1 g6 ht ρ hx hv3 G3
      rintro t G3 ⟨L, Qs, ht, g4, g6, g7, g9, hx, hP, hPQb, hLlen, hLok, hQlen, hQok, hU, hlt⟩
      obtain ⟨ρ, rfl⟩ := toT ht
      simp only [get_T, Nat.reduceLT] at g4 g6 g7 g9
      have helem : elemOk G3 T_uint32 SU = true := by rw [← hSU]; exact own_elem hP
      have hslice : ∃ cap', sliceA 1 SU none (some (.int .i64 (K : Int))) none = some (.slice (some ⟨P, 0, none⟩) K cap') := by
        rw [← hSU, slice_own (lo := 0) (hi := K) rfl (by simp) (by omega) (by omega), Nat.zero_add, Nat.sub_zero]
        exact ⟨_, rfl⟩
      obtain ⟨capt, hslice⟩ := hslice
      simp [-Int.natCast_add, r_173_21, g4, g6, g7, g9, helem, hslice]
      have hlim := lim_own (cap := capt) hP hLok (show 0 + K ≤ L.length by omega)
      have hlv : natL ((L.drop 0).take K) = natL L := by
        have h1 := natL_win (L := L) (Nat.le_refl _)
        rw [List.take_length, hLlen, show a.length + 1 = K + (a.length + 1 - K) by omega, win_split, Nat.zero_add] at h1
        have h2 : win L K (a.length + 1 - K) = 0 := by
          by_cases h0 : win L K (a.length + 1 - K) = 0
          · exact h0
          · have := Nat.le_mul_of_pos_right (4294967296 ^ K) (by omega : 0 < win L K (a.length + 1 - K))
            rw [hk] at this h1; omega
        rw [natL_dt (by omega), h1, h2, Nat.mul_zero, Nat.add_zero]
      have hll : ((L.drop 0).take K).length = K := by simp; omega
      refine (num_back_does hlim hx.1 (by omega) (by omega)).mono ?_
      rintro r G4 ⟨⟨o, ho, hov, hol⟩, hx4⟩
      rw [hlv] at hov
      have hV0 : 0 < V := by omega
      have e1 : U0 / V = natL Qs := by rw [hU, Nat.mul_comm, Nat.mul_add_div hV0, Nat.div_eq_of_lt hlt, Nat.add_zero]
      have e2 : U0 % V = natL L := by rw [hU, Nat.mul_comm, Nat.mul_add_mod, Nat.mod_eq_of_lt hlt]
      refine fun _ => ⟨SQ, Qs, r, ⟨rfl, rfl⟩, ⟨by rw [← hSQ, ← hQlen]; exact (Own.mk (fl := 0) (hx4.blk hPQb) (by simp) (Nat.zero_le _)).sl, hQok⟩, e1.symm, by omega, o, ho, by rw [hov, e2], by omega⟩
end Go.Proofs.YtjlohmnnldbjoaaGreat.AI

/- num.Div. -/
namespace Go.Proofs.YtjlohmnnldbjoaaGreat.AI
open Go
set_option maxHeartbeats 4000000

variable {fl : Nat} {H : Heap} {R : PostP} {v w : Value} {i j : Bool × List Nat}

theorem tdiv_parts (x y : Int) : (if (decide (x < 0) != decide (y < 0)) = true then -((x.natAbs / y.natAbs : Nat) : Int) else ((x.natAbs / y.natAbs : Nat) : Int)) = x.tdiv y := by
  have e1 : ∀ n : Int, 0 ≤ n → (n.natAbs : Int) = n := fun n h => Int.natAbs_of_nonneg h
  have e2 : ∀ n : Int, n < 0 → (n.natAbs : Int) = -n := fun n h => by omega
  rw [Int.natCast_ediv]
  by_cases hx : x < 0 <;> by_cases hy : y < 0 <;> simp only [hx, hy, decide_true, decide_false, bne_self_eq_false, Bool.false_eq_true, if_false, Bool.true_bne, Bool.false_bne, Bool.not_false, if_true]
  · rw [e2 x hx, e2 y hy, ← Int.tdiv_eq_ediv_of_nonneg (by omega), Int.neg_tdiv, Int.tdiv_neg, Int.neg_neg]
  · rw [e2 x hx, e1 y (by omega), ← Int.tdiv_eq_ediv_of_nonneg (by omega), Int.neg_tdiv, Int.neg_neg]
  · rw [e1 x (by omega), e2 y hy, ← Int.tdiv_eq_ediv_of_nonneg (by omega), Int.tdiv_neg, Int.neg_neg]
  · rw [e1 x (by omega), e1 y (by omega), ← Int.tdiv_eq_ediv_of_nonneg (by omega)]
theorem tmod_parts (x y : Int) : (if decide (x < 0) = true then -((x.natAbs % y.natAbs : Nat) : Int) else ((x.natAbs % y.natAbs : Nat) : Int)) = x.tmod y := by
  have h1 := Int.natAbs_tmod x y
  by_cases hx : x < 0
  · simp only [hx, decide_true, if_true]
    have h2 : x.tmod y ≤ 0 := by
      have := Int.tmod_nonneg (a := -x) y (by omega)
      rw [Int.neg_tmod] at this; omega
    omega
  · simp only [hx, decide_false, Bool.false_eq_true, if_false]
    have h2 := Int.tmod_nonneg (a := x) y (by omega)
    omega

theorem num_Div_does (h : IntV H v i) (k : IntV H w j) (hf : fl ≤ H.size) (hn : i.2.length < 536870912) (hm : j.2.length < 536870912) (hj0 : valI j ≠ 0) :
    Does env fl f_152 [v, w] H (fun r H' => (∃ q m, r = .tuple #[q, m, .int .i64 0] ∧ IntV H' q (canonI ((valI i).tdiv (valI j))) ∧ IntV H' m (canonI ((valI i).tmod (valI j)))) ∧ Ext H H') R := by
  have k0 := h
  have k1 := k
  obtain ⟨s, rfl, hs⟩ := h
  obtain ⟨u, rfl, hu⟩ := k
  refine does_ext e_152 hf (h := ?_)
  intro ρ h0
  simp [s_152, r_152_0, h0]
  generalize hG : Array.push (Array.push (Array.push (Array.push H _) _) _) _ = G
  have hx : Ext H G := by rw [← hG]; exact (Ext.refl H).push.push.push.push
  have b0 : Heap.blk G H.size = .row false T_api_Int [.bool i.1, s] := by rw [← hG]; simp
  have b1 : Heap.blk G (H.size + 1) = .row false T_api_Int [.bool j.1, u] := by rw [← hG]; simp
  have b2 : Heap.blk G (H.size + 2) = .row false T_api_Int [.bool false, .slice none 0 0] := by rw [← hG]; simp
  have b3 : Heap.blk G (H.size + 3) = .row false T_api_Int [.bool false, .slice none 0 0] := by rw [← hG]; simp
  have hz : H.size + 3 < G.size := blk_lt b3
  clear hG
  replace k0 := k0.mono hx
  replace k1 := k1.mono hx
  refine W_draw ?_
  simp [r_152_1, h0, b0, b1]
  refine (limbs_does k0 (by omega) (by omega)).mono ?_
  rintro x G2 ⟨k2, hx2⟩
  (try replace b0:=hx2.blk b0);(try replace b1:=hx2.blk b1);(try replace b2:=hx2.blk b2);(try replace b3:=hx2.blk b3);(try replace hx:=hx.trans hx2);(try replace k0:=k0.mono hx2);(try replace k1:=k1.mono hx2);(try replace k2:=k2.mono hx2);(try replace k3:=k3.mono hx2);(try replace k4:=k4.mono hx2);(try replace k5 := k5.mono hx2)
  try simp [h0, b0, b1]
  refine (limbs_does k1 hx.1 (by omega)).mono ?_
  rintro y G2 ⟨k3, hx2⟩
  (try replace b0:=hx2.blk b0);(try replace b1:=hx2.blk b1);(try replace b2:=hx2.blk b2);(try replace b3:=hx2.blk b3);(try replace hx:=hx.trans hx2);(try replace k0:=k0.mono hx2);(try replace k1:=k1.mono hx2);(try replace k2:=k2.mono hx2);(try replace k3:=k3.mono hx2);(try replace k4:=k4.mono hx2);(try replace k5 := k5.mono hx2)
  clear hs hu hz hx2
  have l1 := len_digits_val k0.ok
  have l2 := len_digits_val k1.ok
  have hl0 : digits (valI j).natAbs ≠ [] := by intro h; exact hj0 (by have := digits_eq_nil.1 h; omega)
  have hl1 := List.length_pos_iff.2 hl0
  have e1 := tdiv_parts (valI i) (valI j)
  have e2 := tmod_parts (valI i) (valI j)
  simp [r_152_2, r_152_4, h0, k3.slen, hl0]
  refine (num_cmp_does k2 k3 hx.1 (by omega)).mono ?_
  rintro _ G2 ⟨rfl, hx2⟩
  (try replace b0:=hx2.blk b0);(try replace b1:=hx2.blk b1);(try replace b2:=hx2.blk b2);(try replace b3:=hx2.blk b3);(try replace hx:=hx.trans hx2);(try replace k0:=k0.mono hx2);(try replace k1:=k1.mono hx2);(try replace k2:=k2.mono hx2);(try replace k3:=k3.mono hx2);(try replace k4:=k4.mono hx2);(try replace k5 := k5.mono hx2)
  have hcmp := cmpL_digits (valI i).natAbs (valI j).natAbs
  rw [cmpZ_cast] at hcmp
  generalize cmpL (digits (valI i).natAbs) (digits (valI j).natAbs) = c at hcmp
  by_cases hlt : (valI i).natAbs < (valI j).natAbs
  · have hcl : c < 0 := by rw [hcmp, if_pos hlt]; omega
    simp [r_152_5, h0, hcl, b0]
    refine (neg_does k0 hx.1 (by omega)).mono ?_
    rintro _ G2 ⟨rfl, hx2⟩
    (try replace b0:=hx2.blk b0);(try replace b1:=hx2.blk b1);(try replace b2:=hx2.blk b2);(try replace b3:=hx2.blk b3);(try replace hx:=hx.trans hx2);(try replace k0:=k0.mono hx2);(try replace k1:=k1.mono hx2);(try replace k2:=k2.mono hx2);(try replace k3:=k3.mono hx2);(try replace k4:=k4.mono hx2);(try replace k5 := k5.mono hx2)
    try simp [h0]
    refine (made_does ((valI i).tmod (valI j)) k2 hx.1 (by omega) (by rw [natL_digits, ← e2, Nat.mod_eq_of_lt hlt])).mono ?_
    obtain ⟨s1, hsv, hs1⟩ : ∃ s1, s1 = Value.slice none 0 0 ∧ Lim G2 s1 (canonI ((valI i).tdiv (valI j))).2 := by
      refine ⟨_, rfl, ?_⟩
      rw [← e1, Nat.div_eq_of_lt hlt]
      have : canonI (if (decide (valI i < 0) != decide (valI j < 0)) = true then -((0 : Nat) : Int) else ((0 : Nat) : Int)) = (false, []) := by split <;> exact canon_zero
      rw [this]; exact Lim.nil
    have hb1 : (canonI ((valI i).tdiv (valI j))).1 = false := by
      rw [← e1, Nat.div_eq_of_lt hlt]; split <;> simp [canonI]
    rw [← hsv, ← hb1]
    rintro _ G2 ⟨⟨s2, rfl, hs2⟩, hx2⟩
    (try replace b0:=hx2.blk b0);(try replace b1:=hx2.blk b1);(try replace b2:=hx2.blk b2);(try replace b3:=hx2.blk b3);(try replace hx:=hx.trans hx2);(try replace k0:=k0.mono hx2);(try replace k1:=k1.mono hx2);(try replace k2:=k2.mono hx2);(try replace k3:=k3.mono hx2);(try replace k4:=k4.mono hx2);(try replace k5 := k5.mono hx2)
    have hz := blk_lt b3
    have hz2 := blk_lt b2
    simp [h0, b2, b3, hs1.cells, hs1.plain, hs2.cells, hs2.plain, hz, hz2]
    refine fun _ => ⟨_, _, ⟨rfl, rfl⟩, ⟨s1, rfl, ?_⟩, ⟨s2, rfl, ?_⟩⟩
    · exact ((hs1.mono hx2).setT b2 (by decide)).setT (by rw [blk_set_ne (by omega)]; exact b3) (by decide)
    · exact (hs2.setT b2 (by decide)).setT (by rw [blk_set_ne (by omega)]; exact b3) (by decide)
  · have hcl : ¬ c < 0 := by rw [hcmp, if_neg hlt]; split <;> omega
    by_cases h1 : (digits (valI j).natAbs).length = 1
    · have hd0 : (0 : Nat) < (digits (valI j).natAbs).length := by omega
      obtain ⟨d, hd⟩ : ∃ d, digits (valI j).natAbs = [d] := by
        obtain ⟨d, hd⟩ := List.length_eq_one_iff.1 h1; exact ⟨d, hd⟩
      have hdv : (valI j).natAbs = d := by rw [← natL_digits (valI j).natAbs, hd]; simp [natL]
      have hdl : d < 4294967296 := k3.ok d (by rw [hd]; simp)
      have hdp : 0 < d := by omega
      rw [hd] at k3
      have hia := k3.ia (k := .i64) (j := 0) (by simp)
      have hld := k3.load (j := 0) (by simp) (Ext.refl _)
      simp at hia hld
      simp [r_152_6, r_152_7, h0, hcl, hd, k3.slen, hia, hld]
      refine (num_small_does k2 hx.1 (by omega) hdp hdl).mono ?_
      rintro _ G2 ⟨⟨q1, o, rfl, k4, hov, hol⟩, hx2⟩
      (try replace b0:=hx2.blk b0);(try replace b1:=hx2.blk b1);(try replace b2:=hx2.blk b2);(try replace b3:=hx2.blk b3);(try replace hx:=hx.trans hx2);(try replace k0:=k0.mono hx2);(try replace k1:=k1.mono hx2);(try replace k2:=k2.mono hx2);(try replace k3:=k3.mono hx2);(try replace k4:=k4.mono hx2);(try replace k5 := k5.mono hx2)
      have hmd : natL (digits (valI i).natAbs) % d < 4294967296 := Nat.lt_trans (Nat.mod_lt _ hdp) hdl
      rw [natL_digits] at hov hmd ⊢
      generalize hrm : (valI i).natAbs % d = rm at *
      simp [h0]
      refine W_draw ?_
      simp [r_152_8, h0, b0, b1]
      refine (neg_does k0 (by have := hx.1; omega) (by omega)).mono ?_
      rintro _ G2 ⟨rfl, hx2⟩
      (try replace b0:=hx2.blk b0);(try replace b1:=hx2.blk b1);(try replace b2:=hx2.blk b2);(try replace b3:=hx2.blk b3);(try replace hx:=hx.trans hx2);(try replace k0:=k0.mono hx2);(try replace k1:=k1.mono hx2);(try replace k2:=k2.mono hx2);(try replace k3:=k3.mono hx2);(try replace k4:=k4.mono hx2);(try replace k5 := k5.mono hx2)
      try simp [h0, b0, b1]
      refine (neg_does k1 (by have := hx.1; omega) (by omega)).mono ?_
      rintro _ G2 ⟨rfl, hx2⟩
      (try replace b0:=hx2.blk b0);(try replace b1:=hx2.blk b1);(try replace b2:=hx2.blk b2);(try replace b3:=hx2.blk b3);(try replace hx:=hx.trans hx2);(try replace k0:=k0.mono hx2);(try replace k1:=k1.mono hx2);(try replace k2:=k2.mono hx2);(try replace k3:=k3.mono hx2);(try replace k4:=k4.mono hx2);(try replace k5 := k5.mono hx2)
      try simp [h0]
      refine (made_does ((valI i).tdiv (valI j)) k4 (by have := hx.1; omega) (by omega) (by rw [hov, ← e1, hdv])).mono ?_
      rintro _ G2 ⟨⟨s1, rfl, hs1⟩, hx2⟩
      (try replace b0:=hx2.blk b0);(try replace b1:=hx2.blk b1);(try replace b2:=hx2.blk b2);(try replace b3:=hx2.blk b3);(try replace hx:=hx.trans hx2);(try replace k0:=k0.mono hx2);(try replace k1:=k1.mono hx2);(try replace k2:=k2.mono hx2);(try replace k3:=k3.mono hx2);(try replace k4:=k4.mono hx2);(try replace k5 := k5.mono hx2)
      try simp [h0, b0, b1]
      refine (neg_does k0 (by have := hx.1; omega) (by omega)).mono ?_
      rintro _ G2 ⟨rfl, hx2⟩
      (try replace b0:=hx2.blk b0);(try replace b1:=hx2.blk b1);(try replace b2:=hx2.blk b2);(try replace b3:=hx2.blk b3);(try replace hx:=hx.trans hx2);(try replace k0:=k0.mono hx2);(try replace k1:=k1.mono hx2);(try replace k2:=k2.mono hx2);(try replace k3:=k3.mono hx2);(try replace k4:=k4.mono hx2);(try replace k5 := k5.mono hx2)
      replace hs1 := hs1.mono hx2
      try simp [h0]
      generalize hG3 : Array.push G2 _ = G3
      have hx2 : Ext G2 G3 := by rw [← hG3]; exact (Ext.refl _).push
      have k5 : Lim G3 (.slice (some ⟨G2.size, 0, none⟩) 1 1) [rm] := by
        refine ⟨(Own.mk (fl := 0) (cap := 1) (e := T_uint32) (sz := 1) (n := 1) (cs := u32s [rm]) ?_ (by simp) (Nat.zero_le _)).sl, fun x hx => by simp at hx; omega⟩
        rw [← hG3, blk_push_self]; rfl
      (try replace b0:=hx2.blk b0);(try replace b1:=hx2.blk b1);(try replace b2:=hx2.blk b2);(try replace b3:=hx2.blk b3);(try replace hx:=hx.trans hx2);(try replace k0:=k0.mono hx2);(try replace k1:=k1.mono hx2);(try replace k2:=k2.mono hx2);(try replace k3:=k3.mono hx2);(try replace k4:=k4.mono hx2);(try replace k5 := k5.mono hx2)
      replace hs1 := hs1.mono hx2
      refine (made_does ((valI i).tmod (valI j)) k5 (by have := hx.1; omega) (by simp) (by rw [← e2, hdv, hrm]; simp [natL])).mono ?_
      rintro _ G2 ⟨⟨s2, rfl, hs2⟩, hx2⟩
      (try replace b0:=hx2.blk b0);(try replace b1:=hx2.blk b1);(try replace b2:=hx2.blk b2);(try replace b3:=hx2.blk b3);(try replace hx:=hx.trans hx2);(try replace k0:=k0.mono hx2);(try replace k1:=k1.mono hx2);(try replace k2:=k2.mono hx2);(try replace k3:=k3.mono hx2);(try replace k4:=k4.mono hx2);(try replace k5 := k5.mono hx2)
      have hz := blk_lt b3
      have hz2 := blk_lt b2
      simp [h0, b2, b3, hs1.cells, hs1.plain, hs2.cells, hs2.plain, hz, hz2]
      refine fun _ => ⟨_, _, ⟨rfl, rfl⟩, ⟨s1, rfl, ?_⟩, ⟨s2, rfl, ?_⟩⟩
      · exact ((hs1.mono hx2).setT b2 (by decide)).setT (by rw [blk_set_ne (by omega)]; exact b3) (by decide)
      · exact (hs2.setT b2 (by decide)).setT (by rw [blk_set_ne (by omega)]; exact b3) (by decide)
    · have hlt2 : 2 ≤ (digits (valI j).natAbs).length := by omega
      have hle : (digits (valI j).natAbs).length ≤ (digits (valI i).natAbs).length := digits_mono (by omega)
      have h1' : ¬ ((digits (valI j).natAbs).length : Int) = 1 := by omega
      simp [r_152_6, r_152_9, h0, hcl, h1, h1', k3.slen]
      refine (num_divide_does k2 k3 hx.1 (by omega) hlt2 hle (digits_last (by omega))).mono ?_
      rintro _ G2 ⟨⟨q1, o, q2, o2, rfl, k4, hov, hol, k5, hov2, hol2⟩, hx2⟩
      (try replace b0:=hx2.blk b0);(try replace b1:=hx2.blk b1);(try replace b2:=hx2.blk b2);(try replace b3:=hx2.blk b3);(try replace hx:=hx.trans hx2);(try replace k0:=k0.mono hx2);(try replace k1:=k1.mono hx2);(try replace k2:=k2.mono hx2);(try replace k3:=k3.mono hx2);(try replace k4:=k4.mono hx2);(try replace k5 := k5.mono hx2)
      rw [natL_digits, natL_digits] at hov hov2
      simp [h0]
      refine W_draw ?_
      simp [r_152_10, h0, b0, b1]
      refine (neg_does k0 (by have := hx.1; omega) (by omega)).mono ?_
      rintro _ G2 ⟨rfl, hx2⟩
      (try replace b0:=hx2.blk b0);(try replace b1:=hx2.blk b1);(try replace b2:=hx2.blk b2);(try replace b3:=hx2.blk b3);(try replace hx:=hx.trans hx2);(try replace k0:=k0.mono hx2);(try replace k1:=k1.mono hx2);(try replace k2:=k2.mono hx2);(try replace k3:=k3.mono hx2);(try replace k4:=k4.mono hx2);(try replace k5 := k5.mono hx2)
      try simp [h0, b0, b1]
      refine (neg_does k1 (by have := hx.1; omega) (by omega)).mono ?_
      rintro _ G2 ⟨rfl, hx2⟩
      (try replace b0:=hx2.blk b0);(try replace b1:=hx2.blk b1);(try replace b2:=hx2.blk b2);(try replace b3:=hx2.blk b3);(try replace hx:=hx.trans hx2);(try replace k0:=k0.mono hx2);(try replace k1:=k1.mono hx2);(try replace k2:=k2.mono hx2);(try replace k3:=k3.mono hx2);(try replace k4:=k4.mono hx2);(try replace k5 := k5.mono hx2)
      try simp [h0]
      refine (made_does ((valI i).tdiv (valI j)) k4 (by have := hx.1; omega) (by omega) (by rw [hov, ← e1])).mono ?_
      rintro _ G2 ⟨⟨s1, rfl, hs1⟩, hx2⟩
      (try replace b0:=hx2.blk b0);(try replace b1:=hx2.blk b1);(try replace b2:=hx2.blk b2);(try replace b3:=hx2.blk b3);(try replace hx:=hx.trans hx2);(try replace k0:=k0.mono hx2);(try replace k1:=k1.mono hx2);(try replace k2:=k2.mono hx2);(try replace k3:=k3.mono hx2);(try replace k4:=k4.mono hx2);(try replace k5 := k5.mono hx2)
      try simp [h0, b0, b1]
      refine (neg_does k0 (by have := hx.1; omega) (by omega)).mono ?_
      rintro _ G2 ⟨rfl, hx2⟩
      (try replace b0:=hx2.blk b0);(try replace b1:=hx2.blk b1);(try replace b2:=hx2.blk b2);(try replace b3:=hx2.blk b3);(try replace hx:=hx.trans hx2);(try replace k0:=k0.mono hx2);(try replace k1:=k1.mono hx2);(try replace k2:=k2.mono hx2);(try replace k3:=k3.mono hx2);(try replace k4:=k4.mono hx2);(try replace k5 := k5.mono hx2)
      replace hs1 := hs1.mono hx2
      try simp [h0]
      refine (made_does ((valI i).tmod (valI j)) k5 (by have := hx.1; omega) (by omega) (by rw [hov2, ← e2])).mono ?_
      rintro _ G2 ⟨⟨s2, rfl, hs2⟩, hx2⟩
      (try replace b0:=hx2.blk b0);(try replace b1:=hx2.blk b1);(try replace b2:=hx2.blk b2);(try replace b3:=hx2.blk b3);(try replace hx:=hx.trans hx2);(try replace k0:=k0.mono hx2);(try replace k1:=k1.mono hx2);(try replace k2:=k2.mono hx2);(try replace k3:=k3.mono hx2);(try replace k4:=k4.mono hx2);(try replace k5 := k5.mono hx2)
      have hz := blk_lt b3
      have hz2 := blk_lt b2
      simp [h0, b2, b3, hs1.cells, hs1.plain, hs2.cells, hs2.plain, hz, hz2]
      refine fun _ => ⟨_, _, ⟨rfl, rfl⟩, ⟨s1, rfl, ?_⟩, ⟨s2, rfl, ?_⟩⟩
      · exact ((hs1.mono hx2).setT b2 (by decide)).setT (by rw [blk_set_ne (by omega)]; exact b3) (by decide)
      · exact (hs2.setT b2 (by decide)).setT (by rw [blk_set_ne (by omega)]; exact b3) (by decide)
end Go.Proofs.YtjlohmnnldbjoaaGreat.AI

/- Drawn regions of which pairs are watched. -/
namespace Go.Proofs.YtjlohmnnldbjoaaGreat.AI
open Go

abbrev Log := List (List Nat × List Nat)

def WRL (E : Env) (fl : Nat) : List SOper → Tmps → Heap → Log → (Tmps → Heap → Log → Prop) → Prop
  | [], t, H, lg, Z => Z t H lg
  | o :: r, t, H, lg, Z => if isWanted t o.g then WS E fl t H o.op (fun v H' => WRL E fl r (put t o.dst v) H' (touch t o.op :: lg) Z) (fun _ => False) else WRL E fl r (put t o.dst undef) H (([], []) :: lg) Z

variable {E : Env} {fl : Nat} {t : Tmps} {H : Heap} {Q : PostX} {R : PostP}

theorem WRL_draw (bef : List Nat) (pairs : List (Nat × Nat)) {Z : Tmps → Heap → Prop} : ∀ (ops : List SOper) (i : Nat) (t : Tmps) (H : Heap) (log : Log),
    WRL E fl ops t H log (fun t' H' lg => apartAll lg.reverse pairs = true ∧ Z t' H') → ∃ n t' H', drawA (callA E n) fl bef pairs i ops t H none log = .fin .normal t' H' ∧ Z t' H'
  | [], i, t, H, log, h => ⟨0, t, H, by simp only [drawA]; rw [if_pos h.1], h.2⟩
  | o :: r, i, t, H, log, h => by
    simp only [WRL] at h
    split at h
    · rename_i hw
      obtain ⟨n, hn⟩ := WS_run h
      cases hs : stepA (callA E n) fl t H o.op with
      | bad => rw [hs] at hn; exact absurd hn id
      | pan v => rw [hs] at hn; exact absurd hn id
      | ok rr =>
        obtain ⟨v, H'⟩ := rr
        rw [hs] at hn
        obtain ⟨m, t2, H2, hm, hz⟩ := WRL_draw bef pairs r (i + 1) _ _ _ hn
        refine ⟨max n m, t2, H2, ?_, hz⟩
        have h1 := stepA_mono (callA_mono1 E n (max n m) (by omega)) (Nat.le_refl fl) (t := t) (H := H) (so := o.op) (by rw [hs]; simp)
        have h2 := drawA_mono (callA_mono1 E m (max n m) (by omega)) (Nat.le_refl fl) bef pairs r (i + 1) (put t o.dst v) H' none (touch t o.op :: log) (by rw [hm]; simp)
        simp only [drawA, hangs, Bool.false_eq_true, if_false, hw, if_true, h1, hs, h2]; exact hm
    · rename_i hw
      obtain ⟨m, t2, H2, hm, hz⟩ := WRL_draw bef pairs r (i + 1) _ _ _ h
      exact ⟨m, t2, H2, by simp only [drawA, hangs, Bool.false_eq_true, if_false, hw]; exact hm, hz⟩

theorem W_drawL {ops : List SOper} {bef : List Nat} {pairs : List (Nat × Nat)} (h : WRL E fl ops t H [] (fun t' H' lg => apartAll lg.reverse pairs = true ∧ Q .normal t' H')) : W E fl (.draw ops bef pairs) t H Q R := by
  obtain ⟨n, t', H', hn, hz⟩ := WRL_draw bef pairs ops 0 t H [] h
  refine ⟨n + 1, ?_⟩
  have h2 := drawA_mono (callA_mono1 E n (n+1) (by omega)) (Nat.le_refl fl) bef pairs ops 0 t H none [] (by rw [hn]; simp)
  simp only [execA, h2, hn]; exact hz

section
variable {Z : Tmps → Heap → Log → Prop} {lg : Log} {d : Option Nat} {op : SOp} {r : List SOper}
@[simp ↓] theorem WRL_nil : WRL E fl [] t H lg Z = Z t H lg := nr rfl
@[simp ↓] theorem WRL_cons : WRL E fl (⟨d, none, op⟩ :: r) t H lg Z = WS E fl t H op (fun v H' => WRL E fl r (put t d v) H' (touch t op :: lg) Z) (fun _ => False) := by simp [WRL, isWanted]
@[simp ↓] theorem WRL_g {j : Nat} {w : Bool} : WRL E fl (⟨d, some (j, w), op⟩ :: r) t H lg Z = if wantB w (get t j) = true then WS E fl t H op (fun v H' => WRL E fl r (put t d v) H' (touch t op :: lg) Z) (fun _ => False) else WRL E fl r (put t d undef) H (([], []) :: lg) Z := by
  have h : isWanted t (some (j, w)) = wantB w (get t j) := by
    simp only [isWanted]
    generalize get t j = v
    cases v <;> rfl
  show (if isWanted t (some (j, w)) = true then _ else _) = _
  rw [h]
theorem WRL_congr {t t' : Tmps} {ops : List SOper} {lg : Log} (h : t = t') : WRL E fl ops t H lg Z = WRL E fl ops t' H lg Z := by rw [h]
attribute [congr] WRL_congr
@[simp] theorem blkOf_ptr {p : Addr} : blkOf (.pointer (some p)) = [p.block] := nr rfl
@[simp] theorem blkOf_sl {p : Addr} {n c : Nat} : blkOf (.slice (some p) n c) = [p.block] := nr rfl
@[simp] theorem blkOf_snil {n c : Nat} : blkOf (.slice none n c) = [] := nr rfl
@[simp] theorem blkW_sl {p : Addr} {n c : Nat} : blkW (.slice (some p) n c) = if n = 0 ∧ c = 0 then [] else [p.block] := nr rfl
@[simp] theorem blkW_snil {n c : Nat} : blkW (.slice none n c) = [] := nr rfl
attribute [simp] touch apartAll meets
end

end Go.Proofs.YtjlohmnnldbjoaaGreat.AI

/- num.Gcd. -/
namespace Go.Proofs.YtjlohmnnldbjoaaGreat.AI
open Go
set_option maxHeartbeats 4000000

variable {fl : Nat} {H : Heap} {R : PostP} {v w : Value} {i j : Bool × List Nat}

theorem new2 {G : Heap} {z1 z2 r1 r2 : Blk} : Ext G (Array.setIfInBounds (Array.setIfInBounds (Array.push (Array.push G z1) z2) G.size r1) (G.size + 1) r2) ∧
    Heap.blk (Array.setIfInBounds (Array.setIfInBounds (Array.push (Array.push G z1) z2) G.size r1) (G.size + 1) r2) G.size = r1 ∧
    Heap.blk (Array.setIfInBounds (Array.setIfInBounds (Array.push (Array.push G z1) z2) G.size r1) (G.size + 1) r2) (G.size + 1) = r2 := by
  refine ⟨(((Ext.refl G).push.push).set (by omega)).set (by omega), ?_, ?_⟩
  · rw [blk_set_ne (by omega), blk_set_self (by simp)]
  · rw [blk_set_self (by simp)]
theorem canon_neg_nat (n : Nat) : (canonI (n : Int)) = (false, digits n) := by unfold canonI; simp
theorem num_Gcd_does (h : IntV H v i) (k : IntV H w j) (hf : fl ≤ H.size) (hn : i.2.length < 536870912) (hm : j.2.length < 536870912) :
    Does env fl f_133 [v, w] H (fun r H' => IntV H' r (canonI (Int.gcd (valI i) (valI j))) ∧ Ext H H') R := by
  have k0 := h
  have k1 := k
  obtain ⟨s, rfl, hs⟩ := h
  obtain ⟨u, rfl, hu⟩ := k
  refine does_ext e_133 hf (h := ?_)
  intro ρ h0
  simp [s_133, r_133_0, h0]
  generalize hG : Array.push (Array.push (Array.push H _) _) _ = G
  have hx : Ext H G := by rw [← hG]; exact (Ext.refl H).push.push.push
  have b0 : Heap.blk G H.size = .row false T_api_Int [.bool i.1, s] := by rw [← hG]; simp
  have b1 : Heap.blk G (H.size + 1) = .row false T_api_Int [.bool j.1, u] := by rw [← hG]; simp
  have b2 : Heap.blk G (H.size + 2) = .row false T_api_Int [.bool false, .slice none 0 0] := by rw [← hG]; simp
  have hz : H.size + 2 < G.size := blk_lt b2
  clear hG
  replace k0 := k0.mono hx
  replace k1 := k1.mono hx
  have l1 := len_digits_val k0.ok
  have l2 := len_digits_val k1.ok
  refine W_draw ?_
  simp [r_133_1, h0, b0, b1]
  refine (limbs_does k0 (by omega) (by omega)).mono ?_
  rintro x G2 ⟨k2, hx2⟩
  (try replace b0:=hx2.blk b0);(try replace b1:=hx2.blk b1);(try replace b2:=hx2.blk b2);(try replace b3:=hx2.blk b3);(try replace b4:=hx2.blk b4);(try replace b5:=hx2.blk b5);(try replace b6:=hx2.blk b6);(try replace hx:=hx.trans hx2);(try replace k0:=k0.mono hx2);(try replace k1:=k1.mono hx2);(try replace k2:=k2.mono hx2);(try replace k3:=k3.mono hx2);(try replace k5:=k5.mono hx2);(try replace k6:=k6.mono hx2);(try replace k7:=k7.mono hx2);(try replace k8 := k8.mono hx2)
  try simp [h0]
  refine (made_does (((valI i).natAbs : Nat) : Int) k2 (by have := hx.1; omega) (by omega) (by simp [natL_digits])).mono ?_
  rintro x G2 ⟨k2, hx2⟩
  (try replace b0:=hx2.blk b0);(try replace b1:=hx2.blk b1);(try replace b2:=hx2.blk b2);(try replace b3:=hx2.blk b3);(try replace b4:=hx2.blk b4);(try replace b5:=hx2.blk b5);(try replace b6:=hx2.blk b6);(try replace hx:=hx.trans hx2);(try replace k0:=k0.mono hx2);(try replace k1:=k1.mono hx2);(try replace k2:=k2.mono hx2);(try replace k3:=k3.mono hx2);(try replace k5:=k5.mono hx2);(try replace k6:=k6.mono hx2);(try replace k7:=k7.mono hx2);(try replace k8 := k8.mono hx2)
  try simp [h0, b1]
  refine (limbs_does k1 (by have := hx.1; omega) (by omega)).mono ?_
  rintro y G2 ⟨k3, hx2⟩
  (try replace b0:=hx2.blk b0);(try replace b1:=hx2.blk b1);(try replace b2:=hx2.blk b2);(try replace b3:=hx2.blk b3);(try replace b4:=hx2.blk b4);(try replace b5:=hx2.blk b5);(try replace b6:=hx2.blk b6);(try replace hx:=hx.trans hx2);(try replace k0:=k0.mono hx2);(try replace k1:=k1.mono hx2);(try replace k2:=k2.mono hx2);(try replace k3:=k3.mono hx2);(try replace k5:=k5.mono hx2);(try replace k6:=k6.mono hx2);(try replace k7:=k7.mono hx2);(try replace k8 := k8.mono hx2)
  try simp [h0]
  refine (made_does (((valI j).natAbs : Nat) : Int) k3 (by have := hx.1; omega) (by omega) (by simp [natL_digits])).mono ?_
  rintro y G2 ⟨k3, hx2⟩
  (try replace b0:=hx2.blk b0);(try replace b1:=hx2.blk b1);(try replace b2:=hx2.blk b2);(try replace b3:=hx2.blk b3);(try replace b4:=hx2.blk b4);(try replace b5:=hx2.blk b5);(try replace b6:=hx2.blk b6);(try replace hx:=hx.trans hx2);(try replace k0:=k0.mono hx2);(try replace k1:=k1.mono hx2);(try replace k2:=k2.mono hx2);(try replace k3:=k3.mono hx2);(try replace k5:=k5.mono hx2);(try replace k6:=k6.mono hx2);(try replace k7:=k7.mono hx2);(try replace k8 := k8.mono hx2)
  obtain ⟨s2, hxe, k2⟩ := k2
  obtain ⟨s3, hye, k3⟩ := k3
  have hsz := hx.1
  have hsz1 : H.size ≤ G2.size + 1 := by omega
  have hc0 := blk_lt b2
  simp [h0, hsz1, hxe, hye, k2.cells, k3.cells, k2.plain, k3.plain, hsz]
  rw [canon_neg_nat] at k2 k3
  obtain ⟨hx2, b3, b4⟩ := new2 (G := G2) (z1 := .row false T_api_Int [.bool false, .slice none 0 0]) (z2 := .row false T_api_Int [.bool false, .slice none 0 0]) (r1 := .row false T_api_Int [.bool false, s2]) (r2 := .row false T_api_Int [.bool false, s3])
  replace k2 := k2.mono hx2
  replace k3 := k3.mono hx2
  replace b2 := hx2.blk b2
  replace hx := hx.trans hx2
  simp only [canon_neg_nat]
  generalize Array.setIfInBounds _ _ _ = G3 at *
  generalize hP : G2.size = P at *
  refine W_loopM (fun c t G => ∃ (a b : Nat) (s5 s6 : Value), c = b ∧ t.length = 30 ∧ get t 4 = .pointer (some ⟨H.size + 2, 0, none⟩) ∧ get t 5 = .pointer (some ⟨P, 0, none⟩) ∧ get t 6 = .pointer (some ⟨P + 1, 0, none⟩) ∧
      Ext H G ∧ Heap.blk G (H.size + 2) = .row false T_api_Int [.bool false, .slice none 0 0] ∧ Heap.blk G P = .row false T_api_Int [.bool false, s5] ∧ Heap.blk G (P + 1) = .row false T_api_Int [.bool false, s6] ∧ Lim G s5 (digits a) ∧ Lim G s6 (digits b) ∧
      (digits a).length < 536870912 ∧ (digits b).length < 536870912 ∧ Nat.gcd a b = Int.gcd (valI i) (valI j))
    (fun t G => ∃ (a : Nat) (s5 : Value), t.length = 30 ∧ get t 4 = .pointer (some ⟨H.size + 2, 0, none⟩) ∧ get t 5 = .pointer (some ⟨P, 0, none⟩) ∧
      Ext H G ∧ Heap.blk G (H.size + 2) = .row false T_api_Int [.bool false, .slice none 0 0] ∧ Heap.blk G P = .row false T_api_Int [.bool false, s5] ∧ Lim G s5 (digits a) ∧ a = Int.gcd (valI i) (valI j)) (valI j).natAbs ?_ ?_ ?_
  · exact ⟨(valI i).natAbs, (valI j).natAbs, s2, s3, rfl, by simp, by simp, by simp, by simp, hx, b2, b3, b4, k2, k3, by omega, by omega, rfl⟩
  · clear h0 ρ k0 k1 k2 k3 b0 b1 b2 hx
    rintro c t G ⟨a, b, s5, s6, rfl, ht, g4, g5, g6, hx, b2, b3, b4, k5, k6, la, lb, hg⟩
    obtain ⟨ρ, rfl⟩ := toT ht
    simp only [get_T, Nat.reduceLT] at g4 g5 g6
    by_cases hb : c = 0
    · subst hb
      rw [digits_zero] at k6
      simp [r_133_2, g4, g5, g6, b2, b3, b4, k6.slen]
      rw [Nat.gcd_zero_right] at hg
      exact ⟨hx, by rw [← hg]; exact k5⟩
    · have hdl : 0 < (digits c).length := List.length_pos_iff.2 (by rw [Ne, digits_eq_nil]; exact hb)
      have hdl' : (0 : Int) < ((digits c).length : Int) := by omega
      have hnil : digits c ≠ [] := by rw [Ne, digits_eq_nil]; exact hb
      simp [r_133_2, r_133_3, g4, g5, g6, b2, b3, b4, k6.slen, hdl, hdl', hnil]
      have k0 : IntV G (.agg #[.bool false, s5]) (canonI (a : Int)) := ⟨s5, by rw [canon_neg_nat], by rw [canon_neg_nat]; exact k5⟩
      have k1 : IntV G (.agg #[.bool false, s6]) (canonI (c : Int)) := ⟨s6, by rw [canon_neg_nat], by rw [canon_neg_nat]; exact k6⟩
      refine (num_Div_does k0 k1 hx.1 (by rw [canon_neg_nat]; exact la) (by rw [canon_neg_nat]; exact lb) (by rw [val_canon]; omega)).mono ?_
      rintro _ G2 ⟨⟨q, m, rfl, k7, k8⟩, hx2⟩
      (try replace b0:=hx2.blk b0);(try replace b1:=hx2.blk b1);(try replace b2:=hx2.blk b2);(try replace b3:=hx2.blk b3);(try replace b4:=hx2.blk b4);(try replace b5:=hx2.blk b5);(try replace b6:=hx2.blk b6);(try replace hx:=hx.trans hx2);(try replace k0:=k0.mono hx2);(try replace k1:=k1.mono hx2);(try replace k2:=k2.mono hx2);(try replace k3:=k3.mono hx2);(try replace k5:=k5.mono hx2);(try replace k6:=k6.mono hx2);(try replace k7:=k7.mono hx2);(try replace k8 := k8.mono hx2)
      rw [val_canon, val_canon] at k7 k8
      have hmod : ((a : Int).tmod (c : Int)) = ((a % c : Nat) : Int) := by rw [Int.tmod_eq_emod_of_nonneg (by omega)]; rfl
      rw [hmod, canon_neg_nat] at k8
      obtain ⟨s7, rfl, k7⟩ := k7
      obtain ⟨s8, rfl, k8⟩ := k8
      have hsz := hx.1
      have hsz1 : H.size ≤ G2.size + 1 := by omega
      have hc1 := blk_lt b4
      simp [g4, g5, g6, b3, b4, k7.cells, k8.cells, k7.plain, k8.plain, hsz, hsz1]
      obtain ⟨hx2, b5, b6⟩ := new2 (G := G2) (z1 := .row false T_api_Int [.bool false, .slice none 0 0]) (z2 := .row false T_api_Int [.bool false, .slice none 0 0]) (r1 := .row false T_api_Int [.bool (canonI (↑a / ↑c)).1, s7]) (r2 := .row false T_api_Int [.bool false, s8])
      (try replace b0:=hx2.blk b0);(try replace b1:=hx2.blk b1);(try replace b2:=hx2.blk b2);(try replace b3:=hx2.blk b3);(try replace b4:=hx2.blk b4);(try replace b5:=hx2.blk b5);(try replace b6:=hx2.blk b6);(try replace hx:=hx.trans hx2);(try replace k0:=k0.mono hx2);(try replace k1:=k1.mono hx2);(try replace k2:=k2.mono hx2);(try replace k3:=k3.mono hx2);(try replace k5:=k5.mono hx2);(try replace k6:=k6.mono hx2);(try replace k7:=k7.mono hx2);(try replace k8 := k8.mono hx2)
      generalize Array.setIfInBounds (Array.setIfInBounds _ _ _) _ _ = G3 at *
      have hl1 := blk_lt b3
      have hl2 := blk_lt b4
      have hHP : H.size ≤ P := by omega
      have hHP1 : H.size ≤ P + 1 := by omega
      have hne : P + 1 ≠ P := by omega
      have hne2 : P ≠ G2.size + 1 := by omega
      have hne3 : G2.size + 1 ≠ P := by omega
      refine W_drawL ?_
      simp [r_133_4, g4, g5, g6, b4, b6, b3, k6.cells, k8.cells, k6.plain, k8.plain, hHP, hHP1, hne, hne2, hne3]
      have hmc : a % c < c := Nat.mod_lt _ (by omega)
      refine ⟨a % c, hmc, (hx.set hHP).set hHP1, by rw [blk_set_ne (by omega), blk_set_ne (by omega)]; exact b2, c, s6, by rw [blk_set_self hl1], s8, by rw [blk_set_self (by simpa using hl2)], ?_, ?_, lb, Nat.lt_of_le_of_lt (digits_mono (Nat.le_of_lt hmc)) lb, by rw [Nat.gcd_comm, ← Nat.gcd_rec, Nat.gcd_comm, hg]⟩
      · exact (k6.setT b3 (by decide)).setT (by rw [blk_set_ne (by omega)]; exact b4) (by decide)
      · exact (k8.setT b3 (by decide)).setT (by rw [blk_set_ne (by omega)]; exact b4) (by decide)
  · clear h0 ρ k0 k1 k2 k3 b0 b1 b2 hx
    rintro t G ⟨a, s5, ht, g4, g5, hx, b2, b3, k5, hg⟩
    obtain ⟨ρ, rfl⟩ := toT ht
    simp only [get_T, Nat.reduceLT] at g4 g5
    have hl1 := blk_lt b2
    have hl2 := blk_lt b3
    subst hg
    simp [r_133_5, g4, g5, b2, b3, k5.cells, k5.plain, hl1]
    exact fun _ => ⟨s5, rfl, k5.setT b2 (by decide)⟩
end Go.Proofs.YtjlohmnnldbjoaaGreat.AI

/- Calls, from here on: simp goes into no continuation. -/
namespace Go.Proofs.YtjlohmnnldbjoaaGreat.AI
open Go

def DoesK (E : Env) (fl fl' : Nat) (f : FuncId) (args : List Value) (H : Heap) (d : Option Nat) (r : List SOper) (t : Tmps) (Z : Tmps → Heap → Prop) (R : PostP) : Prop :=
  Does E fl' f args H (fun v H' => WR E fl r (put t d v) H' Z R) R
@[simp ↓ high] theorem WS_callK {E : Env} {fl : Nat} {t : Tmps} {H : Heap} {R : PostP} {d : Option Nat} {r : List SOper} {Z : Tmps → Heap → Prop} {f : FuncId} {as : List Opd} {lone : Bool} :
    WS E fl t H (.call f as lone) (fun v H' => WR E fl r (put t d v) H' Z R) R = DoesK E fl (if lone then fl else max fl H.size) f (as.map (ev t)) H d r t Z R := nr rfl
def CallvK (E : Env) (fl fl' : Nat) (x : Value) (args : List Value) (H : Heap) (d : Option Nat) (r : List SOper) (t : Tmps) (Z : Tmps → Heap → Prop) (R : PostP) : Prop :=
  match x with
  | .func (.func f) p q => DoesK E fl fl' f (p.toList ++ args ++ q.toList) H d r t Z R
  | _ => False
@[simp ↓ high] theorem WS_callvK {E : Env} {fl : Nat} {t : Tmps} {H : Heap} {R : PostP} {d : Option Nat} {r : List SOper} {Z : Tmps → Heap → Prop} {x : Opd} {as : List Opd} {lone : Bool} :
    WS E fl t H (.callv x as lone) (fun v H' => WR E fl r (put t d v) H' Z R) R = CallvK E fl (if lone then fl else max fl H.size) (ev t x) (as.map (ev t)) H d r t Z R := by
  simp only [WS, opA, CallvK]; generalize ev t x = y
  cases y <;> try rfl
  rename_i g _ _; cases g <;> rfl
@[simp] theorem CallvK_fn {E : Env} {fl fl' : Nat} {t : Tmps} {H : Heap} {R : PostP} {d : Option Nat} {r : List SOper} {Z : Tmps → Heap → Prop} {f : FuncId} {p q : Array Value} {as : List Value} :
    CallvK E fl fl' (.func (.func f) p q) as H d r t Z R = DoesK E fl fl' f (p.toList ++ as ++ q.toList) H d r t Z R := nr rfl
theorem DoesK_congr {E : Env} {fl fl' fl2 : Nat} {t t' : Tmps} {H : Heap} {R : PostP} {d : Option Nat} {r : List SOper} {Z : Tmps → Heap → Prop} {f : FuncId} {as as' : List Value} (h : as = as') (ht : t = t') (hf : fl' = fl2) :
    DoesK E fl fl' f as H d r t Z R = DoesK E fl fl2 f as' H d r t' Z R := by rw [h, ht, hf]
attribute [congr] DoesK_congr
section
variable {E : Env} {fl : Nat} {t : Tmps} {H : Heap} {Z : Tmps → Heap → Log → Prop} {lg : Log} {d : Option Nat} {r : List SOper}
def DoesL (E : Env) (fl fl' : Nat) (f : FuncId) (args : List Value) (H : Heap) (d : Option Nat) (r : List SOper) (t : Tmps) (lg : Log) (Z : Tmps → Heap → Log → Prop) : Prop :=
  Does E fl' f args H (fun v H' => WRL E fl r (put t d v) H' lg Z) (fun _ => False)
@[simp ↓ high] theorem WS_callL {f : FuncId} {as : List Opd} {lone : Bool} :
    WS E fl t H (.call f as lone) (fun v H' => WRL E fl r (put t d v) H' lg Z) (fun _ => False) = DoesL E fl (if lone then fl else max fl H.size) f (as.map (ev t)) H d r t lg Z := nr rfl
end

/-! ### heaps with one store more -/
section
variable {H G G3 : Heap} {q p : Nat} {X r0 : Blk} {ro : Bool} {e : TypeId} {cs : List Value}
theorem set_keep (hS : Array.setIfInBounds G q X = G3) (hb : Heap.blk G p = r0) (h : q ≠ p) : Heap.blk G3 p = r0 := by rw [← hS, blk_set_ne h]; exact hb
theorem set_new (hS : Array.setIfInBounds G q X = G3) (hb : Heap.blk G q = .row ro e cs) : Heap.blk G3 q = X := by rw [← hS, blk_set_self (blk_lt hb)]
theorem set_ext (hS : Array.setIfInBounds G q X = G3) (hx : Ext H G) (h : H.size ≤ q) : Ext H G3 := by rw [← hS]; exact hx.set h
theorem Lim.setS {v : Value} {l : List Nat} (k : Lim G v l) (hS : Array.setIfInBounds G q X = G3) (hb : Heap.blk G q = .row ro e cs) (hne : e ≠ T_uint32) : Lim G3 v l := by rw [← hS]; exact k.setT hb hne
theorem IntV.setS {v : Value} {i : Bool × List Nat} (k : IntV G v i) (hS : Array.setIfInBounds G q X = G3) (hb : Heap.blk G q = .row ro e cs) (hne : e ≠ T_uint32) : IntV G3 v i := by rw [← hS]; exact k.setT hb hne
theorem new1 {z r : Blk} (hN : Array.setIfInBounds (Array.push G z) G.size r = G3) : Ext G G3 ∧ Heap.blk G3 G.size = r := by
  rw [← hN]; exact ⟨((Ext.refl G).push).set (by omega), by rw [blk_set_self (by simp)]⟩
theorem new0 {z : Blk} (hN : Array.push G z = G3) : Ext G G3 ∧ Heap.blk G3 G.size = z := by
  rw [← hN]; exact ⟨(Ext.refl G).push, blk_push_self⟩
end

def lz (z : Int) : Nat := (digits z.natAbs).length
theorem lz_le {z : Int} {k : Nat} (h : z.natAbs < 4294967296 ^ k) : lz z ≤ k := digits_len h
theorem lt_lz (z : Int) : z.natAbs < 4294967296 ^ lz z := lt_digits _
theorem lz_mono {x y : Int} (h : x.natAbs ≤ y.natAbs) : lz x ≤ lz y := digits_mono h
theorem lz_mul (x y : Int) : lz (x * y) ≤ lz x + lz y := by
  refine lz_le ?_
  rw [Int.natAbs_mul, Nat.pow_add]
  exact Nat.mul_lt_mul'' (lt_lz x) (lt_lz y)
theorem lz_add (x y : Int) : lz (x + y) ≤ max (lz x) (lz y) + 1 := by
  refine lz_le ?_
  have h1 := lt_lz x
  have h2 := lt_lz y
  have h3 : (4294967296 : Nat) ^ lz x ≤ 4294967296 ^ max (lz x) (lz y) := Nat.pow_le_pow_right (by omega) (by omega)
  have h4 : (4294967296 : Nat) ^ lz y ≤ 4294967296 ^ max (lz x) (lz y) := Nat.pow_le_pow_right (by omega) (by omega)
  have := Int.natAbs_add_le x y
  rw [Nat.pow_succ]
  omega
theorem lz_neg (x : Int) : lz (-x) = lz x := by unfold lz; rw [Int.natAbs_neg]
theorem lz_one : lz 1 = 1 := by unfold lz; rw [digits_pos (by decide), show (1 : Int).natAbs / 4294967296 = 0 from rfl, digits_zero]; rfl
theorem lz_zero : lz 0 = 0 := by unfold lz; rw [show (0 : Int).natAbs = 0 from rfl, digits_zero]; rfl
theorem len_canonI (z : Int) : (canonI z).2.length = lz z := rfl
theorem lz_val {i : Bool × List Nat} (h : LimOk i.2) : lz (valI i) ≤ i.2.length := len_digits_val h


end Go.Proofs.YtjlohmnnldbjoaaGreat.AI

/- rat: zero, none, one, May, right. -/
namespace Go.Proofs.YtjlohmnnldbjoaaGreat.AI
open Go
set_option maxHeartbeats 4000000

variable {fl : Nat} {H : Heap} {R : PostP} {v w : Value} {i j : Bool × List Nat}

abbrev RawR := (Bool × List Nat) × (Bool × List Nat)
def RatV (H : Heap) (v : Value) (a : RawR) : Prop := ∃ s u, v = .agg #[.bool a.1.1, s, .bool a.2.1, u] ∧ Lim H s a.1.2 ∧ Lim H u a.2.2
variable {a b : RawR}
theorem RatV.mono {G : Heap} (h : RatV H v a) (hx : Ext H G) : RatV G v a := by obtain ⟨s, u, h1, h2, h3⟩ := h; exact ⟨s, u, h1, h2.mono hx, h3.mono hx⟩
theorem RatV.setT (h : RatV H v a) {p : Nat} {ro : Bool} {e' : TypeId} {cs' : List Value} {r : Blk} (hb : H.blk p = .row ro e' cs') (hne : e' ≠ T_uint32) : RatV (H.setIfInBounds p r) v a := by
  obtain ⟨s, u, h1, h2, h3⟩ := h; exact ⟨s, u, h1, h2.setT hb hne, h3.setT hb hne⟩
theorem RatV.setS {G3 : Heap} {q : Nat} {X : Blk} {ro : Bool} {e : TypeId} {cs : List Value} (k : RatV H v a) (hS : Array.setIfInBounds H q X = G3) (hb : Heap.blk H q = .row ro e cs) (hne : e ≠ T_uint32) : RatV G3 v a := by rw [← hS]; exact k.setT hb hne
def lenR (a : RawR) : Nat := max a.1.2.length a.2.2.length

def zeroR (a : RawR) : Bool := !a.1.1 && a.1.2.length == 0 && !a.2.1 && a.2.2.length == 0
def mayR (a : RawR) : Bool := zeroR a || (mayB a.1 && mayB a.2 && !a.2.1 && valI a.2 != 0 && Int.gcd (valI a.1) (valI a.2) == 1)
def valR (a : RawR) : Rat := if zeroR a then 0 else if mayR a then Rat.divInt (valI a.1) (valI a.2) else 0
def canonR (x : Rat) : RawR := (canonI x.num, canonI x.den)

theorem zeroR_iff (a : RawR) : zeroR a = true ↔ a = ((false, []), (false, [])) := by
  obtain ⟨⟨b1, l1⟩, ⟨b2, l2⟩⟩ := a
  unfold zeroR; cases b1 <;> cases b2 <;> simp

theorem valR_parts (hz : zeroR a = false) (hm : mayR a = true) : canonR (valR a) = (canonI (valI a.1), canonI (valI a.2)) := by
  unfold valR
  rw [hz, hm]
  unfold mayR at hm
  rw [hz, Bool.false_or] at hm
  simp only [Bool.and_eq_true, Bool.not_eq_true', bne_iff_ne, ne_eq, beq_iff_eq] at hm
  obtain ⟨⟨⟨⟨h1, h2⟩, h3⟩, h4⟩, h5⟩ := hm
  have hq : 0 < valI a.2 := by
    unfold valI at h4 ⊢; rw [h2, h3] at h4 ⊢; simp at h4 ⊢; omega
  have hd : ((valI a.2).toNat : Int) = valI a.2 := Int.toNat_of_nonneg (by omega)
  have h6 : Rat.divInt (valI a.1) (valI a.2) = ⟨valI a.1, (valI a.2).toNat, by omega, by rw [Nat.Coprime, ← h5, Int.gcd]; congr 1; omega⟩ := by
    rw [Rat.mk_eq_divInt, hd]
  simp only [Bool.false_eq_true, if_false, if_true]
  rw [h6]; unfold canonR; simp only [hd]

theorem canonR_zero : canonR 0 = ((false, []), canonI 1) := by
  show (canonI 0, canonI 1) = _; rw [canon_zero]

theorem zeroR_canon (x : Rat) : zeroR (canonR x) = false := by
  have := x.den_nz
  unfold zeroR canonR
  have h : digits (x.den : Int).natAbs ≠ [] := by rw [Ne, digits_eq_nil]; omega
  have h2 : (digits x.den).length ≠ 0 := by intro h3; exact h (List.length_eq_zero_iff.1 h3)
  simp [canonI]; intro _ _; simpa using h2
theorem mayR_canon (x : Rat) : mayR (canonR x) = true := by
  have h1 := x.den_nz
  have h2 := x.reduced
  unfold mayR
  rw [zeroR_canon, Bool.false_or]
  unfold canonR
  simp only [may_canon, val_canon, Bool.and_eq_true, Bool.not_eq_true', bne_iff_ne, beq_iff_eq]
  refine ⟨⟨⟨⟨trivial, trivial⟩, by simp [canonI]⟩, by omega⟩, ?_⟩
  rw [Int.gcd, Int.natAbs_natCast]; exact h2
theorem valR_canon (x : Rat) : valR (canonR x) = x := by
  unfold valR
  rw [zeroR_canon, mayR_canon]
  simp only [Bool.false_eq_true, if_false, if_true]
  unfold canonR
  rw [val_canon, val_canon, Rat.num_divInt_den]

theorem rat_zero_does (h : RatV H v a) (hf : fl ≤ H.size) : Does env fl f_116 [v] H (fun r H' => r = .bool (zeroR a) ∧ Ext H H') R := by
  obtain ⟨s, u, rfl, hs, hu⟩ := h
  refine does_ext e_116 hf (h := ?_)
  intro ρ h0
  simp [s_116, r_116_0, h0]
  have hsl := hs.slen
  have hul := hu.slen
  cases h1 : a.1.1
  · by_cases h2 : a.1.2 = []
    · cases h3 : a.2.1
      · simp [r_116_1, h0, h1, h2, h3, hsl, hul, zeroR]
      · simp [r_116_1, h0, h1, h2, h3, hsl, hul, zeroR]
    · simp [r_116_1, h0, h1, h2, hsl, hul, zeroR]
  · simp [r_116_1, h0, h1, hsl, hul, zeroR]

theorem rat_none_does (h : IntV H v i) (hf : fl ≤ H.size) (hn : i.2.length < 536870912) : Does env fl f_132 [v] H (fun r H' => r = .bool (valI i == 0) ∧ Ext H H') R := by
  have k0 := h
  obtain ⟨s, rfl, hs⟩ := h
  refine does_ext e_132 hf (h := ?_)
  intro ρ h0
  simp [s_132, r_132_0, r_132_1, h0]
  refine (num_Cmp_does (k0.mono (by simp)) (j := (false, [])) ⟨_, rfl, Lim.nil⟩ (by simp) hn (by simp)).mono ?_
  rintro _ G2 ⟨rfl, hx2⟩
  have : valI (false, []) = 0 := by unfold valI mayB; simp [natL]
  rw [this]
  simp [cmpZ]
  intro _
  by_cases h1 : valI i < 0
  · simp [h1]; omega
  · by_cases h2 : 0 < valI i
    · simp [h1, h2]; omega
    · simp [h1, h2]; omega

theorem rat_one_does (hf : fl ≤ H.size) : Does env fl f_117 [] H (fun r H' => IntV H' r (canonI 1) ∧ Ext H H') R := by
  refine does_ext e_117 hf (h := ?_)
  intro ρ h0
  simp [s_117, r_117_0, r_117_1, h0]
  refine (num_Of_does (by simp) (by omega) (by omega)).mono ?_
  rintro _ G2 ⟨⟨s, rfl, hs⟩, hx2⟩
  have b0 := hx2.blk blk_push_self
  have hz := blk_lt b0
  simp [b0, hs.cells, hs.plain, hz]
  exact fun _ => ⟨s, rfl, hs.setT b0 (by decide)⟩

theorem rat_May_does (h : RatV H v a) (hf : fl ≤ H.size) (hn : lenR a < 536870912) : Does env fl f_97 [v] H (fun r H' => r = .bool (mayR a) ∧ Ext H H') R := by
  have k0 := h
  have hn1 : a.1.2.length < 536870912 := by unfold lenR at hn; omega
  have hn2 : a.2.2.length < 536870912 := by unfold lenR at hn; omega
  obtain ⟨s, u, rfl, hs, hu⟩ := h
  have k1 : IntV H (.agg #[.bool a.1.1, s]) a.1 := ⟨s, rfl, hs⟩
  have k2 : IntV H (.agg #[.bool a.2.1, u]) a.2 := ⟨u, rfl, hu⟩
  refine does_ext e_97 hf (h := ?_)
  intro ρ h0
  simp [s_97, r_97_0, h0]
  generalize hG : Array.push H _ = G
  have hx2 : Ext H G := by rw [← hG]; simp
  have b0 : Heap.blk G H.size = .row false T_api_Rat [.bool a.1.1, s, .bool a.2.1, u] := by rw [← hG]; simp
  have hx := Ext.refl H
  clear hG
  (try replace b0:=hx2.blk b0);(try replace hx:=hx.trans hx2);(try replace k0:=k0.mono hx2);(try replace k1:=k1.mono hx2);(try replace k2:=k2.mono hx2);(try replace k3:=k3.mono hx2);(try replace k4 := k4.mono hx2)
  simp [r_97_1, h0, b0]
  refine (rat_zero_does k0 hx.1).mono ?_
  rintro _ G2 ⟨rfl, hx2⟩
  (try replace b0:=hx2.blk b0);(try replace hx:=hx.trans hx2);(try replace k0:=k0.mono hx2);(try replace k1:=k1.mono hx2);(try replace k2:=k2.mono hx2);(try replace k3:=k3.mono hx2);(try replace k4 := k4.mono hx2)
  unfold mayR
  cases hz : zeroR a
  case true => simp [r_97_2]
  simp [r_97_3, h0, b0]
  refine (num_May_does k1 hx.1 (by omega)).mono ?_
  rintro _ G2 ⟨rfl, hx2⟩
  (try replace b0:=hx2.blk b0);(try replace hx:=hx.trans hx2);(try replace k0:=k0.mono hx2);(try replace k1:=k1.mono hx2);(try replace k2:=k2.mono hx2);(try replace k3:=k3.mono hx2);(try replace k4 := k4.mono hx2)
  cases h1 : mayB a.1
  case false => simp
  simp [h0, b0]
  refine (num_May_does k2 hx.1 (by omega)).mono ?_
  rintro _ G2 ⟨rfl, hx2⟩
  (try replace b0:=hx2.blk b0);(try replace hx:=hx.trans hx2);(try replace k0:=k0.mono hx2);(try replace k1:=k1.mono hx2);(try replace k2:=k2.mono hx2);(try replace k3:=k3.mono hx2);(try replace k4 := k4.mono hx2)
  cases h2 : mayB a.2
  case false => simp
  cases h3 : a.2.1
  case true => simp [h0, b0, h3]
  simp [h0, b0, h3]
  rw [← h3]
  refine (rat_none_does k2 hx.1 hn2).mono ?_
  rintro _ G2 ⟨rfl, hx2⟩
  (try replace b0:=hx2.blk b0);(try replace hx:=hx.trans hx2);(try replace k0:=k0.mono hx2);(try replace k1:=k1.mono hx2);(try replace k2:=k2.mono hx2);(try replace k3:=k3.mono hx2);(try replace k4 := k4.mono hx2)
  by_cases h4 : valI a.2 = 0
  · simp [h4]
    exact fun _ => h3
  have h4' : (valI a.2 == 0) = false := by simp [h4]
  simp [h0, b0, h4, h4', h3]
  rw [← h3]
  refine (num_Gcd_does k1 k2 hx.1 hn1 hn2).mono ?_
  rintro x G2 ⟨k3, hx2⟩
  (try replace b0:=hx2.blk b0);(try replace hx:=hx.trans hx2);(try replace k0:=k0.mono hx2);(try replace k1:=k1.mono hx2);(try replace k2:=k2.mono hx2);(try replace k3:=k3.mono hx2);(try replace k4 := k4.mono hx2)
  try simp [h0]
  refine (rat_one_does hx.1).mono ?_
  rintro y G2 ⟨k4, hx2⟩
  (try replace b0:=hx2.blk b0);(try replace hx:=hx.trans hx2);(try replace k0:=k0.mono hx2);(try replace k1:=k1.mono hx2);(try replace k2:=k2.mono hx2);(try replace k3:=k3.mono hx2);(try replace k4 := k4.mono hx2)
  try simp [h0]
  have hgl : (canonI ((Int.gcd (valI a.1) (valI a.2) : Nat) : Int)).2.length < 536870912 := by
    rw [canon_neg_nat]
    show (digits _).length < _
    have h5 : Int.gcd (valI a.1) (valI a.2) ≤ (valI a.2).natAbs := Int.gcd_le_natAbs_right _ h4
    have := digits_mono h5
    have := len_digits_val k2.ok
    omega
  refine (num_Cmp_does k3 k4 hx.1 hgl (by rw [len_canonI, lz_one]; decide)).mono ?_
  rintro _ G2 ⟨rfl, hx2⟩
  rw [val_canon, val_canon]
  simp
  intro _
  generalize Int.gcd (valI a.1) (valI a.2) = g
  have h6 : (cmpZ (g : Int) 1 == 0) = (g == 1) := by
    unfold cmpZ
    by_cases hg : g = 1
    · subst hg; rfl
    · have e : (g == 1) = false := by simp [hg]
      rw [e]; split
      · rfl
      · rename_i h7; split
        · rfl
        · omega
  simp [h3, h4, h6]

theorem rat_right_does (h : RatV H v a) (hf : fl ≤ H.size) (hn : lenR a < 536870912) : Does env fl f_85 [v] H (fun r H' => RatV H' r (canonR (valR a)) ∧ Ext H H') R := by
  have k0 := h
  have hn1 : a.1.2.length < 536870912 := by unfold lenR at hn; omega
  have hn2 : a.2.2.length < 536870912 := by unfold lenR at hn; omega
  obtain ⟨s, u, rfl, hs, hu⟩ := h
  have k1 : IntV H (.agg #[.bool a.1.1, s]) a.1 := ⟨s, rfl, hs⟩
  have k2 : IntV H (.agg #[.bool a.2.1, u]) a.2 := ⟨u, rfl, hu⟩
  refine does_ext e_85 hf (h := ?_)
  intro ρ h0
  simp [s_85, r_85_0, h0]
  generalize hG : Array.push (Array.push H _) _ = G
  have hx2 : Ext H G := by rw [← hG]; simp
  have b0 : Heap.blk G H.size = .row false T_api_Rat [.bool a.1.1, s, .bool a.2.1, u] := by rw [← hG]; simp
  have b1 : Heap.blk G (H.size + 1) = .row false T_api_Rat [.bool false, .slice none 0 0, .bool false, .slice none 0 0] := by rw [← hG]; simp
  have hx := Ext.refl H
  clear hG
  (try replace b0:=hx2.blk b0);(try replace b1:=hx2.blk b1);(try replace hx:=hx.trans hx2);(try replace k0:=k0.mono hx2);(try replace k1:=k1.mono hx2);(try replace k2:=k2.mono hx2);(try replace k3:=k3.mono hx2);(try replace k4 := k4.mono hx2)
  simp [r_85_1, h0, b0]
  refine (rat_zero_does k0 hx.1).mono ?_
  rintro _ G2 ⟨rfl, hx2⟩
  (try replace b0:=hx2.blk b0);(try replace b1:=hx2.blk b1);(try replace hx:=hx.trans hx2);(try replace k0:=k0.mono hx2);(try replace k1:=k1.mono hx2);(try replace k2:=k2.mono hx2);(try replace k3:=k3.mono hx2);(try replace k4 := k4.mono hx2)
  cases hz0 : zeroR a
  case true =>
    have hval : valR a = 0 := by unfold valR; rw [hz0]; rfl
    simp [r_85_2, h0]
    refine (rat_one_does hx.1).mono ?_
    rintro _ G2 ⟨⟨s1, rfl, hs1⟩, hx2⟩
    (try replace b0:=hx2.blk b0);(try replace b1:=hx2.blk b1);(try replace hx:=hx.trans hx2);(try replace k0:=k0.mono hx2);(try replace k1:=k1.mono hx2);(try replace k2:=k2.mono hx2);(try replace k3:=k3.mono hx2);(try replace k4 := k4.mono hx2)
    have hz := blk_lt b1
    simp [h0, b1, hs1.cells, hs1.plain, hz]
    refine fun _ => ?_
    rw [hval, canonR_zero]
    exact ⟨_, s1, rfl, Lim.nil, hs1.setT b1 (by decide)⟩
  simp [h0, b0]
  refine (rat_May_does k0 hx.1 hn).mono ?_
  rintro _ G2 ⟨rfl, hx2⟩
  (try replace b0:=hx2.blk b0);(try replace b1:=hx2.blk b1);(try replace hx:=hx.trans hx2);(try replace k0:=k0.mono hx2);(try replace k1:=k1.mono hx2);(try replace k2:=k2.mono hx2);(try replace k3:=k3.mono hx2);(try replace k4 := k4.mono hx2)
  cases hm : mayR a
  case false =>
    have hval : valR a = 0 := by unfold valR; rw [hz0, hm]; rfl
    simp [r_85_2, h0]
    refine (rat_one_does hx.1).mono ?_
    rintro _ G2 ⟨⟨s1, rfl, hs1⟩, hx2⟩
    (try replace b0:=hx2.blk b0);(try replace b1:=hx2.blk b1);(try replace hx:=hx.trans hx2);(try replace k0:=k0.mono hx2);(try replace k1:=k1.mono hx2);(try replace k2:=k2.mono hx2);(try replace k3:=k3.mono hx2);(try replace k4 := k4.mono hx2)
    have hz := blk_lt b1
    simp [h0, b1, hs1.cells, hs1.plain, hz]
    refine fun _ => ?_
    rw [hval, canonR_zero]
    exact ⟨_, s1, rfl, Lim.nil, hs1.setT b1 (by decide)⟩
  rw [valR_parts hz0 hm]
  simp [h0]
  refine W_draw ?_
  simp [r_85_3, h0, b0]
  have hv0 : valI (false, []) = 0 := by unfold valI mayB; simp [natL]
  refine (num_Add_does k1 (j := (false, [])) ⟨_, rfl, Lim.nil⟩ (by have := hx.1; omega) hn1 (by simp)).mono ?_
  rintro _ G2 ⟨⟨s1, rfl, k3⟩, hx2⟩
  (try replace b0:=hx2.blk b0);(try replace b1:=hx2.blk b1);(try replace hx:=hx.trans hx2);(try replace k0:=k0.mono hx2);(try replace k1:=k1.mono hx2);(try replace k2:=k2.mono hx2);(try replace k3:=k3.mono hx2);(try replace k4 := k4.mono hx2)
  rw [hv0, Int.add_zero] at k3 ⊢
  try simp [h0, b0]
  refine (num_Add_does k2 (j := (false, [])) ⟨_, rfl, Lim.nil⟩ hx.1 hn2 (by simp)).mono ?_
  rintro _ G2 ⟨⟨s2, rfl, k4⟩, hx2⟩
  (try replace b0:=hx2.blk b0);(try replace b1:=hx2.blk b1);(try replace hx:=hx.trans hx2);(try replace k0:=k0.mono hx2);(try replace k1:=k1.mono hx2);(try replace k2:=k2.mono hx2);(try replace k3:=k3.mono hx2);(try replace k4 := k4.mono hx2)
  rw [hv0, Int.add_zero] at k4 ⊢
  have hz := blk_lt b1
  simp [h0, b1, k3.cells, k3.plain, k4.cells, k4.plain, hz]
  exact fun _ => ⟨s1, s2, rfl, k3.setT b1 (by decide), k4.setT b1 (by decide)⟩
end Go.Proofs.YtjlohmnnldbjoaaGreat.AI

/- Quotients: plain laws. -/
namespace Go.Proofs.YtjlohmnnldbjoaaGreat.AI
open Go

def szR (x : Rat) : Nat := max (lz x.num) (lz x.den)
theorem lenR_canon (x : Rat) : lenR (canonR x) = szR x := rfl
theorem szR_pos (x : Rat) : 1 ≤ szR x := by
  unfold szR
  have : lz x.den ≠ 0 := by
    unfold lz
    intro h
    have := digits_eq_nil.1 (List.length_eq_zero_iff.1 h)
    have := x.den_nz
    omega
  omega
theorem szR_zero : szR 0 = 1 := by show max (lz 0) (lz 1) = 1; rw [lz_zero, lz_one]; rfl
theorem szR_divInt (p q : Int) : szR (Rat.divInt p q) ≤ max (max (lz p) (lz q)) 1 := by
  unfold szR
  rw [Rat.num_divInt, Rat.den_divInt]
  have h1 : lz (q.sign * p / ↑(q.gcd p)) ≤ lz p := by
    refine lz_mono ?_
    rw [Int.natAbs_ediv_of_dvd]
    · refine Nat.le_trans (Nat.div_le_self _ _) ?_
      rw [Int.natAbs_mul]
      have : q.sign.natAbs ≤ 1 := by rcases Int.lt_trichotomy q 0 with h | h | h
                                     · rw [Int.sign_eq_neg_one_of_neg h]; decide
                                     · rw [h]; decide
                                     · rw [Int.sign_eq_one_of_pos h]; decide
      calc _ ≤ 1 * p.natAbs := Nat.mul_le_mul_right _ this
        _ = _ := Nat.one_mul _
    · exact Int.dvd_mul_of_dvd_right (Int.gcd_dvd_right ..)
  have h2 : lz ((if q = 0 then 1 else q.natAbs / q.gcd p : Nat) : Int) ≤ max (lz q) 1 := by
    split
    · show lz 1 ≤ _; rw [lz_one]; omega
    · have : lz ((q.natAbs / q.gcd p : Nat) : Int) ≤ lz q := lz_mono (by rw [Int.natAbs_natCast]; exact Nat.div_le_self _ _)
      omega
  omega

theorem mkRat_divInt (n : Int) (d : Nat) : mkRat n d = Rat.divInt n d := rfl
theorem add_divInt (x y : Rat) : x + y = Rat.divInt (x.num * y.den + y.num * x.den) (x.den * y.den) := by rw [Rat.add_def', mkRat_divInt, Int.natCast_mul]
theorem mul_divInt (x y : Rat) : x * y = Rat.divInt (x.num * y.num) (x.den * y.den) := by rw [Rat.mul_def', mkRat_divInt, Int.natCast_mul]
theorem szR_add (x y : Rat) : szR (x + y) ≤ szR x + szR y + 1 := by
  rw [add_divInt]
  refine Nat.le_trans (szR_divInt _ _) ?_
  have h1 := lz_add (x.num * y.den) (y.num * x.den)
  have h2 := lz_mul x.num y.den
  have h3 := lz_mul y.num x.den
  have h4 := lz_mul (x.den : Int) y.den
  unfold szR; omega
theorem szR_mul (x y : Rat) : szR (x * y) ≤ szR x + szR y := by
  rw [mul_divInt]
  refine Nat.le_trans (szR_divInt _ _) ?_
  have h2 := lz_mul x.num y.num
  have h4 := lz_mul (x.den : Int) y.den
  have := szR_pos x
  unfold szR at *; omega
theorem szR_val {a : RawR} (h1 : LimOk a.1.2) (h2 : LimOk a.2.2) : szR (valR a) ≤ max (lenR a) 1 := by
  by_cases hz : zeroR a = true
  · have : valR a = 0 := by unfold valR; rw [hz]; rfl
    rw [this, szR_zero]; omega
  · by_cases hm : mayR a = true
    · have h3 := valR_parts (by simpa using hz) hm
      have h4 := lenR_canon (valR a)
      rw [h3] at h4
      rw [← h4]
      have := lz_val h1
      have := lz_val h2
      unfold lenR; simp only [len_canonI]; omega
    · have : valR a = 0 := by unfold valR; simp [hz, hm]
      rw [this, szR_zero]; omega

theorem quo_canon {p q g : Int} (hq : q ≠ 0) (hg : g = if q < 0 then -(Int.gcd p q : Int) else (Int.gcd p q : Int)) : canonR (Rat.divInt p q) = (canonI (p.tdiv g), canonI (q.tdiv g)) ∧ g ≠ 0 := by
  have hgp : 0 < Int.gcd p q := Int.gcd_pos_of_ne_zero_right _ hq
  have hg0 : g ≠ 0 := by rw [hg]; split <;> omega
  refine ⟨?_, hg0⟩
  have hdp : g ∣ p := by rw [hg]; split
                         · exact Int.neg_dvd.2 (Int.gcd_dvd_left ..)
                         · exact Int.gcd_dvd_left ..
  have hdq : g ∣ q := by rw [hg]; split
                         · exact Int.neg_dvd.2 (Int.gcd_dvd_right ..)
                         · exact Int.gcd_dvd_right ..
  have hna : g.natAbs = Int.gcd p q := by rw [hg]; split <;> simp
  have e1 := Int.tdiv_mul_cancel hdp
  have e2 := Int.tdiv_mul_cancel hdq
  have hcop : Int.gcd (p.tdiv g) (q.tdiv g) = 1 := by
    have h1 : Int.gcd (p.tdiv g * g) (q.tdiv g * g) = Int.gcd (p.tdiv g) (q.tdiv g) * g.natAbs := Int.gcd_mul_right ..
    rw [e1, e2, hna] at h1
    have h2 : 1 * Int.gcd p q = Int.gcd (p.tdiv g) (q.tdiv g) * Int.gcd p q := by rw [Nat.one_mul]; exact h1
    exact (Nat.eq_of_mul_eq_mul_right hgp h2).symm
  have hpos : 0 < q.tdiv g := by
    by_cases hq0 : q < 0
    · have : g < 0 := by rw [hg, if_pos hq0]; omega
      by_cases h : 0 < q.tdiv g
      · exact h
      · have := Int.mul_nonneg_of_nonpos_of_nonpos (a := q.tdiv g) (b := g) (by omega) (by omega); omega
    · have : 0 < g := by rw [hg, if_neg hq0]; omega
      by_cases h : 0 < q.tdiv g
      · exact h
      · have := Int.mul_nonpos_of_nonpos_of_nonneg (a := q.tdiv g) (b := g) (by omega) (by omega); omega
  have h3 : Rat.divInt p q = Rat.divInt (p.tdiv g) (q.tdiv g) := by
    have h := Rat.divInt_mul_right (n := p.tdiv g) (d := q.tdiv g) hg0
    rw [e1, e2] at h; exact h
  generalize p.tdiv g = x at *
  generalize q.tdiv g = y at *
  have hd : ((y.toNat : Nat) : Int) = y := Int.toNat_of_nonneg (by omega)
  have h6 : Rat.divInt x y = ⟨x, y.toNat, by omega, by rw [Nat.Coprime, ← hcop, Int.gcd]; congr 1; omega⟩ := by
    rw [Rat.mk_eq_divInt, hd]
  rw [h3, h6]; unfold canonR; simp only [hd]

def cmpR (x y : Rat) : Int := if x < y then -1 else if y < x then 1 else 0
theorem cmp_num (x y : Rat) : cmpZ (x.num * y.den) (y.num * x.den) = cmpR x y := by
  unfold cmpZ cmpR
  simp only [Rat.lt_iff, gt_iff_lt]
end Go.Proofs.YtjlohmnnldbjoaaGreat.AI

/- rat: Quo, least, fold, Add, Mul, Cmp, Of. -/
namespace Go.Proofs.YtjlohmnnldbjoaaGreat.AI
open Go
set_option maxHeartbeats 4000000

variable {fl : Nat} {H : Heap} {R : PostP} {v w : Value} {i j : Bool × List Nat} {a b : RawR}

theorem IntV.cells {i : Bool × List Nat} (h : IntV H v i) : (cellsL v).length = 2 ∧ (cellsL v).all plainCell = true := by
  obtain ⟨s, rfl, hs⟩ := h; simp [hs.plain]

theorem rat_Quo_does (h : IntV H v i) (k : IntV H w j) (hf : fl ≤ H.size) (hn : i.2.length < 536870912) (hm : j.2.length < 536870912) (hj0 : valI j ≠ 0) :
    Does env fl f_118 [v, w] H (fun r H' => (∃ q, r = .tuple #[q, .int .i64 0] ∧ RatV H' q (canonR (Rat.divInt (valI i) (valI j)))) ∧ Ext H H') R := by
  have k0 := h
  have k1 := k
  obtain ⟨s, rfl, hs⟩ := h
  obtain ⟨u, rfl, hu⟩ := k
  refine does_ext e_118 hf (h := ?_)
  intro ρ h0
  simp [s_118, r_118_0, h0]
  generalize hG : Array.push (Array.push (Array.push H _) _) _ = G
  have hx : Ext H G := by rw [← hG]; exact (Ext.refl H).push.push.push
  have b0 : Heap.blk G H.size = .row false T_api_Int [.bool i.1, s] := by rw [← hG]; simp
  have b1 : Heap.blk G (H.size + 1) = .row false T_api_Int [.bool j.1, u] := by rw [← hG]; simp
  have b2 : Heap.blk G (H.size + 2) = .row false T_api_Rat [.bool false, .slice none 0 0, .bool false, .slice none 0 0] := by rw [← hG]; simp
  clear hG
  replace k0 := k0.mono hx
  replace k1 := k1.mono hx
  have l1 := len_digits_val k0.ok
  have l2 := len_digits_val k1.ok
  simp [r_118_1, h0, b1]
  refine (rat_none_does k1 hx.1 hm).mono ?_
  rintro _ G2 ⟨rfl, hx2⟩
  (try replace b0:=hx2.blk b0);(try replace b1:=hx2.blk b1);(try replace b2:=hx2.blk b2);(try replace b3:=hx2.blk b3);(try replace hx:=hx.trans hx2);(try replace k0:=k0.mono hx2);(try replace k1:=k1.mono hx2);(try replace k2:=k2.mono hx2);(try replace k3:=k3.mono hx2);(try replace k4:=k4.mono hx2);(try replace k5:=k5.mono hx2);(try replace k6 := k6.mono hx2)
  have hj0' : (valI j == 0) = false := by simp [hj0]
  simp [hj0', hj0, r_118_3, h0, b0, b1]
  refine (num_Gcd_does k0 k1 hx.1 hn hm).mono ?_
  rintro x G2 ⟨⟨s1, rfl, k2⟩, hx2⟩
  (try replace b0:=hx2.blk b0);(try replace b1:=hx2.blk b1);(try replace b2:=hx2.blk b2);(try replace b3:=hx2.blk b3);(try replace hx:=hx.trans hx2);(try replace k0:=k0.mono hx2);(try replace k1:=k1.mono hx2);(try replace k2:=k2.mono hx2);(try replace k3:=k3.mono hx2);(try replace k4:=k4.mono hx2);(try replace k5:=k5.mono hx2);(try replace k6 := k6.mono hx2)
  have hsz := hx.1
  simp [h0, k2.cells, k2.plain, hsz]
  generalize hN : Array.setIfInBounds (Array.push _ _) _ _ = G3
  obtain ⟨hx2, b3⟩ := new1 hN
  have hb2l := blk_lt b2
  (try replace b0:=hx2.blk b0);(try replace b1:=hx2.blk b1);(try replace b2:=hx2.blk b2);(try replace b3:=hx2.blk b3);(try replace hx:=hx.trans hx2);(try replace k0:=k0.mono hx2);(try replace k1:=k1.mono hx2);(try replace k2:=k2.mono hx2);(try replace k3:=k3.mono hx2);(try replace k4:=k4.mono hx2);(try replace k5:=k5.mono hx2);(try replace k6 := k6.mono hx2)
  clear hN
  obtain ⟨P, hP⟩ : ∃ P, P = G2.size := ⟨_, rfl⟩
  rw [← hP] at b3 hsz hb2l ⊢
  have hgl : lz (Int.gcd (valI i) (valI j) : Int) < 536870912 := by
    have h5 : Int.gcd (valI i) (valI j) ≤ (valI j).natAbs := Int.gcd_le_natAbs_right _ hj0
    have : lz (Int.gcd (valI i) (valI j) : Int) ≤ (digits (valI j).natAbs).length := digits_mono (by simpa using h5)
    omega
  simp [r_118_4, h0, b1]
  refine (num_Cmp_does k1 (j := (false, [])) ⟨_, rfl, Lim.nil⟩ hx.1 hm (by simp)).mono ?_
  rintro _ G2 ⟨rfl, hx2⟩
  (try replace b0:=hx2.blk b0);(try replace b1:=hx2.blk b1);(try replace b2:=hx2.blk b2);(try replace b3:=hx2.blk b3);(try replace hx:=hx.trans hx2);(try replace k0:=k0.mono hx2);(try replace k1:=k1.mono hx2);(try replace k2:=k2.mono hx2);(try replace k3:=k3.mono hx2);(try replace k4:=k4.mono hx2);(try replace k5:=k5.mono hx2);(try replace k6 := k6.mono hx2)
  have hv0 : valI (false, []) = 0 := by unfold valI mayB; simp [natL]
  rw [hv0]
  obtain ⟨g, hg⟩ : ∃ g, g = if valI j < 0 then -(Int.gcd (valI i) (valI j) : Int) else (Int.gcd (valI i) (valI j) : Int) := ⟨_, rfl⟩
  obtain ⟨hq, hg0⟩ := quo_canon (p := valI i) hj0 hg
  rw [hq]
  have hgl2 : lz g < 536870912 := by rw [hg]; split; rw [lz_neg]; exact hgl; exact hgl
  by_cases hneg : valI j < 0
  · have hcz : cmpZ (valI j) 0 < 0 := by unfold cmpZ; rw [if_pos hneg]; omega
    simp [hcz, r_118_5, h0, b3]
    refine (num_Neg_does (i := canonI (Int.gcd (valI i) (valI j))) ⟨s1, rfl, k2⟩ hx.1 (by rw [len_canonI]; omega)).mono ?_
    rintro _ G2 ⟨⟨s2, rfl, k6⟩, hx2⟩
    (try replace b0:=hx2.blk b0);(try replace b1:=hx2.blk b1);(try replace b2:=hx2.blk b2);(try replace b3:=hx2.blk b3);(try replace hx:=hx.trans hx2);(try replace k0:=k0.mono hx2);(try replace k1:=k1.mono hx2);(try replace k2:=k2.mono hx2);(try replace k3:=k3.mono hx2);(try replace k4:=k4.mono hx2);(try replace k5:=k5.mono hx2);(try replace k6 := k6.mono hx2)
    rw [val_canon] at k6 ⊢
    rw [if_pos hneg] at hg
    rw [← hg] at k6 ⊢
    have hz := blk_lt b3
    simp [h0, b3, k6.cells, k6.plain, hsz]
    generalize hS : Array.setIfInBounds _ _ _ = G3
    have hsz := hx.1; (try replace k0 := k0.setS hS b3 (by decide)); (try replace k1 := k1.setS hS b3 (by decide)); (try replace k2 := k2.setS hS b3 (by decide)); (try replace k3 := k3.setS hS b3 (by decide)); (try replace k4 := k4.setS hS b3 (by decide)); (try replace k5 := k5.setS hS b3 (by decide)); (try replace k6 := k6.setS hS b3 (by decide)); (try replace b0 := set_keep hS b0 (by omega)); (try replace b1 := set_keep hS b1 (by omega)); (try replace b2 := set_keep hS b2 (by omega)); (try replace hx := set_ext hS hx (by omega)); replace b3 := set_new hS b3; clear hS hsz
    clear k2
    have k2 := k6
    clear k6
    obtain ⟨s1, rfl⟩ : ∃ s1, s1 = s2 := ⟨_, rfl⟩
    simp [r_118_6, h0, b0, b3]
    refine (num_Div_does k0 ⟨s1, rfl, k2⟩ hx.1 hn (by rw [len_canonI]; exact hgl2) (by rw [val_canon]; exact hg0)).mono ?_
    rintro _ G2 ⟨⟨_, _, rfl, ⟨s3, rfl, k3⟩, k4⟩, hx2⟩
    (try replace b0:=hx2.blk b0);(try replace b1:=hx2.blk b1);(try replace b2:=hx2.blk b2);(try replace b3:=hx2.blk b3);(try replace hx:=hx.trans hx2);(try replace k0:=k0.mono hx2);(try replace k1:=k1.mono hx2);(try replace k2:=k2.mono hx2);(try replace k3:=k3.mono hx2);(try replace k4:=k4.mono hx2);(try replace k5:=k5.mono hx2);(try replace k6 := k6.mono hx2)
    rw [val_canon] at k3 ⊢
    have hz := blk_lt b0
    simp [h0, b0, k3.cells, k3.plain, hz]
    generalize hS : Array.setIfInBounds _ _ _ = G3
    have hsz := hx.1; (try replace k0 := k0.setS hS b0 (by decide)); (try replace k1 := k1.setS hS b0 (by decide)); (try replace k2 := k2.setS hS b0 (by decide)); (try replace k3 := k3.setS hS b0 (by decide)); (try replace k4 := k4.setS hS b0 (by decide)); (try replace k5 := k5.setS hS b0 (by decide)); (try replace k6 := k6.setS hS b0 (by decide)); (try replace b1 := set_keep hS b1 (by omega)); (try replace b2 := set_keep hS b2 (by omega)); (try replace b3 := set_keep hS b3 (by omega)); (try replace hx := set_ext hS hx (by omega)); replace b0 := set_new hS b0; clear hS hsz
    simp [r_118_7, h0, b1, b3]
    refine (num_Div_does k1 ⟨s1, rfl, k2⟩ hx.1 hm (by rw [len_canonI]; exact hgl2) (by rw [val_canon]; exact hg0)).mono ?_
    rintro _ G2 ⟨⟨_, _, rfl, ⟨s4, rfl, k4⟩, k5⟩, hx2⟩
    (try replace b0:=hx2.blk b0);(try replace b1:=hx2.blk b1);(try replace b2:=hx2.blk b2);(try replace b3:=hx2.blk b3);(try replace hx:=hx.trans hx2);(try replace k0:=k0.mono hx2);(try replace k1:=k1.mono hx2);(try replace k2:=k2.mono hx2);(try replace k3:=k3.mono hx2);(try replace k4:=k4.mono hx2);(try replace k5:=k5.mono hx2);(try replace k6 := k6.mono hx2)
    rw [val_canon] at k4 ⊢
    have hz := blk_lt b1
    simp [h0, b1, k4.cells, k4.plain, hz]
    generalize hS : Array.setIfInBounds _ _ _ = G3
    have hsz := hx.1; (try replace k0 := k0.setS hS b1 (by decide)); (try replace k1 := k1.setS hS b1 (by decide)); (try replace k2 := k2.setS hS b1 (by decide)); (try replace k3 := k3.setS hS b1 (by decide)); (try replace k4 := k4.setS hS b1 (by decide)); (try replace k5 := k5.setS hS b1 (by decide)); (try replace k6 := k6.setS hS b1 (by decide)); (try replace b0 := set_keep hS b0 (by omega)); (try replace b2 := set_keep hS b2 (by omega)); (try replace b3 := set_keep hS b3 (by omega)); (try replace hx := set_ext hS hx (by omega)); replace b1 := set_new hS b1; clear hS hsz
    have hz := blk_lt b2
    simp [r_118_8, h0, b0, b1, b2, k3.cells, k3.plain, k4.cells, k4.plain, hz]
    exact fun _ => ⟨s3, s4, rfl, k3.setT b2 (by decide), k4.setT b2 (by decide)⟩
  · have hcz : ¬ cmpZ (valI j) 0 < 0 := by unfold cmpZ; rw [if_neg hneg]; split <;> omega
    rw [if_neg hneg] at hg
    rw [← hg] at k2 b3
    simp [hcz]
    simp [r_118_6, h0, b0, b3]
    refine (num_Div_does k0 ⟨s1, rfl, k2⟩ hx.1 hn (by rw [len_canonI]; exact hgl2) (by rw [val_canon]; exact hg0)).mono ?_
    rintro _ G2 ⟨⟨_, _, rfl, ⟨s3, rfl, k3⟩, k4⟩, hx2⟩
    (try replace b0:=hx2.blk b0);(try replace b1:=hx2.blk b1);(try replace b2:=hx2.blk b2);(try replace b3:=hx2.blk b3);(try replace hx:=hx.trans hx2);(try replace k0:=k0.mono hx2);(try replace k1:=k1.mono hx2);(try replace k2:=k2.mono hx2);(try replace k3:=k3.mono hx2);(try replace k4:=k4.mono hx2);(try replace k5:=k5.mono hx2);(try replace k6 := k6.mono hx2)
    rw [val_canon] at k3 ⊢
    have hz := blk_lt b0
    simp [h0, b0, k3.cells, k3.plain, hz]
    generalize hS : Array.setIfInBounds _ _ _ = G3
    have hsz := hx.1; (try replace k0 := k0.setS hS b0 (by decide)); (try replace k1 := k1.setS hS b0 (by decide)); (try replace k2 := k2.setS hS b0 (by decide)); (try replace k3 := k3.setS hS b0 (by decide)); (try replace k4 := k4.setS hS b0 (by decide)); (try replace k5 := k5.setS hS b0 (by decide)); (try replace k6 := k6.setS hS b0 (by decide)); (try replace b1 := set_keep hS b1 (by omega)); (try replace b2 := set_keep hS b2 (by omega)); (try replace b3 := set_keep hS b3 (by omega)); (try replace hx := set_ext hS hx (by omega)); replace b0 := set_new hS b0; clear hS hsz
    simp [r_118_7, h0, b1, b3]
    refine (num_Div_does k1 ⟨s1, rfl, k2⟩ hx.1 hm (by rw [len_canonI]; exact hgl2) (by rw [val_canon]; exact hg0)).mono ?_
    rintro _ G2 ⟨⟨_, _, rfl, ⟨s4, rfl, k4⟩, k5⟩, hx2⟩
    (try replace b0:=hx2.blk b0);(try replace b1:=hx2.blk b1);(try replace b2:=hx2.blk b2);(try replace b3:=hx2.blk b3);(try replace hx:=hx.trans hx2);(try replace k0:=k0.mono hx2);(try replace k1:=k1.mono hx2);(try replace k2:=k2.mono hx2);(try replace k3:=k3.mono hx2);(try replace k4:=k4.mono hx2);(try replace k5:=k5.mono hx2);(try replace k6 := k6.mono hx2)
    rw [val_canon] at k4 ⊢
    have hz := blk_lt b1
    simp [h0, b1, k4.cells, k4.plain, hz]
    generalize hS : Array.setIfInBounds _ _ _ = G3
    have hsz := hx.1; (try replace k0 := k0.setS hS b1 (by decide)); (try replace k1 := k1.setS hS b1 (by decide)); (try replace k2 := k2.setS hS b1 (by decide)); (try replace k3 := k3.setS hS b1 (by decide)); (try replace k4 := k4.setS hS b1 (by decide)); (try replace k5 := k5.setS hS b1 (by decide)); (try replace k6 := k6.setS hS b1 (by decide)); (try replace b0 := set_keep hS b0 (by omega)); (try replace b2 := set_keep hS b2 (by omega)); (try replace b3 := set_keep hS b3 (by omega)); (try replace hx := set_ext hS hx (by omega)); replace b1 := set_new hS b1; clear hS hsz
    have hz := blk_lt b2
    simp [r_118_8, h0, b0, b1, b2, k3.cells, k3.plain, k4.cells, k4.plain, hz]
    exact fun _ => ⟨s3, s4, rfl, k3.setT b2 (by decide), k4.setT b2 (by decide)⟩
end Go.Proofs.YtjlohmnnldbjoaaGreat.AI

/- rat: least, fold, Add, Mul, Cmp, Of. -/
namespace Go.Proofs.YtjlohmnnldbjoaaGreat.AI
open Go
set_option maxHeartbeats 4000000

variable {fl : Nat} {H G : Heap} {R : PostP} {v w : Value} {i j : Bool × List Nat} {a b : RawR}

theorem RatV.p (h : RatV H v a) : ∃ s u, v = .agg #[.bool a.1.1, s, .bool a.2.1, u] ∧ Lim H s a.1.2 ∧ Lim H u a.2.2 ∧ IntV H (.agg #[.bool a.1.1, s]) a.1 ∧ IntV H (.agg #[.bool a.2.1, u]) a.2 := by
  obtain ⟨s, u, h1, h2, h3⟩ := h; exact ⟨s, u, h1, h2, h3, ⟨s, rfl, h2⟩, ⟨u, rfl, h3⟩⟩
theorem RatV.ok (h : RatV H v a) : LimOk a.1.2 ∧ LimOk a.2.2 := by obtain ⟨s, u, _, h2, h3⟩ := h; exact ⟨h2.ok, h3.ok⟩
theorem szR_num (x : Rat) : lz x.num ≤ szR x := by unfold szR; omega
theorem szR_den (x : Rat) : lz x.den ≤ szR x := by unfold szR; omega

theorem rat_least_does (h : IntV H v i) (k : IntV H w j) (hf : fl ≤ H.size) (hn : i.2.length < 536870912) (hm : j.2.length < 536870912) (hj0 : valI j ≠ 0) :
    Does env fl f_86 [v, w] H (fun r H' => RatV H' r (canonR (Rat.divInt (valI i) (valI j))) ∧ Ext H H') R := by
  have k0 := h
  have k1 := k
  obtain ⟨s, rfl, hs⟩ := h
  obtain ⟨u, rfl, hu⟩ := k
  refine does_ext e_86 hf (h := ?_)
  intro ρ h0
  simp [s_86, r_86_0, h0]
  generalize hG : Array.push (Array.push (Array.push H _) _) _ = G
  have hx : Ext H G := by rw [← hG]; exact (Ext.refl H).push.push.push
  have b0 : Heap.blk G H.size = .row false T_api_Int [.bool i.1, s] := by rw [← hG]; simp
  have b1 : Heap.blk G (H.size + 1) = .row false T_api_Int [.bool j.1, u] := by rw [← hG]; simp
  have b2 : Heap.blk G (H.size + 2) = .row false T_api_Rat [.bool false, .slice none 0 0, .bool false, .slice none 0 0] := by rw [← hG]; simp
  clear hG
  replace k0 := k0.mono hx
  replace k1 := k1.mono hx
  simp [r_86_1, h0, b0, b1]
  refine (rat_Quo_does k0 k1 hx.1 hn hm hj0).mono ?_
  rintro _ G2 ⟨⟨q, rfl, s1, s2, rfl, k2, k3⟩, hx2⟩
  (try replace b0:=hx2.blk b0);(try replace b1:=hx2.blk b1);(try replace b2:=hx2.blk b2);(try replace b3:=hx2.blk b3);(try replace hx:=hx.trans hx2);(try replace k0:=k0.mono hx2);(try replace k1:=k1.mono hx2);(try replace k2:=k2.mono hx2);(try replace k3 := k3.mono hx2)
  have hsz := hx.1
  simp [h0, k2.cells, k2.plain, k3.cells, k3.plain, hsz]
  generalize hN : Array.setIfInBounds (Array.push _ _) _ _ = G3
  obtain ⟨hx2, b3⟩ := new1 hN
  clear hN
  (try replace b0:=hx2.blk b0);(try replace b1:=hx2.blk b1);(try replace b2:=hx2.blk b2);(try replace b3:=hx2.blk b3);(try replace hx:=hx.trans hx2);(try replace k0:=k0.mono hx2);(try replace k1:=k1.mono hx2);(try replace k2:=k2.mono hx2);(try replace k3 := k3.mono hx2)
  have hz := blk_lt b2
  simp [r_86_2, h0, b2, b3, k2.cells, k2.plain, k3.cells, k3.plain, hz]
  exact fun _ => ⟨s1, s2, rfl, k2.setT b2 (by decide), k3.setT b2 (by decide)⟩

theorem rat_fold_add_does (h : IntV H v i) (hl : IntV H w j) {c : Nat} {p : Nat} (hb : H.blk p = .row false T_api_Int (cellsL w)) (hf : fl ≤ H.size) (hn : i.2.length < 536870912) (hm : j.2.length < 536870912) :
    Does env fl f_87 [.func (.func f_88) #[] #[], v, .slice (some ⟨p, 0, none⟩) 1 c] H (fun r H' => IntV H' r (canonI (valI i + valI j)) ∧ Ext H H') R := by
  have k0 := h
  have k1 := hl
  obtain ⟨s, rfl, hs⟩ := h
  obtain ⟨u, rfl, hu⟩ := hl
  simp at hb
  refine does_ext e_87 hf (h := ?_)
  intro ρ h0
  have hpl := blk_lt hb
  simp [s_87, r_87_0, r_87_1, h0, slenV]
  generalize hG : Array.push (Array.push H _) _ = G
  have hx2 : Ext H G := by rw [← hG]; exact (Ext.refl H).push.push
  have b0 : Heap.blk G H.size = .row false T_api_Int [.bool i.1, s] := by rw [← hG]; simp
  have b1 : Heap.blk G (H.size + 1) = .row false T_api_Int [.bool false, .slice none 0 0] := by rw [← hG]; simp
  have b2 : Heap.blk G p = .row false T_api_Int [.bool j.1, u] := hx2.blk hb
  have hx := hx2
  clear hG
  replace k0 := k0.mono hx2
  replace k1 := k1.mono hx2
  clear hb
  refine W_loopM (fun c' t G => ∃ n : Nat, n + c' = 1 ∧ t.length = 21 ∧ get t 0 = .func (.func f_88) #[] #[] ∧ get t 4 = .pointer (some ⟨H.size, 0, none⟩) ∧ get t 6 = .pointer (some ⟨H.size + 1, 0, none⟩) ∧ get t 9 = .slice (some ⟨p, 0, none⟩) 1 c ∧ get t 10 = .int .i64 1 ∧ get t 11 = .int .i64 (n : Int) ∧
      Ext H G ∧ Heap.blk G (H.size + 1) = .row false T_api_Int [.bool false, .slice none 0 0] ∧
      (n = 0 → Heap.blk G H.size = .row false T_api_Int [.bool i.1, s] ∧ Heap.blk G p = .row false T_api_Int [.bool j.1, u] ∧ IntV G (.agg #[.bool i.1, s]) i ∧ IntV G (.agg #[.bool j.1, u]) j) ∧
      (n = 1 → ∃ s2, Heap.blk G H.size = .row false T_api_Int [.bool (canonI (valI i + valI j)).1, s2] ∧ Lim G s2 (canonI (valI i + valI j)).2))
    (fun t G => ∃ s2, t.length = 21 ∧ get t 4 = .pointer (some ⟨H.size, 0, none⟩) ∧ get t 6 = .pointer (some ⟨H.size + 1, 0, none⟩) ∧ Ext H G ∧ Heap.blk G (H.size + 1) = .row false T_api_Int [.bool false, .slice none 0 0] ∧
      Heap.blk G H.size = .row false T_api_Int [.bool (canonI (valI i + valI j)).1, s2] ∧ Lim G s2 (canonI (valI i + valI j)).2) 1 ?_ ?_ ?_
  · exact ⟨0, rfl, by simp, by simp [h0], by simp, by simp, by simp [h0], by simp, by simp, hx, b1, fun _ => ⟨b0, b2, k0, k1⟩, by omega⟩
  · clear h0 ρ k0 k1 b0 b1 b2 hx hx2 G
    rintro c' t G ⟨n, hnc, ht, g0, g4, g6, g9, g10, g11, hx, b1, hc0, hc1⟩
    obtain ⟨ρ, rfl⟩ := toT ht
    simp only [get_T, Nat.reduceLT] at g0 g4 g6 g9 g10 g11
    by_cases hn0 : n = 0
    · subst hn0
      obtain ⟨b0, b2, k0, k1⟩ := hc0 rfl
      have hlt := hx.1
      have hbl := blk_lt b1
      have e9 : IntKind.i64.wrap ((0 : Int) + 1) = 1 := by decide
      simp [r_87_2, r_87_3, g0, g4, g6, g9, g10, g11, iaV, b2]
      have hc : (cellsL (Value.agg #[.bool j.1, u])).length = 2 := rfl
      simp [hu.cells, hu.plain, hlt]
      generalize hN : Array.setIfInBounds (Array.push _ _) _ _ = G3
      obtain ⟨hx2, b3⟩ := new1 hN
      clear hN
      (try replace b0:=hx2.blk b0);(try replace b1:=hx2.blk b1);(try replace b2:=hx2.blk b2);(try replace b3:=hx2.blk b3);(try replace hx:=hx.trans hx2);(try replace k0:=k0.mono hx2);(try replace k1:=k1.mono hx2);(try replace k2 := k2.mono hx2)
      simp [r_87_4, r_87_5, g0, g4, g6, g9, g10, g11, b0, b3]
      refine (num_Add_does k0 k1 hx.1 hn hm).mono ?_
      rintro _ G2 ⟨⟨s2, rfl, k2⟩, hx2⟩
      (try replace b0:=hx2.blk b0);(try replace b1:=hx2.blk b1);(try replace b2:=hx2.blk b2);(try replace b3:=hx2.blk b3);(try replace hx:=hx.trans hx2);(try replace k0:=k0.mono hx2);(try replace k1:=k1.mono hx2);(try replace k2 := k2.mono hx2)
      have hz := blk_lt b0
      simp [g0, g4, g6, g9, g10, g11, b0, k2.cells, k2.plain, hz, e9]
      exact ⟨0, by omega, 1, rfl, rfl, hx.set (by omega), b1, by omega, fun _ => k2.setT b0 (by decide)⟩
    · have : n = 1 := by omega
      subst this
      obtain ⟨s2, b0, k0⟩ := hc1 rfl
      simp [r_87_2, g0, g4, g6, g9, g10, g11]
      exact ⟨hx, b1, s2, b0, k0⟩
  · clear h0 ρ k0 k1 b0 b1 b2 hx hx2 G
    rintro t G ⟨s2, ht, g4, g6, hx, b1, b0, k0⟩
    obtain ⟨ρ, rfl⟩ := toT ht
    simp only [get_T, Nat.reduceLT] at g4 g6
    have hz := blk_lt b1
    simp [r_87_6, g4, g6, b0, b1, k0.cells, k0.plain, hz]
    exact fun _ => ⟨s2, rfl, k0.setT b1 (by decide)⟩

theorem rat_Add_does (h : RatV H v a) (k : RatV H w b) (hf : fl ≤ H.size) (hn : lenR a < 67108864) (hm : lenR b < 67108864) :
    Does env fl f_51 [v, w] H (fun r H' => RatV H' r (canonR (valR a + valR b)) ∧ Ext H H') R := by
  have k0 := h
  have k1 := k
  obtain ⟨s, u, rfl, hs, hu⟩ := h
  obtain ⟨s', u', rfl, hs', hu'⟩ := k
  refine does_ext e_51 hf (h := ?_)
  intro ρ h0
  simp [s_51, r_51_0, h0]
  generalize hG : Array.push (Array.push (Array.push H _) _) _ = G
  have hx : Ext H G := by rw [← hG]; exact (Ext.refl H).push.push.push
  have b0 : Heap.blk G H.size = .row false T_api_Rat [.bool a.1.1, s, .bool a.2.1, u] := by rw [← hG]; simp
  have b1 : Heap.blk G (H.size + 1) = .row false T_api_Rat [.bool b.1.1, s', .bool b.2.1, u'] := by rw [← hG]; simp
  have b2 : Heap.blk G (H.size + 2) = .row false T_api_Rat [.bool false, .slice none 0 0, .bool false, .slice none 0 0] := by rw [← hG]; simp
  clear hG
  replace k0 := k0.mono hx
  replace k1 := k1.mono hx
  have sa := szR_val k0.ok.1 k0.ok.2
  have sb := szR_val k1.ok.1 k1.ok.2
  refine W_draw ?_
  simp [r_51_1, h0, b0, b1]
  refine (rat_right_does k0 (by have := hx.1; omega) (by omega)).mono ?_
  rintro _ G2 ⟨⟨s1, s2, rfl, k2, k3⟩, hx2⟩
  (try replace b0:=hx2.blk b0);(try replace b1:=hx2.blk b1);(try replace b2:=hx2.blk b2);(try replace b3:=hx2.blk b3);(try replace hx:=hx.trans hx2);(try replace k0:=k0.mono hx2);(try replace k1:=k1.mono hx2);(try replace k2:=k2.mono hx2);(try replace k3:=k3.mono hx2);(try replace k4:=k4.mono hx2);(try replace k5:=k5.mono hx2);(try replace k6:=k6.mono hx2);(try replace k7 := k7.mono hx2)
  simp [h0, b1]
  refine (rat_right_does k1 hx.1 (by omega)).mono ?_
  rintro _ G2 ⟨⟨s3, s4, rfl, k4, k5⟩, hx2⟩
  (try replace b0:=hx2.blk b0);(try replace b1:=hx2.blk b1);(try replace b2:=hx2.blk b2);(try replace b3:=hx2.blk b3);(try replace hx:=hx.trans hx2);(try replace k0:=k0.mono hx2);(try replace k1:=k1.mono hx2);(try replace k2:=k2.mono hx2);(try replace k3:=k3.mono hx2);(try replace k4:=k4.mono hx2);(try replace k5:=k5.mono hx2);(try replace k6:=k6.mono hx2);(try replace k7 := k7.mono hx2)
  clear k0 k1
  have hz0 := blk_lt b0
  simp [h0, b0, k2.cells, k2.plain, k3.cells, k3.plain, hz0]
  generalize hS : Array.setIfInBounds _ _ _ = G3
  have hsz := hx.1; (try replace k0 := k0.setS hS b0 (by decide)); (try replace k1 := k1.setS hS b0 (by decide)); (try replace k2 := k2.setS hS b0 (by decide)); (try replace k3 := k3.setS hS b0 (by decide)); (try replace k4 := k4.setS hS b0 (by decide)); (try replace k5 := k5.setS hS b0 (by decide)); (try replace k6 := k6.setS hS b0 (by decide)); (try replace k7 := k7.setS hS b0 (by decide)); (try replace b1 := set_keep hS b1 (by omega)); (try replace b2 := set_keep hS b2 (by omega)); (try replace b3 := set_keep hS b3 (by omega)); (try replace hx := set_ext hS hx (by omega)); replace b0 := set_new hS b0; clear hS hsz
  have hz0 := blk_lt b1
  simp [b1, k4.cells, k4.plain, k5.cells, k5.plain, hz0]
  generalize hS : Array.setIfInBounds _ _ _ = G3
  have hsz := hx.1; (try replace k0 := k0.setS hS b1 (by decide)); (try replace k1 := k1.setS hS b1 (by decide)); (try replace k2 := k2.setS hS b1 (by decide)); (try replace k3 := k3.setS hS b1 (by decide)); (try replace k4 := k4.setS hS b1 (by decide)); (try replace k5 := k5.setS hS b1 (by decide)); (try replace k6 := k6.setS hS b1 (by decide)); (try replace k7 := k7.setS hS b1 (by decide)); (try replace b0 := set_keep hS b0 (by omega)); (try replace b2 := set_keep hS b2 (by omega)); (try replace b3 := set_keep hS b3 (by omega)); (try replace hx := set_ext hS hx (by omega)); replace b1 := set_new hS b1; clear hS hsz
  obtain ⟨x, hxv⟩ : ∃ x, x = valR a := ⟨_, rfl⟩
  obtain ⟨y, hyv⟩ : ∃ y, y = valR b := ⟨_, rfl⟩
  rw [← hxv] at sa k2 k3 b0 ⊢
  rw [← hyv] at sb k4 k5 b1 ⊢
  have k0 : IntV _ (.agg #[.bool (canonR x).1.1, s1]) (canonI x.num) := ⟨s1, rfl, k2⟩
  have k1 : IntV _ (.agg #[.bool (canonR x).2.1, s2]) (canonI x.den) := ⟨s2, rfl, k3⟩
  have k6 : IntV _ (.agg #[.bool (canonR y).1.1, s3]) (canonI y.num) := ⟨s3, rfl, k4⟩
  have k7 : IntV _ (.agg #[.bool (canonR y).2.1, s4]) (canonI y.den) := ⟨s4, rfl, k5⟩
  have l1 := szR_num x
  have l2 := szR_den x
  have l3 := szR_num y
  have l4 := szR_den y
  clear hs hu hs' hu' k2 k3 k4 k5
  refine W_draw ?_
  simp [r_51_2, h0, b0, b1]
  refine (num_Mul_does k0 k7 (by have := hx.1; omega) (by rw [len_canonI]; omega) (by rw [len_canonI]; omega)).mono ?_
  rintro _ G2 ⟨k2, hx2⟩
  (try replace b0:=hx2.blk b0);(try replace b1:=hx2.blk b1);(try replace b2:=hx2.blk b2);(try replace b3:=hx2.blk b3);(try replace hx:=hx.trans hx2);(try replace k0:=k0.mono hx2);(try replace k1:=k1.mono hx2);(try replace k2:=k2.mono hx2);(try replace k3:=k3.mono hx2);(try replace k4:=k4.mono hx2);(try replace k5:=k5.mono hx2);(try replace k6:=k6.mono hx2);(try replace k7 := k7.mono hx2)
  rw [val_canon, val_canon] at k2
  simp [h0, b0, b1]
  refine (num_Mul_does k6 k1 (by have := hx.1; omega) (by rw [len_canonI]; omega) (by rw [len_canonI]; omega)).mono ?_
  rintro _ G2 ⟨k3, hx2⟩
  (try replace b0:=hx2.blk b0);(try replace b1:=hx2.blk b1);(try replace b2:=hx2.blk b2);(try replace b3:=hx2.blk b3);(try replace hx:=hx.trans hx2);(try replace k0:=k0.mono hx2);(try replace k1:=k1.mono hx2);(try replace k2:=k2.mono hx2);(try replace k3:=k3.mono hx2);(try replace k4:=k4.mono hx2);(try replace k5:=k5.mono hx2);(try replace k6:=k6.mono hx2);(try replace k7 := k7.mono hx2)
  rw [val_canon, val_canon] at k3
  obtain ⟨s5, hk3, k3'⟩ := k3
  subst hk3
  simp [h0, k3'.cells]
  generalize hN : Array.push _ _ = G3
  obtain ⟨hx2, b3⟩ := new0 hN
  have hGs : G3.size = G2.size + 1 := by rw [← hN]; simp
  clear hN
  have k3 : IntV G2 (.agg #[.bool (canonI (y.num * x.den)).1, s5]) (canonI (y.num * x.den)) := ⟨s5, rfl, k3'⟩
  (try replace b0:=hx2.blk b0);(try replace b1:=hx2.blk b1);(try replace b2:=hx2.blk b2);(try replace b3:=hx2.blk b3);(try replace hx:=hx.trans hx2);(try replace k0:=k0.mono hx2);(try replace k1:=k1.mono hx2);(try replace k2:=k2.mono hx2);(try replace k3:=k3.mono hx2);(try replace k4:=k4.mono hx2);(try replace k5:=k5.mono hx2);(try replace k6:=k6.mono hx2);(try replace k7 := k7.mono hx2)
  have m1 := lz_mul x.num y.den
  have m2 := lz_mul y.num x.den
  refine (rat_fold_add_does k2 k3 (by simpa using b3) (by have := hx.1; omega) (by rw [len_canonI]; omega) (by rw [len_canonI]; omega)).mono ?_
  rintro _ G2 ⟨k4, hx2⟩
  (try replace b0:=hx2.blk b0);(try replace b1:=hx2.blk b1);(try replace b2:=hx2.blk b2);(try replace b3:=hx2.blk b3);(try replace hx:=hx.trans hx2);(try replace k0:=k0.mono hx2);(try replace k1:=k1.mono hx2);(try replace k2:=k2.mono hx2);(try replace k3:=k3.mono hx2);(try replace k4:=k4.mono hx2);(try replace k5:=k5.mono hx2);(try replace k6:=k6.mono hx2);(try replace k7 := k7.mono hx2)
  rw [val_canon, val_canon] at k4
  simp [h0, b0, b1]
  refine (num_Mul_does k1 k7 hx.1 (by rw [len_canonI]; omega) (by rw [len_canonI]; omega)).mono ?_
  rintro _ G2 ⟨k5, hx2⟩
  (try replace b0:=hx2.blk b0);(try replace b1:=hx2.blk b1);(try replace b2:=hx2.blk b2);(try replace b3:=hx2.blk b3);(try replace hx:=hx.trans hx2);(try replace k0:=k0.mono hx2);(try replace k1:=k1.mono hx2);(try replace k2:=k2.mono hx2);(try replace k3:=k3.mono hx2);(try replace k4:=k4.mono hx2);(try replace k5:=k5.mono hx2);(try replace k6:=k6.mono hx2);(try replace k7 := k7.mono hx2)
  rw [val_canon, val_canon] at k5
  simp [h0]
  have m3 := lz_add (x.num * y.den) (y.num * x.den)
  have m4 := lz_mul (x.den : Int) y.den
  refine (rat_least_does k4 k5 hx.1 (by rw [len_canonI]; omega) (by rw [len_canonI]; omega) (by rw [val_canon]; have := x.den_nz; have := y.den_nz; exact Int.mul_ne_zero (by omega) (by omega))).mono ?_
  rintro _ G2 ⟨⟨s6, s7, rfl, k6, k7⟩, hx2⟩
  (try replace b0:=hx2.blk b0);(try replace b1:=hx2.blk b1);(try replace b2:=hx2.blk b2);(try replace b3:=hx2.blk b3);(try replace hx:=hx.trans hx2);(try replace k0:=k0.mono hx2);(try replace k1:=k1.mono hx2);(try replace k2:=k2.mono hx2);(try replace k3:=k3.mono hx2);(try replace k4:=k4.mono hx2);(try replace k5:=k5.mono hx2);(try replace k6:=k6.mono hx2);(try replace k7 := k7.mono hx2)
  rw [val_canon, val_canon, ← add_divInt] at k6 k7 ⊢
  have hz := blk_lt b2
  simp [h0, b2, k6.cells, k6.plain, k7.cells, k7.plain, hz]
  exact fun _ => ⟨s6, s7, rfl, k6.setT b2 (by decide), k7.setT b2 (by decide)⟩

theorem rat_Mul_does (h : RatV H v a) (k : RatV H w b) (hf : fl ≤ H.size) (hn : lenR a < 67108864) (hm : lenR b < 67108864) :
    Does env fl f_91 [v, w] H (fun r H' => RatV H' r (canonR (valR a * valR b)) ∧ Ext H H') R := by
  have k0 := h
  have k1 := k
  obtain ⟨s, u, rfl, hs, hu⟩ := h
  obtain ⟨s', u', rfl, hs', hu'⟩ := k
  refine does_ext e_91 hf (h := ?_)
  intro ρ h0
  simp [s_91, r_91_0, h0]
  generalize hG : Array.push (Array.push (Array.push H _) _) _ = G
  have hx : Ext H G := by rw [← hG]; exact (Ext.refl H).push.push.push
  have b0 : Heap.blk G H.size = .row false T_api_Rat [.bool a.1.1, s, .bool a.2.1, u] := by rw [← hG]; simp
  have b1 : Heap.blk G (H.size + 1) = .row false T_api_Rat [.bool b.1.1, s', .bool b.2.1, u'] := by rw [← hG]; simp
  have b2 : Heap.blk G (H.size + 2) = .row false T_api_Rat [.bool false, .slice none 0 0, .bool false, .slice none 0 0] := by rw [← hG]; simp
  clear hG
  replace k0 := k0.mono hx
  replace k1 := k1.mono hx
  have sa := szR_val k0.ok.1 k0.ok.2
  have sb := szR_val k1.ok.1 k1.ok.2
  refine W_draw ?_
  simp [r_91_1, h0, b0, b1]
  refine (rat_right_does k0 (by have := hx.1; omega) (by omega)).mono ?_
  rintro _ G2 ⟨⟨s1, s2, rfl, k2, k3⟩, hx2⟩
  (try replace b0:=hx2.blk b0);(try replace b1:=hx2.blk b1);(try replace b2:=hx2.blk b2);(try replace hx:=hx.trans hx2);(try replace k0:=k0.mono hx2);(try replace k1:=k1.mono hx2);(try replace k2:=k2.mono hx2);(try replace k3:=k3.mono hx2);(try replace k4:=k4.mono hx2);(try replace k5:=k5.mono hx2);(try replace k6:=k6.mono hx2);(try replace k7 := k7.mono hx2)
  simp [h0, b1]
  refine (rat_right_does k1 hx.1 (by omega)).mono ?_
  rintro _ G2 ⟨⟨s3, s4, rfl, k4, k5⟩, hx2⟩
  (try replace b0:=hx2.blk b0);(try replace b1:=hx2.blk b1);(try replace b2:=hx2.blk b2);(try replace hx:=hx.trans hx2);(try replace k0:=k0.mono hx2);(try replace k1:=k1.mono hx2);(try replace k2:=k2.mono hx2);(try replace k3:=k3.mono hx2);(try replace k4:=k4.mono hx2);(try replace k5:=k5.mono hx2);(try replace k6:=k6.mono hx2);(try replace k7 := k7.mono hx2)
  clear k0 k1
  have hz0 := blk_lt b0
  simp [h0, b0, k2.cells, k2.plain, k3.cells, k3.plain, hz0]
  generalize hS : Array.setIfInBounds _ _ _ = G3
  have hsz := hx.1; (try replace k0 := k0.setS hS b0 (by decide)); (try replace k1 := k1.setS hS b0 (by decide)); (try replace k2 := k2.setS hS b0 (by decide)); (try replace k3 := k3.setS hS b0 (by decide)); (try replace k4 := k4.setS hS b0 (by decide)); (try replace k5 := k5.setS hS b0 (by decide)); (try replace k6 := k6.setS hS b0 (by decide)); (try replace k7 := k7.setS hS b0 (by decide)); (try replace b1 := set_keep hS b1 (by omega)); (try replace b2 := set_keep hS b2 (by omega)); (try replace hx := set_ext hS hx (by omega)); replace b0 := set_new hS b0; clear hS hsz
  have hz0 := blk_lt b1
  simp [b1, k4.cells, k4.plain, k5.cells, k5.plain, hz0]
  generalize hS : Array.setIfInBounds _ _ _ = G3
  have hsz := hx.1; (try replace k0 := k0.setS hS b1 (by decide)); (try replace k1 := k1.setS hS b1 (by decide)); (try replace k2 := k2.setS hS b1 (by decide)); (try replace k3 := k3.setS hS b1 (by decide)); (try replace k4 := k4.setS hS b1 (by decide)); (try replace k5 := k5.setS hS b1 (by decide)); (try replace k6 := k6.setS hS b1 (by decide)); (try replace k7 := k7.setS hS b1 (by decide)); (try replace b0 := set_keep hS b0 (by omega)); (try replace b2 := set_keep hS b2 (by omega)); (try replace hx := set_ext hS hx (by omega)); replace b1 := set_new hS b1; clear hS hsz
  obtain ⟨x, hxv⟩ : ∃ x, x = valR a := ⟨_, rfl⟩
  obtain ⟨y, hyv⟩ : ∃ y, y = valR b := ⟨_, rfl⟩
  rw [← hxv] at sa k2 k3 b0 ⊢
  rw [← hyv] at sb k4 k5 b1 ⊢
  have k0 : IntV _ (.agg #[.bool (canonR x).1.1, s1]) (canonI x.num) := ⟨s1, rfl, k2⟩
  have k1 : IntV _ (.agg #[.bool (canonR x).2.1, s2]) (canonI x.den) := ⟨s2, rfl, k3⟩
  have k6 : IntV _ (.agg #[.bool (canonR y).1.1, s3]) (canonI y.num) := ⟨s3, rfl, k4⟩
  have k7 : IntV _ (.agg #[.bool (canonR y).2.1, s4]) (canonI y.den) := ⟨s4, rfl, k5⟩
  have l1 := szR_num x
  have l2 := szR_den x
  have l3 := szR_num y
  have l4 := szR_den y
  clear hs hu hs' hu' k2 k3 k4 k5
  refine W_draw ?_
  simp [r_91_2, h0, b0, b1]
  refine (num_Mul_does k0 k6 (by have := hx.1; omega) (by rw [len_canonI]; omega) (by rw [len_canonI]; omega)).mono ?_
  rintro _ G2 ⟨k2, hx2⟩
  (try replace b0:=hx2.blk b0);(try replace b1:=hx2.blk b1);(try replace b2:=hx2.blk b2);(try replace hx:=hx.trans hx2);(try replace k0:=k0.mono hx2);(try replace k1:=k1.mono hx2);(try replace k2:=k2.mono hx2);(try replace k3:=k3.mono hx2);(try replace k4:=k4.mono hx2);(try replace k5:=k5.mono hx2);(try replace k6:=k6.mono hx2);(try replace k7 := k7.mono hx2)
  rw [val_canon, val_canon] at k2
  simp [h0, b0, b1]
  refine (num_Mul_does k1 k7 hx.1 (by rw [len_canonI]; omega) (by rw [len_canonI]; omega)).mono ?_
  rintro _ G2 ⟨k5, hx2⟩
  (try replace b0:=hx2.blk b0);(try replace b1:=hx2.blk b1);(try replace b2:=hx2.blk b2);(try replace hx:=hx.trans hx2);(try replace k0:=k0.mono hx2);(try replace k1:=k1.mono hx2);(try replace k2:=k2.mono hx2);(try replace k3:=k3.mono hx2);(try replace k4:=k4.mono hx2);(try replace k5:=k5.mono hx2);(try replace k6:=k6.mono hx2);(try replace k7 := k7.mono hx2)
  rw [val_canon, val_canon] at k5
  simp [h0]
  have m3 := lz_mul x.num y.num
  have m4 := lz_mul (x.den : Int) y.den
  refine (rat_least_does k2 k5 hx.1 (by rw [len_canonI]; omega) (by rw [len_canonI]; omega) (by rw [val_canon]; have := x.den_nz; have := y.den_nz; exact Int.mul_ne_zero (by omega) (by omega))).mono ?_
  rintro _ G2 ⟨⟨s6, s7, rfl, k6, k7⟩, hx2⟩
  (try replace b0:=hx2.blk b0);(try replace b1:=hx2.blk b1);(try replace b2:=hx2.blk b2);(try replace hx:=hx.trans hx2);(try replace k0:=k0.mono hx2);(try replace k1:=k1.mono hx2);(try replace k2:=k2.mono hx2);(try replace k3:=k3.mono hx2);(try replace k4:=k4.mono hx2);(try replace k5:=k5.mono hx2);(try replace k6:=k6.mono hx2);(try replace k7 := k7.mono hx2)
  rw [val_canon, val_canon, ← mul_divInt] at k6 k7 ⊢
  have hz := blk_lt b2
  simp [h0, b2, k6.cells, k6.plain, k7.cells, k7.plain, hz]
  exact fun _ => ⟨s6, s7, rfl, k6.setT b2 (by decide), k7.setT b2 (by decide)⟩

theorem rat_Cmp_does (h : RatV H v a) (k : RatV H w b) (hf : fl ≤ H.size) (hn : lenR a < 67108864) (hm : lenR b < 67108864) :
    Does env fl f_93 [v, w] H (fun r H' => r = .int .i64 (cmpR (valR a) (valR b)) ∧ Ext H H') R := by
  have k0 := h
  have k1 := k
  obtain ⟨s, u, rfl, hs, hu⟩ := h
  obtain ⟨s', u', rfl, hs', hu'⟩ := k
  refine does_ext e_93 hf (h := ?_)
  intro ρ h0
  simp [s_93, r_93_0, h0]
  generalize hG : Array.push (Array.push H _) _ = G
  have hx : Ext H G := by rw [← hG]; exact (Ext.refl H).push.push
  have b0 : Heap.blk G H.size = .row false T_api_Rat [.bool a.1.1, s, .bool a.2.1, u] := by rw [← hG]; simp
  have b1 : Heap.blk G (H.size + 1) = .row false T_api_Rat [.bool b.1.1, s', .bool b.2.1, u'] := by rw [← hG]; simp
  clear hG
  replace k0 := k0.mono hx
  replace k1 := k1.mono hx
  have sa := szR_val k0.ok.1 k0.ok.2
  have sb := szR_val k1.ok.1 k1.ok.2
  refine W_draw ?_
  simp [r_93_1, h0, b0, b1]
  refine (rat_right_does k0 (by have := hx.1; omega) (by omega)).mono ?_
  rintro _ G2 ⟨⟨s1, s2, rfl, k2, k3⟩, hx2⟩
  (try replace b0:=hx2.blk b0);(try replace b1:=hx2.blk b1);(try replace hx:=hx.trans hx2);(try replace k0:=k0.mono hx2);(try replace k1:=k1.mono hx2);(try replace k2:=k2.mono hx2);(try replace k3:=k3.mono hx2);(try replace k4:=k4.mono hx2);(try replace k5:=k5.mono hx2);(try replace k6:=k6.mono hx2);(try replace k7 := k7.mono hx2)
  simp [h0, b1]
  refine (rat_right_does k1 hx.1 (by omega)).mono ?_
  rintro _ G2 ⟨⟨s3, s4, rfl, k4, k5⟩, hx2⟩
  (try replace b0:=hx2.blk b0);(try replace b1:=hx2.blk b1);(try replace hx:=hx.trans hx2);(try replace k0:=k0.mono hx2);(try replace k1:=k1.mono hx2);(try replace k2:=k2.mono hx2);(try replace k3:=k3.mono hx2);(try replace k4:=k4.mono hx2);(try replace k5:=k5.mono hx2);(try replace k6:=k6.mono hx2);(try replace k7 := k7.mono hx2)
  clear k0 k1
  have hz0 := blk_lt b0
  simp [h0, b0, k2.cells, k2.plain, k3.cells, k3.plain, hz0]
  generalize hS : Array.setIfInBounds _ _ _ = G3
  have hsz := hx.1; (try replace k0 := k0.setS hS b0 (by decide)); (try replace k1 := k1.setS hS b0 (by decide)); (try replace k2 := k2.setS hS b0 (by decide)); (try replace k3 := k3.setS hS b0 (by decide)); (try replace k4 := k4.setS hS b0 (by decide)); (try replace k5 := k5.setS hS b0 (by decide)); (try replace k6 := k6.setS hS b0 (by decide)); (try replace k7 := k7.setS hS b0 (by decide)); (try replace b1 := set_keep hS b1 (by omega)); (try replace hx := set_ext hS hx (by omega)); replace b0 := set_new hS b0; clear hS hsz
  have hz0 := blk_lt b1
  simp [b1, k4.cells, k4.plain, k5.cells, k5.plain, hz0]
  generalize hS : Array.setIfInBounds _ _ _ = G3
  have hsz := hx.1; (try replace k0 := k0.setS hS b1 (by decide)); (try replace k1 := k1.setS hS b1 (by decide)); (try replace k2 := k2.setS hS b1 (by decide)); (try replace k3 := k3.setS hS b1 (by decide)); (try replace k4 := k4.setS hS b1 (by decide)); (try replace k5 := k5.setS hS b1 (by decide)); (try replace k6 := k6.setS hS b1 (by decide)); (try replace k7 := k7.setS hS b1 (by decide)); (try replace b0 := set_keep hS b0 (by omega)); (try replace hx := set_ext hS hx (by omega)); replace b1 := set_new hS b1; clear hS hsz
  obtain ⟨x, hxv⟩ : ∃ x, x = valR a := ⟨_, rfl⟩
  obtain ⟨y, hyv⟩ : ∃ y, y = valR b := ⟨_, rfl⟩
  rw [← hxv] at sa k2 k3 b0 ⊢
  rw [← hyv] at sb k4 k5 b1 ⊢
  have k0 : IntV _ (.agg #[.bool (canonR x).1.1, s1]) (canonI x.num) := ⟨s1, rfl, k2⟩
  have k1 : IntV _ (.agg #[.bool (canonR x).2.1, s2]) (canonI x.den) := ⟨s2, rfl, k3⟩
  have k6 : IntV _ (.agg #[.bool (canonR y).1.1, s3]) (canonI y.num) := ⟨s3, rfl, k4⟩
  have k7 : IntV _ (.agg #[.bool (canonR y).2.1, s4]) (canonI y.den) := ⟨s4, rfl, k5⟩
  have l1 := szR_num x
  have l2 := szR_den x
  have l3 := szR_num y
  have l4 := szR_den y
  clear hs hu hs' hu' k2 k3 k4 k5
  refine W_draw ?_
  simp [r_93_2, h0, b0, b1]
  refine (num_Mul_does k0 k7 (by have := hx.1; omega) (by rw [len_canonI]; omega) (by rw [len_canonI]; omega)).mono ?_
  rintro _ G2 ⟨k2, hx2⟩
  (try replace b0:=hx2.blk b0);(try replace b1:=hx2.blk b1);(try replace hx:=hx.trans hx2);(try replace k0:=k0.mono hx2);(try replace k1:=k1.mono hx2);(try replace k2:=k2.mono hx2);(try replace k3:=k3.mono hx2);(try replace k4:=k4.mono hx2);(try replace k5:=k5.mono hx2);(try replace k6:=k6.mono hx2);(try replace k7 := k7.mono hx2)
  rw [val_canon, val_canon] at k2
  simp [h0, b0, b1]
  refine (num_Mul_does k6 k1 hx.1 (by rw [len_canonI]; omega) (by rw [len_canonI]; omega)).mono ?_
  rintro _ G2 ⟨k5, hx2⟩
  (try replace b0:=hx2.blk b0);(try replace b1:=hx2.blk b1);(try replace hx:=hx.trans hx2);(try replace k0:=k0.mono hx2);(try replace k1:=k1.mono hx2);(try replace k2:=k2.mono hx2);(try replace k3:=k3.mono hx2);(try replace k4:=k4.mono hx2);(try replace k5:=k5.mono hx2);(try replace k6:=k6.mono hx2);(try replace k7 := k7.mono hx2)
  rw [val_canon, val_canon] at k5
  simp [h0]
  have m3 := lz_mul x.num y.den
  have m4 := lz_mul y.num x.den
  refine (num_Cmp_does k2 k5 hx.1 (by rw [len_canonI]; omega) (by rw [len_canonI]; omega)).mono ?_
  rintro _ G2 ⟨rfl, hx2⟩
  rw [val_canon, val_canon, cmp_num]
  simp

theorem rat_Of_does {n : Int} (hf : fl ≤ H.size) (h1 : -9223372036854775808 ≤ n) (h2 : n < 9223372036854775808) :
    Does env fl f_90 [.int .i64 n] H (fun r H' => RatV H' r (canonR (n : Rat)) ∧ Ext H H') R := by
  refine does_ext e_90 hf (h := ?_)
  intro ρ h0
  simp [s_90, r_90_0, r_90_1, h0]
  have hx := (Ext.refl H).push (r := .row false T_api_Rat [.bool false, .slice none 0 0, .bool false, .slice none 0 0])
  have b2 : Heap.blk (Array.push H (.row false T_api_Rat [.bool false, .slice none 0 0, .bool false, .slice none 0 0])) H.size = _ := blk_push_self
  generalize Array.push H _ = G at *
  refine (num_Of_does hx.1 h1 h2).mono ?_
  rintro _ G2 ⟨⟨s1, rfl, k2⟩, hx2⟩
  (try replace b2:=hx2.blk b2);(try replace hx:=hx.trans hx2);(try replace k2:=k2.mono hx2);(try replace k3 := k3.mono hx2)
  simp [h0]
  refine (rat_one_does hx.1).mono ?_
  rintro _ G2 ⟨⟨s2, rfl, k3⟩, hx2⟩
  (try replace b2:=hx2.blk b2);(try replace hx:=hx.trans hx2);(try replace k2:=k2.mono hx2);(try replace k3 := k3.mono hx2)
  have hz := blk_lt b2
  simp [h0, b2, k2.cells, k2.plain, k3.cells, k3.plain, hz]
  refine fun _ => ⟨s1, s2, ?_, ?_, ?_⟩
  · unfold canonR; rw [Rat.num_intCast, Rat.den_intCast]; rfl
  · unfold canonR; rw [Rat.num_intCast]; exact k2.setT b2 (by decide)
  · unfold canonR; rw [Rat.den_intCast]; exact k3.setT b2 (by decide)
end Go.Proofs.YtjlohmnnldbjoaaGreat.AI

/- ext: none, May, Of, right, Cmp, best, Max, Min. -/
namespace Go.Proofs.YtjlohmnnldbjoaaGreat.AI
open Go
set_option maxHeartbeats 4000000

variable {fl : Nat} {H G : Heap} {R : PostP} {v w : Value} {a b : RawR}

abbrev RawE := Int × RawR
def ExtV (H : Heap) (v : Value) (e : RawE) : Prop := ∃ s u, v = .agg #[.int .i64 e.1, .bool e.2.1.1, s, .bool e.2.2.1, u] ∧ Lim H s e.2.1.2 ∧ Lim H u e.2.2.2
variable {e f : RawE}
theorem ExtV.mono (h : ExtV H v e) (hx : Ext H G) : ExtV G v e := by obtain ⟨s, u, h1, h2, h3⟩ := h; exact ⟨s, u, h1, h2.mono hx, h3.mono hx⟩
theorem ExtV.setT (h : ExtV H v e) {p : Nat} {ro : Bool} {e' : TypeId} {cs' : List Value} {r : Blk} (hb : H.blk p = .row ro e' cs') (hne : e' ≠ T_uint32) : ExtV (H.setIfInBounds p r) v e := by
  obtain ⟨s, u, h1, h2, h3⟩ := h; exact ⟨s, u, h1, h2.setT hb hne, h3.setT hb hne⟩
theorem ExtV.setS {G3 : Heap} {q : Nat} {X : Blk} {ro : Bool} {e' : TypeId} {cs : List Value} (k : ExtV H v e) (hS : Array.setIfInBounds H q X = G3) (hb : Heap.blk H q = .row ro e' cs) (hne : e' ≠ T_uint32) : ExtV G3 v e := by rw [← hS]; exact k.setT hb hne
theorem ExtV.ok (h : ExtV H v e) : LimOk e.2.1.2 ∧ LimOk e.2.2.2 := by obtain ⟨s, u, _, h2, h3⟩ := h; exact ⟨h2.ok, h3.ok⟩

def mayE (e : RawE) : Bool := if e.1 = -1 ∨ e.1 = 1 then zeroR e.2 else if e.1 = 0 then mayR e.2 else false
def valE (e : RawE) : Int × Rat := if mayE e then (if e.1 = 0 then (0, valR e.2) else (e.1, 0)) else (0, 0)
def canonE (x : Int × Rat) : RawE := if x.1 = 0 then (0, canonR x.2) else (x.1, ((false, []), (false, [])))
def cmpE (x y : Int × Rat) : Int := if x.1 < y.1 then -1 else if x.1 > y.1 then 1 else if x.1 ≠ 0 then 0 else cmpR x.2 y.2
def rawZ : RawR := ((false, []), (false, []))
theorem zeroR_rawZ : zeroR rawZ = true := rfl
theorem valR_rawZ : valR rawZ = 0 := by unfold valR; rw [zeroR_rawZ]; rfl
theorem ratv_rawZ : RatV H (.agg #[.bool false, .slice none 0 0, .bool false, .slice none 0 0]) rawZ := ⟨_, _, rfl, Lim.nil, Lim.nil⟩

theorem ext_none_does (h : RatV H v a) (hf : fl ≤ H.size) : Does env fl f_99 [v] H (fun r H' => r = .bool (zeroR a) ∧ Ext H H') R := by
  obtain ⟨s, u, rfl, hs, hu⟩ := h
  refine does_ext e_99 hf (h := ?_)
  intro ρ h0
  simp [s_99, r_99_0, h0]
  have hsl := hs.slen
  have hul := hu.slen
  cases h1 : a.1.1
  · by_cases h2 : a.1.2 = []
    · cases h3 : a.2.1
      · simp [r_99_1, h0, h1, h2, h3, hsl, hul, zeroR]
      · simp [r_99_1, h0, h1, h2, h3, hsl, hul, zeroR]
    · simp [r_99_1, h0, h1, h2, hsl, hul, zeroR]
  · simp [r_99_1, h0, h1, hsl, hul, zeroR]

theorem ext_May_does (h : ExtV H v e) (hf : fl ≤ H.size) (hn : lenR e.2 < 67108864) : Does env fl f_63 [v] H (fun r H' => r = .bool (mayE e) ∧ Ext H H') R := by
  obtain ⟨s, u, rfl, hs, hu⟩ := h
  have k0 : RatV H (.agg #[.bool e.2.1.1, s, .bool e.2.2.1, u]) e.2 := ⟨s, u, rfl, hs, hu⟩
  refine does_ext e_63 hf (h := ?_)
  intro ρ h0
  simp [s_63, r_63_0, r_63_1, r_63_2, h0]
  generalize hG : Array.push H _ = G
  obtain ⟨hx2, b0⟩ := new0 hG
  have hx := Ext.refl H
  clear hG
  (try replace b0:=hx2.blk b0);(try replace hx:=hx.trans hx2);(try replace k0 := k0.mono hx2)
  unfold mayE
  by_cases h1 : e.1 = -1
  · simp [h1, r_63_4, h0, b0]
    refine (ext_none_does k0 hx.1).mono ?_
    rintro _ G2 ⟨rfl, hx2⟩
    simp
  · by_cases h2 : e.1 = 1
    · simp [h2, r_63_3, r_63_4, h0, b0]
      refine (ext_none_does k0 hx.1).mono ?_
      rintro _ G2 ⟨rfl, hx2⟩
      simp
    · by_cases h3 : e.1 = 0
      · simp [h3, r_63_3, r_63_5, r_63_6, h0, b0]
        refine (rat_May_does k0 hx.1 (by omega)).mono ?_
        rintro _ G2 ⟨rfl, hx2⟩
        simp
      · simp [h1, h2, h3, r_63_3, r_63_5, r_63_7, h0, b0]

theorem ext_Of_does (h : RatV H v a) (hf : fl ≤ H.size) (hn : lenR a < 67108864) : Does env fl f_54 [v] H (fun r H' => ExtV H' r (0, canonR (valR a)) ∧ Ext H H') R := by
  have k0 := h
  obtain ⟨s, u, rfl, hs, hu⟩ := h
  refine does_ext e_54 hf (h := ?_)
  intro ρ h0
  simp [s_54, r_54_0, r_54_1, h0]
  generalize hG : Array.push (Array.push H _) _ = G
  have hx2 : Ext H G := by rw [← hG]; exact (Ext.refl H).push.push
  have b0 : Heap.blk G H.size = .row false T_api_Rat [.bool a.1.1, s, .bool a.2.1, u] := by rw [← hG]; simp
  have b1 : Heap.blk G (H.size + 1) = .row false T_api_Ext [.int .i64 0, .bool false, .slice none 0 0, .bool false, .slice none 0 0] := by rw [← hG]; simp
  have hx := Ext.refl H
  clear hG
  (try replace b0:=hx2.blk b0);(try replace b1:=hx2.blk b1);(try replace hx:=hx.trans hx2);(try replace k0:=k0.mono hx2);(try replace k2:=k2.mono hx2);(try replace k3 := k3.mono hx2)
  try simp [b0]
  refine (rat_Add_does k0 (b := rawZ) ratv_rawZ hx.1 hn (by decide)).mono ?_
  rintro _ G2 ⟨⟨s1, s2, rfl, k2, k3⟩, hx2⟩
  (try replace b0:=hx2.blk b0);(try replace b1:=hx2.blk b1);(try replace hx:=hx.trans hx2);(try replace k0:=k0.mono hx2);(try replace k2:=k2.mono hx2);(try replace k3 := k3.mono hx2)
  rw [valR_rawZ, Rat.add_zero] at k2 k3 ⊢
  have hz := blk_lt b1
  simp [h0, b1, k2.cells, k2.plain, k3.cells, k3.plain, hz]
  exact fun _ => ⟨s1, s2, rfl, k2.setT b1 (by decide), k3.setT b1 (by decide)⟩

theorem ext_right_does (h : ExtV H v e) (hf : fl ≤ H.size) (hn : lenR e.2 < 67108864) : Does env fl f_92 [v] H (fun r H' => ExtV H' r (canonE (valE e)) ∧ Ext H H') R := by
  have k0 := h
  obtain ⟨s, u, rfl, hs, hu⟩ := h
  have k1 : RatV H (.agg #[.bool e.2.1.1, s, .bool e.2.2.1, u]) e.2 := ⟨s, u, rfl, hs, hu⟩
  refine does_ext e_92 hf (h := ?_)
  intro ρ h0
  simp [s_92, r_92_0, h0]
  generalize hG : Array.push (Array.push H _) _ = G
  have hx2 : Ext H G := by rw [← hG]; exact (Ext.refl H).push.push
  have b0 : Heap.blk G H.size = .row false T_api_Ext [.int .i64 e.1, .bool e.2.1.1, s, .bool e.2.2.1, u] := by rw [← hG]; simp
  have b1 : Heap.blk G (H.size + 1) = .row false T_api_Ext [.int .i64 0, .bool false, .slice none 0 0, .bool false, .slice none 0 0] := by rw [← hG]; simp
  have hx := Ext.refl H
  clear hG
  (try replace b0:=hx2.blk b0);(try replace b1:=hx2.blk b1);(try replace hx:=hx.trans hx2);(try replace k0:=k0.mono hx2);(try replace k1:=k1.mono hx2);(try replace k2:=k2.mono hx2);(try replace k3 := k3.mono hx2)
  simp [r_92_1, h0, b0]
  refine (ext_May_does k0 hx.1 hn).mono ?_
  rintro _ G2 ⟨rfl, hx2⟩
  (try replace b0:=hx2.blk b0);(try replace b1:=hx2.blk b1);(try replace hx:=hx.trans hx2);(try replace k0:=k0.mono hx2);(try replace k1:=k1.mono hx2);(try replace k2:=k2.mono hx2);(try replace k3 := k3.mono hx2)
  unfold valE
  cases hm : mayE e
  · simp [r_92_2, h0]
    refine (ext_Of_does (a := rawZ) ratv_rawZ hx.1 (by decide)).mono ?_
    rintro _ G2 ⟨⟨s1, s2, rfl, k2, k3⟩, hx2⟩
    (try replace b0:=hx2.blk b0);(try replace b1:=hx2.blk b1);(try replace hx:=hx.trans hx2);(try replace k0:=k0.mono hx2);(try replace k1:=k1.mono hx2);(try replace k2:=k2.mono hx2);(try replace k3 := k3.mono hx2)
    rw [valR_rawZ] at k2 k3 ⊢
    have hz := blk_lt b1
    simp [h0, b1, k2.cells, k2.plain, k3.cells, k3.plain, hz, canonE]
    exact fun _ => ⟨s1, s2, rfl, k2.setT b1 (by decide), k3.setT b1 (by decide)⟩
  · by_cases h3 : e.1 = 0
    · simp [h3, r_92_3, r_92_4, h0, b0]
      refine (ext_Of_does k1 hx.1 hn).mono ?_
      rintro _ G2 ⟨⟨s1, s2, rfl, k2, k3⟩, hx2⟩
      (try replace b0:=hx2.blk b0);(try replace b1:=hx2.blk b1);(try replace hx:=hx.trans hx2);(try replace k0:=k0.mono hx2);(try replace k1:=k1.mono hx2);(try replace k2:=k2.mono hx2);(try replace k3 := k3.mono hx2)
      have hz := blk_lt b1
      simp [h0, b1, k2.cells, k2.plain, k3.cells, k3.plain, hz, canonE]
      exact fun _ => ⟨s1, s2, rfl, k2.setT b1 (by decide), k3.setT b1 (by decide)⟩
    · have hz := blk_lt b1
      simp [h3, r_92_3, r_92_5, h0, b0, b1, hz, canonE]
      exact fun _ => ⟨_, _, rfl, Lim.nil, Lim.nil⟩

theorem lenR_valE (h : ExtV H v e) : lenR (canonE (valE e)).2 ≤ max (lenR e.2) 1 := by
  unfold valE canonE
  have h1 := szR_val h.ok.1 h.ok.2
  by_cases hm : mayE e = true
  · by_cases h0 : e.1 = 0
    · simp [hm, h0, lenR_canon]; omega
    · simp [hm, h0, lenR]
  · simp [hm, lenR_canon, szR_zero]; omega

theorem ext_Cmp_does (h : ExtV H v e) (k : ExtV H w f) (hf : fl ≤ H.size) (hn : lenR e.2 < 67108864) (hm : lenR f.2 < 67108864) : Does env fl f_53 [v, w] H (fun r H' => r = .int .i64 (cmpE (valE e) (valE f)) ∧ Ext H H') R := by
  have k0 := h
  have k1 := k
  have l1 := lenR_valE h
  have l2 := lenR_valE k
  obtain ⟨s, u, rfl, hs, hu⟩ := h
  obtain ⟨s', u', rfl, hs', hu'⟩ := k
  refine does_ext e_53 hf (h := ?_)
  intro ρ h0
  simp [s_53, r_53_0, h0]
  generalize hG : Array.push (Array.push H _) _ = G
  have hx2 : Ext H G := by rw [← hG]; exact (Ext.refl H).push.push
  have b0 : Heap.blk G H.size = .row false T_api_Ext [.int .i64 e.1, .bool e.2.1.1, s, .bool e.2.2.1, u] := by rw [← hG]; simp
  have b1 : Heap.blk G (H.size + 1) = .row false T_api_Ext [.int .i64 f.1, .bool f.2.1.1, s', .bool f.2.2.1, u'] := by rw [← hG]; simp
  have hx := Ext.refl H
  clear hG
  (try replace b0:=hx2.blk b0);(try replace b1:=hx2.blk b1);(try replace hx:=hx.trans hx2);(try replace k0:=k0.mono hx2);(try replace k1:=k1.mono hx2);(try replace k2:=k2.mono hx2);(try replace k3:=k3.mono hx2);(try replace k4:=k4.mono hx2);(try replace k5 := k5.mono hx2)
  refine W_draw ?_
  simp [r_53_1, h0, b0]
  refine (ext_right_does k0 (by have := hx.1; omega) hn).mono ?_
  rintro _ G2 ⟨⟨s1, s2, rfl, k2, k3⟩, hx2⟩
  (try replace b0:=hx2.blk b0);(try replace b1:=hx2.blk b1);(try replace hx:=hx.trans hx2);(try replace k0:=k0.mono hx2);(try replace k1:=k1.mono hx2);(try replace k2:=k2.mono hx2);(try replace k3:=k3.mono hx2);(try replace k4:=k4.mono hx2);(try replace k5 := k5.mono hx2)
  simp [h0, b1]
  refine (ext_right_does k1 hx.1 hm).mono ?_
  rintro _ G2 ⟨⟨s3, s4, rfl, k4, k5⟩, hx2⟩
  (try replace b0:=hx2.blk b0);(try replace b1:=hx2.blk b1);(try replace hx:=hx.trans hx2);(try replace k0:=k0.mono hx2);(try replace k1:=k1.mono hx2);(try replace k2:=k2.mono hx2);(try replace k3:=k3.mono hx2);(try replace k4:=k4.mono hx2);(try replace k5 := k5.mono hx2)
  clear k0 k1
  have hz0 := blk_lt b0
  simp [h0, b0, k2.cells, k2.plain, k3.cells, k3.plain, hz0]
  generalize hS : Array.setIfInBounds _ _ _ = G3
  have hsz := hx.1; (try replace k0 := k0.setS hS b0 (by decide)); (try replace k1 := k1.setS hS b0 (by decide)); (try replace k2 := k2.setS hS b0 (by decide)); (try replace k3 := k3.setS hS b0 (by decide)); (try replace k4 := k4.setS hS b0 (by decide)); (try replace k5 := k5.setS hS b0 (by decide)); (try replace b1 := set_keep hS b1 (by omega)); (try replace hx := set_ext hS hx (by omega)); replace b0 := set_new hS b0; clear hS hsz
  have hz0 := blk_lt b1
  simp [b1, k4.cells, k4.plain, k5.cells, k5.plain, hz0]
  generalize hS : Array.setIfInBounds _ _ _ = G3
  have hsz := hx.1; (try replace k0 := k0.setS hS b1 (by decide)); (try replace k1 := k1.setS hS b1 (by decide)); (try replace k2 := k2.setS hS b1 (by decide)); (try replace k3 := k3.setS hS b1 (by decide)); (try replace k4 := k4.setS hS b1 (by decide)); (try replace k5 := k5.setS hS b1 (by decide)); (try replace b0 := set_keep hS b0 (by omega)); (try replace hx := set_ext hS hx (by omega)); replace b1 := set_new hS b1; clear hS hsz
  obtain ⟨x, hxv⟩ : ∃ x, x = valE e := ⟨_, rfl⟩
  obtain ⟨y, hyv⟩ : ∃ y, y = valE f := ⟨_, rfl⟩
  rw [← hxv] at l1 k2 k3 b0 ⊢
  rw [← hyv] at l2 k4 k5 b1 ⊢
  have kx : (canonE x).1 = x.1 := by unfold canonE; split <;> simp_all
  have ky : (canonE y).1 = y.1 := by unfold canonE; split <;> simp_all
  rw [kx] at b0
  rw [ky] at b1
  unfold cmpE
  simp [r_53_2, h0, b0, b1]
  by_cases h1 : x.1 < y.1
  · have h1' : ¬ y.1 ≤ x.1 := by omega
    simp [h1, h1', r_53_3]
  · by_cases h2 : y.1 < x.1
    · have h2' : ¬ x.1 ≤ y.1 := by omega
      have h1' : y.1 ≤ x.1 := by omega
      simp [h1, h1', h2, h2', r_53_4, r_53_5, h0, b0, b1]
    · by_cases h3 : x.1 = 0
      · have h4 : y.1 = 0 := by omega
        have kr : RatV _ (.agg #[.bool (canonE x).2.1.1, s1, .bool (canonE x).2.2.1, s2]) (canonE x).2 := ⟨s1, s2, rfl, k2, k3⟩
        have kq : RatV _ (.agg #[.bool (canonE y).2.1.1, s3, .bool (canonE y).2.2.1, s4]) (canonE y).2 := ⟨s3, s4, rfl, k4, k5⟩
        simp [h1, h2, h3, h4, r_53_4, r_53_6, r_53_8, h0, b0, b1]
        refine (rat_Cmp_does kr kq hx.1 (by omega) (by omega)).mono ?_
        rintro _ G2 ⟨rfl, hx2⟩
        have e1 : valR (canonE x).2 = x.2 := by unfold canonE; rw [if_pos h3]; exact valR_canon _
        have e2 : valR (canonE y).2 = y.2 := by unfold canonE; rw [if_pos h4]; exact valR_canon _
        simp [e1, e2]
      · have h4 : y.1 ≠ 0 := by omega
        simp [h1, h2, h3, h4, r_53_4, r_53_6, r_53_7, h0, b0, b1]


end Go.Proofs.YtjlohmnnldbjoaaGreat.AI
