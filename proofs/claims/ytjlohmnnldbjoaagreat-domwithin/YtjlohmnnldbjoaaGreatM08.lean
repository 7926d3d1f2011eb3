/- Part 9 of the proof: AiDom2, AiDom3, AiDom4, AiFor2, AiSame, AiGreat, AiRow3, AiLat, AiLaw1, AiGreat4, AiLaw2. -/
import Derived.Test.YtjlohmnnldbjoaaGreatRows
import Derived.Test.YtjlohmnnldbjoaaGreatM02
import Derived.Test.YtjlohmnnldbjoaaGreatM07
set_option linter.unusedVariables false
set_option linter.unusedSimpArgs false
set_option linter.unusedSectionVars false

/- dom: Join, Meet, none, Right; templ.Right. -/
namespace Go.Proofs.YtjlohmnnldbjoaaGreat.AI
open Go
set_option maxHeartbeats 4000000

variable {fl : Nat} {H G : Heap} {R : PostP} {v w : Value} {a b : List RawE}

def maxE (e f : RawE) : RawE := canonE (if cmpE (valE e) (valE f) < 0 then valE f else valE e)
def minE (e f : RawE) : RawE := canonE (if 0 < cmpE (valE e) (valE f) then valE f else valE e)

theorem dom_Join_does (ha : ExtsV H v a) (hb : ExtsV H w b) (hf : fl ≤ H.size) (hfa : FewE a) (hfb : FewE b) (hal : a.length < 1073741824) :
    Does env fl f_31 [v, w] H (fun r H' => ExtsV H' r (List.zipWith maxE a b) ∧ Ext H H') R := by
  refine does_ext e_31 hf (h := ?_)
  intro ρ h0
  simp [s_31, r_31_0, r_31_1, h0]
  refine (zipE_does (d := maxE) ha hb (Nat.le_refl _) hfa hfb hal (fun fl G v w e f hf h k hn hm => ext_Max_does h k hf hn hm)).mono ?_
  rintro r G2 ⟨k0, hx2⟩
  simp
  exact fun _ => k0
theorem dom_Meet_does (ha : ExtsV H v a) (hb : ExtsV H w b) (hf : fl ≤ H.size) (hfa : FewE a) (hfb : FewE b) (hal : a.length < 1073741824) :
    Does env fl f_33 [v, w] H (fun r H' => ExtsV H' r (List.zipWith minE a b) ∧ Ext H H') R := by
  refine does_ext e_33 hf (h := ?_)
  intro ρ h0
  simp [s_33, r_33_0, r_33_1, h0]
  refine (zipE_does (d := minE) ha hb (Nat.le_refl _) hfa hfb hal (fun fl G v w e f hf h k hn hm => ext_Min_does h k hf hn hm)).mono ?_
  rintro r G2 ⟨k0, hx2⟩
  simp
  exact fun _ => k0

/-- is there one? are all? (simp looks not inside.) -/
def anyB {α : Type} (p : α → Bool) (l : List α) : Bool := l.any p
def allB {α : Type} (p : α → Bool) (l : List α) : Bool := l.all p
section
variable {α : Type} {p : α → Bool} {l : List α} {i : Nat}
theorem anyB_nil : anyB p [] = false := rfl
theorem allB_nil : allB p [] = true := rfl
theorem anyB_succ (h : i < l.length) : anyB p (l.take (i + 1)) = (anyB p (l.take i) || p l[i]) := by
  unfold anyB; rw [List.take_succ_eq_append_getElem h, List.any_append]; simp
theorem allB_succ (h : i < l.length) : allB p (l.take (i + 1)) = (allB p (l.take i) && p l[i]) := by
  unfold allB; rw [List.take_succ_eq_append_getElem h, List.all_append]; simp
theorem anyB_yes (h : i < l.length) (hp : p l[i] = true) : anyB p l = true := List.any_eq_true.2 ⟨_, List.getElem_mem h, hp⟩
theorem allB_no (h : i < l.length) (hp : p l[i] = false) : allB p l = false := by
  unfold allB; rw [List.all_eq_false]; exact ⟨l[i], List.getElem_mem h, by simp [hp]⟩
end

theorem IndexFunc_does {p : RawE → Bool} {g : FuncId} (ha : ExtsV H v a) (hf : fl ≤ H.size) (hfa : FewE a) (hal : a.length < 1073741824)
    (hg : ∀ (fl : Nat) (G : Heap) (v : Value) (e : RawE), fl ≤ G.size → ExtV G v e → lenR e.2 < 67108864 → Does env fl g [v] G (fun r H' => r = .bool (p e) ∧ Ext G H') R) :
    Does env fl f_98 [v, .func (.func g) #[] #[]] H (fun r H' => (∃ z : Int, r = .int .i64 z ∧ (0 ≤ z ↔ anyB p a = true)) ∧ Ext H H') R := by
  refine does_ext e_98 hf (h := ?_)
  intro ρ h0
  simp [s_98, r_98_0, r_98_1, h0, ha.slen]
  refine W_for (n := a.length) (fun i ρ G => ρ 0 = v ∧ ρ 1 = .func (.func g) #[] #[] ∧ Ext H G ∧ anyB p (a.take i) = false)
    rfl rfl (by decide) (by omega) (by simp) (by simp) ?_ ?_ ?_ ?_
  · exact ⟨by simp [h0], by simp [h0], Ext.refl H, by rw [List.take_zero]; exact anyB_nil⟩
  · intro i ρ ρ' G h hI; simpa [h] using hI
  · clear h0 ρ
    rintro i ρ G hi gi gn ⟨g0, g1, hx, hc⟩
    have ka := ha.mono monoPE hx
    obtain ⟨w, hl, k0⟩ := ExtsV.load ka hi
    simp [r_98_3, r_98_4, gi, g0, g1, ka.ia hi, hl]
    refine (hg _ _ _ _ hx.1 k0 (hfa _ (List.getElem_mem hi))).mono ?_
    rintro _ G2 ⟨rfl, hx2⟩
    have hx' := hx.trans hx2
    cases hp : p a[i]
    · simp
      refine Rnd.mk (by simp [gi]) (by simp [gn]) ⟨by simp [g0], by simp [g1], hx', by rw [anyB_succ hi, hc, hp]; rfl⟩
    · simp [r_98_5, gi]
      exact fun _ => anyB_yes hi hp
  · clear h0 ρ
    rintro ρ G gi gn ⟨g0, g1, hx, hc⟩
    rw [List.take_length] at hc
    simp [r_98_7, hc]

theorem ContainsFunc_does {p : RawE → Bool} {g : FuncId} (ha : ExtsV H v a) (hf : fl ≤ H.size) (hfa : FewE a) (hal : a.length < 1073741824)
    (hg : ∀ (fl : Nat) (G : Heap) (v : Value) (e : RawE), fl ≤ G.size → ExtV G v e → lenR e.2 < 67108864 → Does env fl g [v] G (fun r H' => r = .bool (p e) ∧ Ext G H') R) :
    Does env fl f_61 [v, .func (.func g) #[] #[]] H (fun r H' => r = .bool (anyB p a) ∧ Ext H H') R := by
  refine does_ext e_61 hf (h := ?_)
  intro ρ h0
  simp [s_61, r_61_0, r_61_1, h0]
  refine (IndexFunc_does (p := p) ha (Nat.le_refl _) hfa hal hg).mono ?_
  rintro _ G2 ⟨⟨z, rfl, hz⟩, hx2⟩
  simp
  intro _
  rw [Bool.eq_iff_iff, decide_eq_true_eq]; exact hz

theorem dom_none_1_does {e : RawE} (h : ExtV H v e) (hf : fl ≤ H.size) : Does env fl f_84 [v] H (fun r H' => r = .bool (decide (e.1 < 0)) ∧ Ext H H') R := by
  obtain ⟨s, u, rfl, hs, hu⟩ := h
  refine does_ext e_84 hf (h := ?_)
  intro ρ h0
  simp [s_84, r_84_0, r_84_1, h0]
theorem dom_none_does (ha : ExtsV H v a) (hf : fl ≤ H.size) (hfa : FewE a) (hal : a.length < 1073741824) :
    Does env fl f_49 [v] H (fun r H' => r = .bool (anyB (fun e => decide (e.1 < 0)) a) ∧ Ext H H') R := by
  refine does_ext e_49 hf (h := ?_)
  intro ρ h0
  simp [s_49, r_49_0, r_49_1, h0]
  refine (ContainsFunc_does (p := fun e => decide (e.1 < 0)) ha (Nat.le_refl _) hfa hal (fun fl G v e hf h hn => dom_none_1_does h hf)).mono ?_
  rintro _ G2 ⟨rfl, hx2⟩
  simp

theorem dom_Right_1_does {e : RawE} (h : ExtV H v e) (hf : fl ≤ H.size) (hn : lenR e.2 < 67108864) : Does env fl f_62 [v] H (fun r H' => r = .bool (!mayE e) ∧ Ext H H') R := by
  have k0 := h
  obtain ⟨s, u, rfl, hs, hu⟩ := h
  refine does_ext e_62 hf (h := ?_)
  intro ρ h0
  simp [s_62, r_62_0, r_62_1, h0]
  generalize hG : Array.push H _ = G
  obtain ⟨hx2, b0⟩ := new0 hG
  have hx := Ext.refl H
  clear hG
  (try replace b0 := hx2.blk b0); (try replace hx := hx.trans hx2); (try replace k0 := k0.mono hx2)
  try simp [b0]
  refine (ext_May_does k0 hx.1 hn).mono ?_
  rintro _ G2 ⟨rfl, hx2⟩
  simp

/-- a template as it lies. -/
def TemplV (H : Heap) (v : Value) (rows : List (List RawR)) : Prop := ∃ s, v = .agg #[s] ∧ RowsV H s rows
/-- is a template right for so many numbers? -/
def rowOk (n : Int) (r : List RawR) : Bool := decide ((r.length : Int) = n) && allB mayR r
def rightT (rows : List (List RawR)) (n : Int) : Bool := decide (0 ≤ n) && decide (n ≤ 6) && decide (rows.length ≤ 40) && allB (rowOk n) rows
theorem templ_Right_does {S : Nat} {rows : List (List RawR)} {n : Int} (h : TemplV H v rows) (hf : fl ≤ H.size) (hS : S < 67108864) (hr : ∀ r ∈ rows, Few S r ∧ r.length < 1073741824) (hrl : rows.length < 1073741824) :
    Does env fl f_60 [v, .int .i64 n] H (fun r H' => r = .bool (rightT rows n) ∧ Ext H H') R := by
  obtain ⟨s, rfl, hs⟩ := h
  refine does_ext e_60 hf (h := ?_)
  intro ρ h0
  simp [s_60, r_60_0, h0, hs.cells]
  generalize hG : Array.push H _ = G
  obtain ⟨hx2, b0⟩ := new0 hG
  have hx := Ext.refl H
  clear hG
  (try replace b0 := hx2.blk b0); (try replace b1 := hx2.blk b1); (try replace hx := hx.trans hx2); (try replace k0 := k0.mono hx2); (try replace k1 := k1.mono hx2); (try replace k2 := k2.mono hx2)
  unfold rightT
  by_cases h1 : n < 0
  · have h1' : ¬ 0 ≤ n := by omega
    simp [r_60_1, r_60_2, h0, h1, h1']
  · have h1' : 0 ≤ n := by omega
    by_cases h2 : 6 < n
    · have h2' : ¬ n ≤ 6 := by omega
      simp [r_60_1, r_60_2, h0, h1, h1', h2, h2']
    · have h2' : n ≤ 6 := by omega
      by_cases h3 : 40 < rows.length
      · have h3' : ¬ rows.length ≤ 40 := by omega
        have h3'' : (40 : Int) < (rows.length : Int) := by omega
        simp [r_60_1, r_60_2, h0, b0, (hs.mono monoPS hx).slen, hs.slen, h1, h1', h2, h2', h3, h3', h3'']
      · have h3' : rows.length ≤ 40 := by omega
        have h3'' : ¬ (40 : Int) < (rows.length : Int) := by omega
        simp [r_60_1, r_60_3, h0, b0, hs.slen, h1, h1', h2, h2', h3, h3', h3'']
        refine W_for (n := rows.length) (fun i ρ G => ρ 1 = .int .i64 n ∧ ρ 22 = s ∧ Ext H G ∧ allB (rowOk n) (rows.take i) = true)
          rfl rfl (by decide) (by omega) (by simp) (by simp) ?_ ?_ ?_ ?_
        · exact ⟨by simp [h0], by simp, hx, by rw [List.take_zero]; exact allB_nil⟩
        · intro i ρ ρ' G h hI; simpa [h] using hI
        · clear h0 ρ hx b0 hx2
          rintro i ρ G hi gi gn ⟨g1, g22, hx, hc⟩
          have ks := hs.mono monoPS hx
          obtain ⟨w, hl, kw⟩ := RowsV.load ks hi
          obtain ⟨hfew, hrl2⟩ := hr _ (List.getElem_mem hi)
          by_cases hlen : (rows[i].length : Int) = n
          · simp [r_60_5, r_60_6, r_60_8, g1, g22, gi, ks.ia hi, hl, kw.slen, hlen]
            refine W_forE (n := rows[i].length) (fun j ρ G => ρ 1 = .int .i64 n ∧ ρ 22 = s ∧ ρ 24 = .int .i64 (i : Int) ∧ ρ 23 = .int .i64 (rows.length : Int) ∧ ρ 32 = w ∧ Ext H G ∧ RatsV G w rows[i] ∧ allB mayR (rows[i].take j) = true)
              rfl rfl (by decide) (by omega) (by simp) (by simp [hlen]) ?_ ?_ ?_ ?_
            · exact ⟨by simp [g1], by simp [g22], by simp [gi], by simp [gn], by simp, hx, kw, by rw [List.take_zero]; exact allB_nil⟩
            · intro i ρ ρ' G h hI; simpa [h] using hI
            · clear g1 g22 gi gn hx kw hl ks ρ G
              rintro j ρ G hj gj gm ⟨g1, g22, gi, gn, g32, hx, kw, hcj⟩
              obtain ⟨x, hlx, k0⟩ := RatsV.load kw hj
              obtain ⟨s1, s2, rfl, k1, k2⟩ := id k0
              have hf2 := hfew _ (List.getElem_mem hj)
              have hsz := hx.1
              simp [r_60_10, g1, g22, g32, gj, kw.ia hj, hlx, k1.cells, k1.plain, k2.cells, k2.plain, hsz]
              generalize hN : Array.setIfInBounds (Array.push _ _) _ _ = G3
              obtain ⟨hx2, b1⟩ := new1 hN
              clear hN
              (try replace b0 := hx2.blk b0); (try replace b1 := hx2.blk b1); (try replace hx := hx.trans hx2); (try replace k0 := k0.mono hx2); (try replace k1 := k1.mono hx2); (try replace k2 := k2.mono hx2)
              replace kw := kw.mono monoPR hx2
              simp [r_60_11, b1]
              refine (rat_May_does k0 hx.1 (by omega)).mono ?_
              rintro _ G2 ⟨rfl, hx2⟩
              (try replace b0 := hx2.blk b0); (try replace b1 := hx2.blk b1); (try replace hx := hx.trans hx2); (try replace k0 := k0.mono hx2); (try replace k1 := k1.mono hx2); (try replace k2 := k2.mono hx2)
              replace kw := kw.mono monoPR hx2
              cases hm : mayR rows[i][j]
              · simp [r_60_12]
                intros
                exact allB_no hi (by unfold rowOk; rw [allB_no hj hm]; simp)
              · simp
                exact Rnd.mk (by simp [gj]) (by simp [gm]) ⟨by simp [g1], by simp [g22], by simp [gi], by simp [gn], by simp [g32], hx, kw, by rw [allB_succ hj, hcj, hm]; rfl⟩
            · rintro ρ G gj gm ⟨g1, g22, gi, gn, g32, hx, kw, hcj⟩
              rw [List.take_length] at hcj
              simp
              exact Rnd.mk gi gn ⟨g1, g22, hx, by rw [allB_succ hi, hc]; unfold rowOk; simp [hlen, hcj]⟩
          · simp [r_60_5, r_60_6, r_60_7, g1, g22, gi, ks.ia hi, hl, kw.slen, hlen]
            intro _
            exact allB_no hi (by unfold rowOk; simp [hlen])
        · clear h0 ρ hx b0 hx2
          rintro ρ G gi gn ⟨g1, g22, hx, hc⟩
          rw [List.take_length] at hc
          simp [r_60_15, hc]

/-- are values right? -/
def valuesT (rows : List (List RawR)) (n : Int) (d : List RawE) : Bool := rightT rows n && decide (d.length = rows.length) && !anyB (fun e => !mayE e) d
theorem dom_Right_does {S : Nat} {rows : List (List RawR)} {n : Int} {d : List RawE} (h : TemplV H v rows) (hd : ExtsV H w d) (hf : fl ≤ H.size) (hS : S < 67108864) (hr : ∀ r ∈ rows, Few S r ∧ r.length < 1073741824) (hrl : rows.length < 1073741824) (hfd : FewE d) (hdl : d.length < 1073741824) :
    Does env fl f_27 [v, .int .i64 n, w] H (fun r H' => r = .bool (valuesT rows n d) ∧ Ext H H') R := by
  have kt := h
  obtain ⟨s, rfl, hs⟩ := h
  refine does_ext e_27 hf (h := ?_)
  intro ρ h0
  simp [s_27, r_27_0, h0, hs.cells]
  generalize hG : Array.push H _ = G
  obtain ⟨hx2, b0⟩ := new0 hG
  have hx := Ext.refl H
  clear hG
  (try replace b0 := hx2.blk b0); (try replace hx := hx.trans hx2)
  have kt2 : TemplV G (.agg #[s]) rows := ⟨s, rfl, hs.mono monoPS hx⟩
  unfold valuesT
  simp [r_27_1, h0, b0]
  refine (templ_Right_does (n := n) kt2 hx.1 hS hr hrl).mono ?_
  rintro _ G2 ⟨rfl, hx2⟩
  (try replace b0 := hx2.blk b0); (try replace hx := hx.trans hx2)
  cases h1 : rightT rows n
  · simp
  · by_cases h2 : d.length = rows.length
    · have h2' : (d.length : Int) = (rows.length : Int) := by omega
      simp [h0, b0, hd.slen, hs.slen, h2, h2']
      refine (ContainsFunc_does (p := fun e => !mayE e) (hd.mono monoPE hx) hx.1 hfd hdl (fun fl G v e hf h hn => dom_Right_1_does h hf hn)).mono ?_
      rintro _ G2 ⟨rfl, hx2⟩
      simp
    · have h2' : ¬ (d.length : Int) = (rows.length : Int) := by omega
      simp [h0, b0, hd.slen, hs.slen, h2, h2']
end Go.Proofs.YtjlohmnnldbjoaaGreat.AI

/- dom: Has, own. -/
namespace Go.Proofs.YtjlohmnnldbjoaaGreat.AI
open Go
set_option maxHeartbeats 4000000

variable {fl : Nat} {H G : Heap} {R : PostP} {v w u : Value}

theorem valE_canon0 (q : Rat) : valE (0, canonR q) = (0, q) := by
  unfold valE mayE; simp [mayR_canon, valR_canon]

/-- is a point within a row? -/
def hasR (x : List RawR) (r : List RawR) (e : RawE) : Bool := decide (r.length = x.length) && !decide (0 < cmpE (0, dotR r x r.length) (valE e))
def hasT (rows : List (List RawR)) (d : List RawE) (x : List RawR) : Bool := decide (d.length = rows.length) && allB id (List.zipWith (hasR x) rows d)

theorem dom_Has_does {S : Nat} {rows : List (List RawR)} {d : List RawE} {x : List RawR} (h : TemplV H v rows) (hd : ExtsV H w d) (hxv : RatsV H u x) (hf : fl ≤ H.size)
    (hr : ∀ r ∈ rows, Few S r) (hfx : Few S x) (hS : (x.length + 1) * (2 * S + 3) + 1 < 67108864) (hrl : rows.length < 1073741824) (hfd : FewE d) :
    Does env fl f_21 [v, w, u] H (fun r H' => r = .bool (hasT rows d x) ∧ Ext H H') R := by
  obtain ⟨s, rfl, hs⟩ := h
  refine does_ext e_21 hf (h := ?_)
  intro ρ h0
  simp [s_21, r_21_0, h0, hs.cells]
  generalize hG : Array.push H _ = G
  obtain ⟨hx2, b0⟩ := new0 hG
  have hx := Ext.refl H
  clear hG
  (try replace b0 := hx2.blk b0); (try replace b1 := hx2.blk b1); (try replace hx := hx.trans hx2); (try replace k0 := k0.mono hx2); (try replace k1 := k1.mono hx2); (try replace k2 := k2.mono hx2); (try replace k3 := k3.mono hx2); (try replace k4 := k4.mono hx2)
  unfold hasT
  by_cases hl : d.length = rows.length
  · have hl' : (d.length : Int) = (rows.length : Int) := by omega
    simp [r_21_1, r_21_3, h0, b0, hd.slen, hs.slen, hl, hl']
    refine W_for (n := rows.length) (fun i ρ G => ρ 1 = w ∧ ρ 2 = u ∧ ρ 18 = s ∧ Ext H G ∧ allB id ((List.zipWith (hasR x) rows d).take i) = true)
      rfl rfl (by decide) (by omega) (by simp) (by simp) ?_ ?_ ?_ ?_
    · exact ⟨by simp [h0], by simp [h0], by simp, hx, by rw [List.take_zero]; exact allB_nil⟩
    · intro i ρ ρ' G h hI; simpa [h] using hI
    · clear h0 ρ hx b0 hx2
      rintro i ρ G hi gi gn ⟨g1, g2, g18, hx, hc⟩
      have hid : i < d.length := by omega
      have ks := hs.mono monoPS hx
      have kd := hd.mono monoPE hx
      have kx := hxv.mono monoPR hx
      obtain ⟨wr, hlr, kr⟩ := RowsV.load ks hi
      have hz : (List.zipWith (hasR x) rows d).length = rows.length := by simp; omega
      have hzi : (List.zipWith (hasR x) rows d)[i]'(by omega) = hasR x rows[i] d[i] := by simp
      have hfr := hr _ (List.getElem_mem hi)
      by_cases hlen : rows[i].length = x.length
      · simp [r_21_5, r_21_6, g1, g2, g18, gi, ks.ia hi, hlr]
        refine (vec_Dot_does kr kx hx.1 hlen hfr hfx (by rw [hlen]; exact hS)).mono ?_
        rintro _ G2 ⟨⟨_, rfl, s1, s2, rfl, k0, k1⟩, hx2⟩
        (try replace b0 := hx2.blk b0); (try replace b1 := hx2.blk b1); (try replace hx := hx.trans hx2); (try replace k0 := k0.mono hx2); (try replace k1 := k1.mono hx2); (try replace k2 := k2.mono hx2); (try replace k3 := k3.mono hx2); (try replace k4 := k4.mono hx2)
        replace kd := kd.mono monoPE hx2
        have hsz := hx.1
        simp [k0.cells, k0.plain, k1.cells, k1.plain, hsz]
        generalize hN : Array.setIfInBounds (Array.push _ _) _ _ = G3
        obtain ⟨hx2, b1⟩ := new1 hN
        clear hN
        (try replace b0 := hx2.blk b0); (try replace b1 := hx2.blk b1); (try replace hx := hx.trans hx2); (try replace k0 := k0.mono hx2); (try replace k1 := k1.mono hx2); (try replace k2 := k2.mono hx2); (try replace k3 := k3.mono hx2); (try replace k4 := k4.mono hx2)
        replace kd := kd.mono monoPE hx2
        refine W_draw ?_
        have k2 : RatV G3 (.agg #[.bool (canonR (dotR rows[i] x rows[i].length)).1.1, s1, .bool (canonR (dotR rows[i] x rows[i].length)).2.1, s2]) (canonR (dotR rows[i] x rows[i].length)) := ⟨s1, s2, rfl, k0, k1⟩
        have hsd := szR_dot hfr hfx rows[i].length
        have hsd2 : rows[i].length * (2 * S + 3) ≤ (x.length + 1) * (2 * S + 3) := Nat.mul_le_mul_right _ (by omega)
        simp [r_21_7, b1]
        refine (ext_Of_does k2 (by have := hx.1; omega) (by rw [lenR_canon]; omega)).mono ?_
        rintro _ G2 ⟨k3, hx2⟩
        rw [valR_canon] at k3
        (try replace b0 := hx2.blk b0); (try replace b1 := hx2.blk b1); (try replace hx := hx.trans hx2); (try replace k0 := k0.mono hx2); (try replace k1 := k1.mono hx2); (try replace k2 := k2.mono hx2); (try replace k3 := k3.mono hx2); (try replace k4 := k4.mono hx2)
        replace kd := kd.mono monoPE hx2
        obtain ⟨we, hle, k4⟩ := ExtsV.load kd hid
        simp [g1, kd.ia hid, hle]
        refine (ext_Cmp_does k3 k4 hx.1 (by show lenR (canonR _) < _; rw [lenR_canon]; omega) (hfd _ (List.getElem_mem hid))).mono ?_
        rintro _ G2 ⟨rfl, hx2⟩
        (try replace b0 := hx2.blk b0); (try replace b1 := hx2.blk b1); (try replace hx := hx.trans hx2); (try replace k0 := k0.mono hx2); (try replace k1 := k1.mono hx2); (try replace k2 := k2.mono hx2); (try replace k3 := k3.mono hx2); (try replace k4 := k4.mono hx2)
        rw [valE_canon0]
        by_cases hc0 : 0 < cmpE (0, dotR rows[i] x rows[i].length) (valE d[i])
        · have hc0' : ¬ cmpE (0, dotR rows[i] x rows[i].length) (valE d[i]) ≤ 0 := by omega
          simp [hc0, hc0', r_21_8]
          intros
          exact allB_no (i := i) (by omega) (by rw [hzi]; unfold hasR; simp [hc0])
        · have hc0' : cmpE (0, dotR rows[i] x rows[i].length) (valE d[i]) ≤ 0 := by omega
          simp [hc0, hc0']
          exact Rnd.mk (by simp [gi]) (by simp [gn]) ⟨by simp [g1], by simp [g2], by simp [g18], hx, by rw [allB_succ (by omega), hc, hzi]; unfold hasR; simp [hlen]; rw [← hlen]; exact hc0'⟩
      · simp [r_21_5, r_21_6, g1, g2, g18, gi, ks.ia hi, hlr]
        refine (vec_Dot_ne kr kx hx.1 hlen).mono ?_
        rintro _ G2 ⟨⟨_, rfl, s1, s2, rfl, k0, k1⟩, hx2⟩
        (try replace b0 := hx2.blk b0); (try replace b1 := hx2.blk b1); (try replace hx := hx.trans hx2); (try replace k0 := k0.mono hx2); (try replace k1 := k1.mono hx2); (try replace k2 := k2.mono hx2); (try replace k3 := k3.mono hx2); (try replace k4 := k4.mono hx2)
        have hsz := hx.1
        simp [k0.cells, k0.plain, k1.cells, k1.plain, hsz]
        refine W_draw ?_
        simp [r_21_7, r_21_8]
        intros
        exact allB_no (i := i) (by omega) (by rw [hzi]; unfold hasR; simp [hlen])
    · clear h0 ρ hx b0 hx2
      rintro ρ G gi gn ⟨g1, g2, g18, hx, hc⟩
      rw [List.take_of_length_le (by simp; omega)] at hc
      simp [r_21_10, hc]
  · have hl' : ¬ (d.length : Int) = (rows.length : Int) := by omega
    simp [r_21_1, r_21_2, h0, b0, hd.slen, hs.slen, hl, hl']

/-- in least form. -/
def ownL (l : List RawR) : List RawR := l.map fun x => canonR (valR x)
theorem take_map {α β : Type} {f : α → β} {l : List α} {i : Nat} (h : i < l.length) : (l.map f).take (i + 1) = (l.map f).take i ++ [f l[i]] := by
  rw [List.take_succ_eq_append_getElem (by simpa using h)]; simp
theorem dom_own_does {S : Nat} {l : List RawR} (hv : RatsV H v l) (hf : fl ≤ H.size) (hfw : Few S l) (hS : S < 67108864) (hl : l.length < 1073741824) :
    Does env fl f_50 [v] H (fun r H' => Owns PR H.size H' T_api_Rat 4 r (ownL l) ∧ Ext H H') R := by
  refine does_ext e_50 hf (h := ?_)
  intro ρ h0
  simp [s_50, r_50_0, r_50_1, r_50_2, h0, hv.slen]
  refine W_for (n := l.length) (fun i ρ G => ρ 6 = v ∧ Ext H G ∧ Owns PR H.size G T_api_Rat 4 (ρ 3) ((ownL l).take i))
    rfl rfl (by decide) (by omega) (by simp) (by simp) ?_ ?_ ?_ ?_
  · exact ⟨by simp [h0], Ext.refl H, by simpa using Owns.nil⟩
  · intro i ρ ρ' G h hI; simpa [h] using hI
  · clear h0 ρ
    rintro i ρ G hi gi gn ⟨g6, hx, ho⟩
    obtain ⟨s, g3⟩ : ∃ s, ρ 3 = s := ⟨_, rfl⟩
    rw [g3] at ho
    have kv := hv.mono monoPR hx
    obtain ⟨x, hlx, k0⟩ := RatsV.load kv hi
    obtain ⟨s1, s2, rfl, k1, k2⟩ := id k0
    have hf2 := hfw _ (List.getElem_mem hi)
    have hsz := hx.1
    simp [r_50_4, g6, gi, kv.ia hi, hlx, k1.cells, k1.plain, k2.cells, k2.plain, hsz]
    generalize hN : Array.setIfInBounds (Array.push _ _) _ _ = G3
    obtain ⟨hx2, b1⟩ := new1 hN
    clear hN
    (try replace b1 := hx2.blk b1); (try replace hx := hx.trans hx2); (try replace k0 := k0.mono hx2); (try replace k1 := k1.mono hx2); (try replace k2 := k2.mono hx2); (try replace k3 := k3.mono hx2); (try replace k4 := k4.mono hx2)
    replace ho := ho.mono monoPR hx2
    simp [r_50_5, b1]
    refine (rat_Add_does k0 (b := rawZ) ratv_rawZ hx.1 (by omega) (by decide)).mono ?_
    rintro _ G2 ⟨⟨s3, s4, rfl, k3, k4⟩, hx2⟩
    (try replace b1 := hx2.blk b1); (try replace hx := hx.trans hx2); (try replace k0 := k0.mono hx2); (try replace k1 := k1.mono hx2); (try replace k2 := k2.mono hx2); (try replace k3 := k3.mono hx2); (try replace k4 := k4.mono hx2)
    replace ho := ho.mono monoPR hx2
    rw [valR_rawZ, Rat.add_zero] at k3 k4 ⊢
    obtain ⟨s', G4, h1, h2, h3, h4⟩ := Owns.app (P := PR) (sz := 4) (e := T_api_Rat) (by decide) (fun G' cs x _ hl h => RatV.lx h hl) ho (e2 := T_api_Rat) (c := 1) (bytes := 64) (new := [.bool (canonR (valR l[i])).1.1, s3, .bool (canonR (valR l[i])).2.1, s4]) (x := canonR (valR l[i])) ⟨s3, s4, rfl, k3, k4⟩ rfl (by simp [k3.plain, k4.plain]) (by simp; omega) (by omega) (by omega) hx.1
    simp [g3, k3.cells, k4.cells, h1]
    exact Rnd.mk (by simp [gi]) (by simp [gn]) ⟨by simp [g6], h4 _ (Nat.le_refl _) hx, Owns.cast (v' := s') (by simp) (by unfold ownL; rw [take_map hi]; exact h2)⟩
  · clear h0 ρ
    rintro ρ G gi gn ⟨g6, hx, ho⟩
    obtain ⟨s, g3⟩ : ∃ s, ρ 3 = s := ⟨_, rfl⟩
    rw [g3] at ho
    rw [List.take_of_length_le (by simp [ownL])] at ho
    simp [r_50_7, g3]
    exact fun _ => ho
end Go.Proofs.YtjlohmnnldbjoaaGreat.AI

/- dom.Problem. -/
namespace Go.Proofs.YtjlohmnnldbjoaaGreat.AI
open Go
set_option maxHeartbeats 4000000

variable {fl : Nat} {H G : Heap} {R : PostP} {v w u : Value}

theorem app_fresh {fl e sz bytes n c : Nat} {H H' : Heap} {s v' : Value} {xb : Option Addr} (hn : n ≠ 0) (h : appA fl H e sz bytes s (.slice xb n c) = some (v', H')) : ∃ m k, v' = .slice (some ⟨H.size, 0, none⟩) m k := by
  unfold appA at h
  split at h
  · rename_i base len cap xb' n' c' heq
    cases heq
    rw [if_neg hn] at h
    split at h
    · split at h
      · cases h
      · split at h
        · cases h
        · split at h
          · cases h
          · split at h
            · split at h
              · cases h; exact ⟨_, _, rfl⟩
              · cases h
            · split at h
              · cases h; exact ⟨_, _, rfl⟩
              split at h
              · cases h
              · split at h
                · cases h; exact ⟨_, _, rfl⟩
                · split at h
                  · split at h
                    · cases h; exact ⟨_, _, rfl⟩
                    · cases h
                  · cases h
    · cases h
  · cases h

/-- rows of one type stay. -/
def LxT (e : Nat) (H G : Heap) : Prop := ∀ b ro cs, H.blk b = .row ro e cs → G.blk b = .row ro e cs
theorem Owns.lxT {α : Type} {P : Heap → List Value → α → Prop} {fl e sz e' : Nat} {v : Value} {l : List α} (h : Owns P fl G e sz v l) (he : e ≠ e') {G' : Heap} (hx : ExtB (slB v) G G') : LxT e' G G' := by
  intro b ro cs hb
  obtain ⟨cs', ⟨hl, ⟨rfl, _⟩ | ⟨p, cap, rfl, hp, _⟩⟩, _⟩ := h
  · rw [hx.2 b (blk_lt hb) (by simp [slB])]; exact hb
  · rw [hx.2 b (blk_lt hb) (by simp [slB]; rintro rfl; rw [hp] at hb; cases hb; exact he rfl)]; exact hb
theorem RatsV.lx2 {l : List RawR} (h : RatsV H v l) (h1 : LxT T_api_Rat H G) (h2 : Lx H G) : RatsV G v l := by
  obtain ⟨cs, ⟨hl, hs⟩, hp⟩ := h
  refine ⟨cs, ⟨hl, ?_⟩, fun k hk => RatV.lx (hp k hk) h2⟩
  rcases hs with hs | ⟨b, off, cap, ro, cells, rfl, hb, ho, hcs⟩
  · exact .inl hs
  · exact .inr ⟨b, off, cap, ro, cells, rfl, h1 _ _ _ hb, ho, hcs⟩
theorem RatsV.off {l : List RawR} {o : Option Nat} (h : RatsV H v l) (hx : ExtB o H G) (hne : slB v = none ∨ slB v ≠ o) (h2 : Lx H G) : RatsV G v l := by
  obtain ⟨cs, ⟨hl, hs⟩, hp⟩ := h
  refine ⟨cs, ⟨hl, ?_⟩, fun k hk => RatV.lx (hp k hk) h2⟩
  rcases hs with hs | ⟨b, off, cap, ro, cells, rfl, hb, ho, hcs⟩
  · exact .inl hs
  · refine .inr ⟨b, off, cap, ro, cells, rfl, ?_, ho, hcs⟩
    rw [hx.2 b (blk_lt hb) (by rcases hne with h | h; simp [slB] at h; exact fun h3 => h h3.symm)]; exact hb
theorem RatsV.lt {l : List RawR} (h : RatsV H v l) {b : Nat} (hb : slB v = some b) : b < H.size := by
  obtain ⟨cs, ⟨hl, ⟨rfl, _⟩ | ⟨b', off, cap, ro, cells, rfl, hb', ho, hcs⟩⟩, hp⟩ := h
  · simp [slB] at hb
  · simp [slB] at hb; subst hb; exact blk_lt hb'

/-- rows of quotients, none in the block o. -/
def PSo (o : Option Nat) (H : Heap) (cs : List Value) (l : List RawR) : Prop := ∃ v, cs = [v] ∧ RatsV H v l ∧ (slB v = none ∨ slB v ≠ o)
theorem monoPSo {o : Option Nat} : MonoP (PSo o) := fun _ _ _ _ hx ⟨v, h1, h2, h3⟩ => ⟨v, h1, h2.mono monoPR hx, h3⟩

/-- a linear problem as it lies. -/
structure LPt where
  n : Int
  A : List (List RawR)
  B : List RawR
  C : List RawR
def LPV (H : Heap) (v : Value) (p : LPt) : Prop := ∃ sA sB sC, v = .agg #[.int .i64 p.n, sA, sB, sC] ∧ RowsV H sA p.A ∧ RatsV H sB p.B ∧ RatsV H sC p.C

def probA : List (List RawR) → List RawE → List (List RawR)
  | r :: rs, e :: es => if e.1 = 0 then ownL r :: probA rs es else probA rs es
  | _, _ => []
def probB : List (List RawR) → List RawE → List RawR
  | _ :: rs, e :: es => if e.1 = 0 then canonR (valR e.2) :: probB rs es else probB rs es
  | _, _ => []
theorem probA_succ : ∀ {rows : List (List RawR)} {d : List RawE} {i : Nat} (h1 : i < rows.length) (h2 : i < d.length), probA (rows.take (i + 1)) (d.take (i + 1)) = probA (rows.take i) (d.take i) ++ if d[i].1 = 0 then [ownL rows[i]] else []
  | [], _, _, h, _ => by simp at h
  | _ :: _, [], _, _, h => by simp at h
  | r :: rs, e :: es, 0, _, _ => by simp [probA]
  | r :: rs, e :: es, i + 1, h1, h2 => by
    have := probA_succ (rows := rs) (d := es) (i := i) (by simpa using h1) (by simpa using h2)
    simp only [List.take_succ_cons, probA, this, List.getElem_cons_succ]
    split <;> simp
theorem probB_succ : ∀ {rows : List (List RawR)} {d : List RawE} {i : Nat} (_ : i < rows.length) (h2 : i < d.length), probB (rows.take (i + 1)) (d.take (i + 1)) = probB (rows.take i) (d.take i) ++ if d[i].1 = 0 then [canonR (valR d[i].2)] else []
  | [], _, _, h, _ => by simp at h
  | _ :: _, [], _, _, h => by simp at h
  | r :: rs, e :: es, 0, _, _ => by simp [probB]
  | r :: rs, e :: es, i + 1, h1, h2 => by
    have := probB_succ (rows := rs) (d := es) (i := i) (by simpa using h1) (by simpa using h2)
    simp only [List.take_succ_cons, probB, this, List.getElem_cons_succ]
    split <;> simp

theorem repl_rat (H : Heap) : ∀ n : Nat, (repl [.bool false, .slice none 0 0, .bool false, .slice none 0 0] n).length = n * 4 ∧ ∀ k, k < n → PR H (((repl [.bool false, .slice none 0 0, .bool false, .slice none 0 0] n).drop (k * 4)).take 4) rawZ
  | 0 => ⟨rfl, fun k hk => by omega⟩
  | n + 1 => by
    obtain ⟨h1, h2⟩ := repl_rat H n
    refine ⟨by rw [repl, List.length_append, h1]; simp; omega, fun k hk => ?_⟩
    cases k with
    | zero => exact ratv_rawZ
    | succ k =>
      have := h2 k (by omega)
      rw [repl, show (k + 1) * 4 = 4 + k * 4 by omega, ← List.drop_drop]
      exact this

theorem Owns.ne {α : Type} {Q : Heap → List Value → α → Prop} {fl e sz e' p : Nat} {v : Value} {l : List α} {cs : List Value} {ro : Bool} (h : Owns Q fl G e sz v l) (hb : Heap.blk G p = .row ro e' cs) (he : e ≠ e') : slB v ≠ some p := by
  obtain ⟨cs', ⟨hl, ⟨rfl, _⟩ | ⟨b, cap, rfl, hp, _⟩⟩, _⟩ := h
  · simp [slB]
  · simp [slB]; rintro rfl; rw [hp] at hb; cases hb; exact he rfl
theorem Owns.ge {α : Type} {Q : Heap → List Value → α → Prop} {fl e sz : Nat} {v : Value} {l : List α} (h : Owns Q fl G e sz v l) {b : Nat} (hb : slB v = some b) : fl ≤ b ∧ b < G.size := by
  obtain ⟨cs', ⟨hl, ⟨rfl, _⟩ | ⟨b', cap, rfl, hp, hf⟩⟩, _⟩ := h
  · simp [slB] at hb
  · simp [slB] at hb; subst hb; exact ⟨hf, blk_lt hp⟩
theorem Owns.cells {α : Type} {Q : Heap → List Value → α → Prop} {fl e sz : Nat} {v : Value} {l : List α} (h : Owns Q fl G e sz v l) : cellsL v = [v] ∧ plainCell v = true := ⟨h.sls.cells, h.sls.plain⟩
theorem Owns.low {α : Type} {Q : Heap → List Value → α → Prop} {fl fl' e sz : Nat} {v : Value} {l : List α} (h : Owns Q fl G e sz v l) (hl : fl' ≤ fl) : Owns Q fl' G e sz v l := by
  obtain ⟨cs', ⟨hl', h1 | ⟨b', cap, rfl, hp, hf⟩⟩, h2⟩ := h
  · exact ⟨cs', ⟨hl', .inl h1⟩, h2⟩
  · exact ⟨cs', ⟨hl', .inr ⟨b', cap, rfl, hp, by omega⟩⟩, h2⟩
theorem Owns.off {α : Type} {Q : Heap → List Value → α → Prop} {fl e sz : Nat} {v : Value} {l : List α} {o : Option Nat} {G' : Heap} (h : Owns Q fl G e sz v l) (hx : ExtB o G G') (hne : slB v = none ∨ slB v ≠ o) (hQ : ∀ cs x, Q G cs x → Q G' cs x) : Owns Q fl G' e sz v l := by
  obtain ⟨cs', ⟨hl', h1 | ⟨b', cap, rfl, hp, hf⟩⟩, h2⟩ := h
  · exact ⟨cs', ⟨hl', .inl h1⟩, fun k hk => hQ _ _ (h2 k hk)⟩
  · refine ⟨cs', ⟨hl', .inr ⟨b', cap, rfl, ?_, hf⟩⟩, fun k hk => hQ _ _ (h2 k hk)⟩
    rw [hx.2 b' (blk_lt hp) (by rcases hne with h | h; simp [slB] at h; exact fun h3 => h h3.symm)]; exact hp
theorem Owns.lxm {α : Type} {Q : Heap → List Value → α → Prop} {fl e sz : Nat} {v : Value} {l : List α} {G' : Heap} {Q' : Heap → List Value → α → Prop} (h : Owns Q fl G e sz v l) (hx : LxT e G G') (hQ : ∀ cs x, Q G cs x → Q' G' cs x) : Owns Q' fl G' e sz v l := by
  obtain ⟨cs', ⟨hl', h1 | ⟨b', cap, rfl, hp, hf⟩⟩, h2⟩ := h
  · exact ⟨cs', ⟨hl', .inl h1⟩, fun k hk => hQ _ _ (h2 k hk)⟩
  · exact ⟨cs', ⟨hl', .inr ⟨b', cap, rfl, hx _ _ _ hp, hf⟩⟩, fun k hk => hQ _ _ (h2 k hk)⟩
theorem Owns.blkOf {α : Type} {Q : Heap → List Value → α → Prop} {fl e sz : Nat} {v : Value} {l : List α} (h : Owns Q fl G e sz v l) : AI.blkW v = [] ∨ ∃ b, AI.blkW v = [b] ∧ slB v = some b := by
  obtain ⟨cs', ⟨hl', ⟨rfl, _⟩ | ⟨b', cap, rfl, hp, hf⟩⟩, h2⟩ := h
  · exact .inl rfl
  · by_cases h00 : l.length = 0 ∧ cap = 0
    · exact .inl (by simp only [AI.blkW]; rw [if_pos h00])
    · exact .inr ⟨b', by simp only [AI.blkW]; rw [if_neg h00], rfl⟩
theorem set_lxT {G3 : Heap} {q e e' : Nat} {X : Blk} {cs : List Value} {ro : Bool} (hS : Array.setIfInBounds G q X = G3) (hb : Heap.blk G q = .row ro e' cs) (hne : e' ≠ e) : LxT e G G3 := by
  intro b ro' cs' hb'
  rw [← hS, blk_set_ne (by rintro rfl; rw [hb] at hb'; cases hb'; exact hne rfl)]; exact hb'
theorem RowsV.lx3 {l : List (List RawR)} (h : RowsV H v l) (h0 : LxT T_sl_api_Rat H G) (h1 : LxT T_api_Rat H G) (h2 : Lx H G) : RowsV G v l := by
  obtain ⟨cs, ⟨hl, hs⟩, hp⟩ := h
  refine ⟨cs, ⟨hl, ?_⟩, fun k hk => ?_⟩
  · rcases hs with hs | ⟨b, off, cap, ro, cells, rfl, hb, ho, hcs⟩
    · exact .inl hs
    · exact .inr ⟨b, off, cap, ro, cells, rfl, h0 _ _ _ hb, ho, hcs⟩
  · obtain ⟨w, q1, q2⟩ := hp k hk; exact ⟨w, q1, q2.lx2 h1 h2⟩
theorem probA_len : ∀ (rows : List (List RawR)) (d : List RawE), (probA rows d).length ≤ d.length
  | [], _ => by simp [probA]
  | _ :: _, [] => by simp [probA]
  | r :: rs, e :: es => by have := probA_len rs es; simp only [probA]; split <;> simp <;> omega
theorem probB_len : ∀ (rows : List (List RawR)) (d : List RawE), (probB rows d).length ≤ d.length
  | [], _ => by simp [probB]
  | _ :: _, [] => by simp [probB]
  | r :: rs, e :: es => by have := probB_len rs es; simp only [probB]; split <;> simp <;> omega
theorem Owns.imp {α : Type} {Q Q' : Heap → List Value → α → Prop} {fl e sz : Nat} {v : Value} {l : List α} (h : Owns Q fl G e sz v l) (hQ : ∀ cs x, Q G cs x → Q' G cs x) : Owns Q' fl G e sz v l := by
  obtain ⟨cs', h1, h2⟩ := h; exact ⟨cs', h1, fun k hk => hQ _ _ (h2 k hk)⟩

/-- what holds in the loop over rows. -/
def ProbInv (H : Heap) (P m : Nat) (s w sC : Value) (rows : List (List RawR)) (d : List RawE) (i : Nat) (ρ : Nat → Value) (G : Heap) : Prop :=
  ρ 3 = .pointer (some ⟨H.size, 0, none⟩) ∧ ρ 6 = .pointer (some ⟨H.size + 1, 0, none⟩) ∧ ρ 8 = .pointer (some ⟨P, 0, none⟩) ∧ ρ 26 = w ∧ Ext H G ∧
    Heap.blk G H.size = .row false T_api_Template [s] ∧ Heap.blk G (H.size + 1) = .row false T_api_LP [.int .i64 0, .slice none 0 0, .slice none 0 0, .slice none 0 0] ∧
    ∃ sA sB, Heap.blk G P = .row false T_api_LP [.int .i64 (m : Int), sA, sB, sC] ∧ Owns (PSo (slB sB)) H.size G T_sl_api_Rat 1 sA (probA (rows.take i) (d.take i)) ∧
      Owns PR H.size G T_api_Rat 4 sB (probB (rows.take i) (d.take i)) ∧ RatsV G sC (List.replicate m (canonR 0)) ∧ (slB sC = none ∨ slB sC ≠ slB sB)

theorem dom_Problem_does {S : Nat} {rows : List (List RawR)} {n : Int} {d : List RawE} (h : TemplV H v rows) (hd : ExtsV H w d) (hf : fl ≤ H.size) (hS : S < 67108864) (hr : ∀ r ∈ rows, Few S r ∧ r.length < 1073741824) (hrl : rows.length < 1073741824) (hfd : FewE d) (hdl : d.length < 1073741824) :
    Does env fl f_20 [v, .int .i64 n, w] H (fun r H' => (if valuesT rows n d = true ∧ anyB (fun e => decide (e.1 < 0)) d = false then ∃ p, r = .tuple #[p, .bool true] ∧ LPV H' p ⟨n, probA rows d, probB rows d, List.replicate n.toNat (canonR 0)⟩ else ∃ p, r = .tuple #[p, .bool false] ∧ LPV H' p ⟨0, [], [], []⟩) ∧ Ext H H') R := by
  obtain ⟨s, rfl, hs⟩ := h
  refine does_ext e_20 hf (h := ?_)
  intro ρ h0
  simp [s_20, r_20_0, h0, hs.cells]
  generalize hG : Array.push (Array.push H _) _ = G
  have hx : Ext H G := by rw [← hG]; exact (Ext.refl H).push.push
  have b0 : Heap.blk G H.size = .row false T_api_Template [s] := by rw [← hG]; simp
  have b1 : Heap.blk G (H.size + 1) = .row false T_api_LP [.int .i64 0, .slice none 0 0, .slice none 0 0, .slice none 0 0] := by rw [← hG]; simp
  clear hG
  have kt : TemplV G (.agg #[s]) rows := ⟨s, rfl, hs.mono monoPS hx⟩
  simp [r_20_1, h0, b0]
  refine (dom_Right_does kt (hd.mono monoPE hx) hx.1 hS hr hrl hfd hdl).mono ?_
  rintro _ G2 ⟨rfl, hx2⟩
  (try replace b0 := hx2.blk b0); (try replace b1 := hx2.blk b1); (try replace b2 := hx2.blk b2); (try replace b3 := hx2.blk b3); (try replace b4 := hx2.blk b4); (try replace hx := hx.trans hx2); (try replace k0 := k0.mono hx2); (try replace k1 := k1.mono hx2); (try replace k2 := k2.mono hx2); (try replace k3 := k3.mono hx2); (try replace k4 := k4.mono hx2)
  cases hv : valuesT rows n d
  · have hz := blk_lt b1
    simp [r_20_2, h0, b1, hz]
    exact fun _ => ⟨_, _, _, rfl, Sls.nil, Sls.nil, Sls.nil⟩
  simp [h0]
  refine (dom_none_does (hd.mono monoPE hx) hx.1 hfd hdl).mono ?_
  rintro _ G2 ⟨rfl, hx2⟩
  (try replace b0 := hx2.blk b0); (try replace b1 := hx2.blk b1); (try replace b2 := hx2.blk b2); (try replace b3 := hx2.blk b3); (try replace b4 := hx2.blk b4); (try replace hx := hx.trans hx2); (try replace k0 := k0.mono hx2); (try replace k1 := k1.mono hx2); (try replace k2 := k2.mono hx2); (try replace k3 := k3.mono hx2); (try replace k4 := k4.mono hx2)
  cases hno : anyB (fun e : RawE => decide (e.1 < 0)) d
  case true =>
    have hz := blk_lt b1
    simp [r_20_2, h0, b1, hz]
    exact fun _ => ⟨_, _, _, rfl, Sls.nil, Sls.nil, Sls.nil⟩
  have hvv := hv
  unfold valuesT rightT at hvv
  simp at hvv
  obtain ⟨⟨⟨⟨⟨hn0, hn6⟩, _⟩, _⟩, hdr⟩, _⟩ := hvv
  obtain ⟨m, rfl⟩ : ∃ m : Nat, n = m := ⟨n.toNat, by omega⟩
  have hmk := mkV_int (bytes := 64) (k := .i64) (k' := .i64) (l := m) (c := m) (Nat.le_refl _) (by omega) (by omega)
  simp [r_20_3, h0, hmk]
  generalize hN : Array.push G2 _ = G3
  obtain ⟨hx2, b2⟩ := new0 hN
  clear hN
  (try replace b0 := hx2.blk b0); (try replace b1 := hx2.blk b1); (try replace b2 := hx2.blk b2); (try replace b3 := hx2.blk b3); (try replace b4 := hx2.blk b4); (try replace hx := hx.trans hx2); (try replace k0 := k0.mono hx2); (try replace k1 := k1.mono hx2); (try replace k2 := k2.mono hx2); (try replace k3 := k3.mono hx2); (try replace k4 := k4.mono hx2)
  obtain ⟨hrl1, hrl2⟩ := repl_rat G3 m
  have kz : RatsV G3 (.slice (some ⟨G2.size, 0, none⟩) m m) (List.replicate m rawZ) := by
    refine ⟨_, (Own.mk (fl := 0) (cap := m) b2 hrl1 (Nat.zero_le _)).sl |> (fun h => by simpa using h), fun k hk => ?_⟩
    rw [List.getElem_replicate]; exact hrl2 k (by simpa using hk)
  refine (dom_own_does (S := 0) kz hx.1 (fun x hx => by rw [List.mem_replicate] at hx; rw [hx.2]; exact ⟨Nat.le_refl _, by intro y hy; simp [rawZ] at hy, by intro y hy; simp [rawZ] at hy⟩) (by omega) (by simp; omega)).mono ?_
  rintro sC G4 ⟨hC, hx2⟩
  (try replace b0 := hx2.blk b0); (try replace b1 := hx2.blk b1); (try replace b2 := hx2.blk b2); (try replace b3 := hx2.blk b3); (try replace b4 := hx2.blk b4); (try replace hx := hx.trans hx2); (try replace k0 := k0.mono hx2); (try replace k1 := k1.mono hx2); (try replace k2 := k2.mono hx2); (try replace k3 := k3.mono hx2); (try replace k4 := k4.mono hx2)
  have hown : ownL (List.replicate m rawZ) = List.replicate m (canonR 0) := by unfold ownL; simp [valR_rawZ]
  rw [hown] at hC
  have kC := hC.sls
  have hsz := hx.1
  have hb1l := blk_lt b1
  simp [h0, kC.cells, kC.plain, hsz]
  generalize hN : Array.setIfInBounds (Array.push _ _) _ _ = G5
  obtain ⟨hx2, b3⟩ := new1 hN
  clear hN
  (try replace b0 := hx2.blk b0); (try replace b1 := hx2.blk b1); (try replace b2 := hx2.blk b2); (try replace b3 := hx2.blk b3); (try replace b4 := hx2.blk b4); (try replace hx := hx.trans hx2); (try replace k0 := k0.mono hx2); (try replace k1 := k1.mono hx2); (try replace k2 := k2.mono hx2); (try replace k3 := k3.mono hx2); (try replace k4 := k4.mono hx2)
  replace kC := kC.mono monoPR hx2
  obtain ⟨P, hP⟩ : ∃ P, P = G4.size := ⟨_, rfl⟩
  rw [← hP] at b3 hsz ⊢
  have hPH := hsz
  have hPne : P ≠ H.size + 1 := by omega
  simp [r_20_4, h0, hd.slen]
  refine W_for (n := d.length) (ProbInv H P m s w sC rows d) rfl rfl (by decide) (by omega) (by simp) (by simp) ?_ ?_ ?_ ?_
  · exact ⟨by simp, by simp, by simp, by simp [h0], hx, b0, b1, _, _, b3, by simpa [probA] using Owns.nil, by simpa [probB] using Owns.nil, kC, by
      cases hsc : slB sC with
      | none => exact .inl rfl
      | some b => right; simp [slB]⟩
  · intro i ρ ρ' G h hI; simpa [ProbInv, h] using hI
  · clear h0 ρ hx b0 b1 b3 kC hC hx2
    rintro i ρ G hi gi gn ⟨g3, g6, g8, g26, hx, b0, b1, sA, sB, b3, hA, hB, kC, hCB⟩
    have hir : i < rows.length := by omega
    have kd := hd.mono monoPE hx
    have ks := hs.mono monoPS hx
    obtain ⟨we, hle, k0⟩ := ExtsV.load kd hi
    obtain ⟨s1, s2, rfl, k1, k2⟩ := id k0
    have hsz := hx.1
    simp [r_20_6, g26, gi, kd.ia hi, hle, k1.cells, k1.plain, k2.cells, k2.plain, hsz]
    generalize hN : Array.setIfInBounds (Array.push _ _) _ _ = G3
    obtain ⟨hx2, b4⟩ := new1 hN
    clear hN
    (try replace b0 := hx2.blk b0); (try replace b1 := hx2.blk b1); (try replace b2 := hx2.blk b2); (try replace b3 := hx2.blk b3); (try replace b4 := hx2.blk b4); (try replace hx := hx.trans hx2); (try replace k0 := k0.mono hx2); (try replace k1 := k1.mono hx2); (try replace k2 := k2.mono hx2); (try replace k3 := k3.mono hx2); (try replace k4 := k4.mono hx2)
    replace ks := ks.mono monoPS hx2
    replace hA := hA.mono monoPSo hx2
    replace hB := hB.mono monoPR hx2
    replace kC := kC.mono monoPR hx2
    obtain ⟨P2, hP2⟩ : ∃ P2, P2 = G.size := ⟨_, rfl⟩
    rw [← hP2] at b4 hsz ⊢
    by_cases he : d[i].1 = 0
    · simp [r_20_7, b4, he]
      refine W_drawL ?_
      obtain ⟨wr, hlr, kr⟩ := RowsV.load ks hir
      simp [r_20_8, g3, g8, b3, b0, ks.ia hir, hlr]
      have hBlt : ∀ b, slB sB = some b → b < G3.size := fun b h => (hB.ge h).2
      have hlA := probA_len (rows.take i) (d.take i)
      have hlB := probB_len (rows.take i) (d.take i)
      simp only [List.length_take] at hlA hlB
      refine (dom_own_does kr (by have := hx.1; omega) (hr _ (List.getElem_mem hir)).1 hS (hr _ (List.getElem_mem hir)).2).mono ?_
      rintro r G2 ⟨kw, hx2⟩
      (try replace b0 := hx2.blk b0); (try replace b1 := hx2.blk b1); (try replace b2 := hx2.blk b2); (try replace b3 := hx2.blk b3); (try replace b4 := hx2.blk b4); (try replace hx := hx.trans hx2); (try replace k0 := k0.mono hx2); (try replace k1 := k1.mono hx2); (try replace k2 := k2.mono hx2); (try replace k3 := k3.mono hx2); (try replace k4 := k4.mono hx2)
      replace ks := ks.mono monoPS hx2
      replace hA := hA.mono monoPSo hx2
      replace hB := hB.mono monoPR hx2
      replace kC := kC.mono monoPR hx2
      have hrB : slB r = none ∨ slB r ≠ slB sB := by
        cases hr1 : slB r with
        | none => exact .inl rfl
        | some b =>
          right; intro h
          have := (kw.ge hr1).1
          have := hBlt b h.symm
          omega
      obtain ⟨cr, pr⟩ := kw.cells
      obtain ⟨sA', G5, h1, h2, h3, h4⟩ := Owns.app (P := PSo (slB sB)) (sz := 1) (e := T_sl_api_Rat) (by decide)
        (fun G' cs x hxb hl ⟨w', q1, q2, q3⟩ => ⟨w', q1, q2.lx2 (hA.lxT (by decide) hxb) hl, q3⟩) hA (e2 := T_sl_api_Rat) (c := 1) (bytes := 24) (new := [r]) (x := ownL rows[i]) ⟨r, rfl, kw.sls, hrB⟩ rfl (by simp [pr]) (by omega) (by omega) (by omega) hx.1
      obtain ⟨_, _, hAe⟩ := app_fresh (by decide) h1
      have hlx := hA.lx (by decide) h3
      have hlr := hA.lxT (e' := T_api_Rat) (by decide) h3
      have nA0 := hA.ne b0 (by decide)
      have nA1 := hA.ne b1 (by decide)
      have nA3 := hA.ne b3 (by decide)
      have nA4 := hA.ne b4 (by decide)
      have hAo := hA.blkOf
      replace b0 := (h3.2 _ (blk_lt b0) nA0).trans b0
      replace b1 := (h3.2 _ (blk_lt b1) nA1).trans b1
      replace b3 := (h3.2 _ (blk_lt b3) nA3).trans b3
      replace b4 := (h3.2 _ (blk_lt b4) nA4).trans b4
      replace hx := h4 _ (Nat.le_refl _) hx
      replace k1 := k1.lx hlx
      replace k2 := k2.lx hlx
      replace kC := RatsV.lx2 kC hlr hlx
      replace hB := hB.lxm (Q' := PR) hlr (fun cs x h => RatV.lx h hlx)
      simp [g8, b3, b4, cr, h1]
      refine (rat_Add_does (a := d[i].2) ⟨s1, s2, rfl, k1, k2⟩ (b := rawZ) ratv_rawZ (by have := hx.1; omega) (hfd _ (List.getElem_mem hi)) (by decide)).mono ?_
      rintro _ G6 ⟨⟨s3, s4, rfl, k3, k4⟩, hx2⟩
      (try replace b0 := hx2.blk b0); (try replace b1 := hx2.blk b1); (try replace b2 := hx2.blk b2); (try replace b3 := hx2.blk b3); (try replace b4 := hx2.blk b4); (try replace hx := hx.trans hx2); (try replace k0 := k0.mono hx2); (try replace k1 := k1.mono hx2); (try replace k2 := k2.mono hx2); (try replace k3 := k3.mono hx2); (try replace k4 := k4.mono hx2)
      replace hA := h2.mono monoPSo hx2
      replace hB := hB.mono monoPR hx2
      replace kC := kC.mono monoPR hx2
      rw [valR_rawZ, Rat.add_zero] at k3 k4 ⊢
      obtain ⟨sB', G7, p1, p2, p3, p4⟩ := Owns.app (P := PR) (sz := 4) (e := T_api_Rat) (by decide) (fun G' cs x _ hl h => RatV.lx h hl) hB (e2 := T_api_Rat) (c := 1) (bytes := 64) (new := [.bool (canonR (valR d[i].2)).1.1, s3, .bool (canonR (valR d[i].2)).2.1, s4]) (x := canonR (valR d[i].2)) ⟨s3, s4, rfl, k3, k4⟩ rfl (by simp [k3.plain, k4.plain]) (by omega) (by omega) (by omega) hx.1
      obtain ⟨_, _, hBe⟩ := app_fresh (by decide) p1
      have hlx := hB.lx (by decide) p3
      have nB0 := hB.ne b0 (by decide)
      have nB1 := hB.ne b1 (by decide)
      have nB3 := hB.ne b3 (by decide)
      have nB4 := hB.ne b4 (by decide)
      have hsBn : slB sB' = some (G6.size + 1) := by rw [hBe]; simp [slB]
      have hA' : Owns (PSo (slB sB')) H.size G7 T_sl_api_Rat 1 sA' (probA (rows.take (i + 1)) (d.take (i + 1))) := by
        rw [probA_succ hir hi, if_pos he]
        refine hA.lxm (hB.lxT (by decide) p3) (fun cs x ⟨w', q1, q2, q3⟩ => ⟨w', q1, q2.off p3 q3 hlx, ?_⟩)
        cases hw : slB w' with
        | none => exact .inl rfl
        | some b => right; rw [hsBn]; have := q2.lt hw; simp; omega
      have hCB' : slB sC = none ∨ slB sC ≠ slB sB' := by
        cases hw : slB sC with
        | none => exact .inl rfl
        | some b => right; rw [hsBn]; have := RatsV.lt kC hw; simp; omega
      replace kC := RatsV.off kC p3 hCB hlx
      replace b0 := (p3.2 _ (blk_lt b0) nB0).trans b0
      replace b1 := (p3.2 _ (blk_lt b1) nB1).trans b1
      replace b3 := (p3.2 _ (blk_lt b3) nB3).trans b3
      replace hx := p4 _ (Nat.le_refl _) hx
      have hB' : Owns PR H.size G7 T_api_Rat 4 sB' (probB (rows.take (i + 1)) (d.take (i + 1))) := by rw [probB_succ hir hi, if_pos he]; exact p2
      obtain ⟨cA, pA⟩ := hA'.cells
      obtain ⟨cB, pB⟩ := hB'.cells
      have hz := blk_lt b3
      simp [g8, b3, k3.cells, k4.cells, p1, cA, pA, cB, pB, hPH, hz]
      generalize hS1 : Array.setIfInBounds G7 P _ = G8
      have t1 : ∀ {e : Nat}, T_api_LP ≠ e → LxT e G7 G8 := fun hne => set_lxT hS1 b3 hne
      have n0 : P ≠ H.size := by intro h; rw [h, b0] at b3; cases b3
      have hbo : ∀ x, x ∈ blkW sA → slB sA = some x := by
        rcases hAo with h | ⟨b, h, h'⟩
        · rw [h]; simp
        · rw [h, h']; simp
      refine ⟨⟨fun x hx h => nA3 (by rw [hbo x hx, h]), fun x hx h => nA4 (by rw [hbo x hx, h])⟩, Rnd.mk (by simp [gi]) (by simp [gn]) ⟨by simp [g3], by simp [g6], by simp [g8], by simp [g26], set_ext hS1 hx hPH, set_keep hS1 b0 n0, set_keep hS1 b1 hPne, sA', sB', set_new hS1 b3, ?_, ?_, ?_, hCB'⟩⟩
      · exact hA'.lxm (t1 (by decide)) (fun cs x ⟨w', q1, q2, q3⟩ => ⟨w', q1, q2.lx2 (t1 (by decide)) (t1 (by decide)), q3⟩)
      · exact hB'.lxm (t1 (by decide)) (fun cs x h => RatV.lx h (t1 (by decide)))
      · exact RatsV.lx2 kC (t1 (by decide)) (t1 (by decide))
    · simp [r_20_7, b4, he]
      refine Rnd.mk (by simp [gi]) (by simp [gn]) ⟨by simp [g3], by simp [g6], by simp [g8], by simp [g26], hx, b0, b1, sA, sB, b3, ?_, ?_, kC, hCB⟩
      · rw [probA_succ hir hi, if_neg he, List.append_nil]; exact hA
      · rw [probB_succ hir hi, if_neg he, List.append_nil]; exact hB
  · clear h0 ρ hx b0 b1 b3 kC hC hx2
    rintro ρ G gi gn ⟨g3, g6, g8, g26, hx, b0, b1, sA, sB, b3, hA, hB, kC, hCB⟩
    rw [List.take_of_length_le (by omega), List.take_length] at hA hB
    have hz := blk_lt b1
    obtain ⟨cA, pA⟩ := hA.cells
    obtain ⟨cB, pB⟩ := hB.cells
    simp [r_20_10, g6, g8, b3, b1, cA, pA, cB, pB, kC.cells, kC.plain, hz]
    generalize hS : Array.setIfInBounds _ _ _ = G9
    have t1 : ∀ {e : Nat}, T_api_LP ≠ e → LxT e G G9 := fun hne => set_lxT hS b1 hne
    refine fun _ => ⟨sA, sB, sC, rfl, ?_, RatsV.lx2 hB.sls (t1 (by decide)) (t1 (by decide)), RatsV.lx2 kC (t1 (by decide)) (t1 (by decide))⟩
    exact RowsV.lx3 (hA.imp (fun cs x ⟨w', q1, q2, _⟩ => ⟨w', q1, q2⟩)).sls (t1 (by decide)) (t1 (by decide)) (t1 (by decide))
end Go.Proofs.YtjlohmnnldbjoaaGreat.AI

/- Loops of three parts. -/
namespace Go.Proofs.YtjlohmnnldbjoaaGreat.AI
open Go

def CNext (nt i : Nat) (Inv : Nat → (Nat → Value) → Heap → Prop) (t : Tmps) (H : Heap) : Prop := ∃ ρ2, t = T nt ρ2 ∧ Inv (i + 1) ρ2 H
theorem CNext.mk {nt i : Nat} {Inv : Nat → (Nat → Value) → Heap → Prop} {ρ : Nat → Value} {H : Heap} (h : Inv (i + 1) ρ H) : CNext nt i Inv (T nt ρ) H := ⟨ρ, rfl, h⟩
theorem wrap_succ {n : Nat} (h : n < 4611686018427387904) : IntKind.i64.wrap ((n : Int) + 1) = ((n + 1 : Nat) : Int) := by rw [wrap64 (by omega) (by omega)]; omega
/-- where a round ends: what stands behind the body comes next. -/
def CEnd (E : Env) (fl nt : Nat) (rx : List SOper) (R : PostP) (i : Nat) (Inv : Nat → (Nat → Value) → Heap → Prop) (t : Tmps) (H : Heap) : Prop :=
  WR E fl rx t H (CNext nt i Inv) R
/-- where a round's test ends. -/
def CStep (E : Env) (fl nt tc b b2 n : Nat) (body : SCode) (rx : List SOper) (Z : Tmps → Heap → Prop) (Q : PostX) (R : PostP) (i : Nat) (Inv : Nat → (Nat → Value) → Heap → Prop) (t : Tmps) (H : Heap) : Prop :=
  ∃ ρ', t = T nt ρ' ∧ ρ' tc = .bool (decide (i < n)) ∧ (i < n → W E fl body (T nt ρ') H (forQ b2 b (CEnd E fl nt rx R i Inv) Z Q) R) ∧ (i = n → Z (T nt ρ') H)

section
variable {E : Env} {fl nt tc b b2 n i : Nat} {body : SCode} {rx rc : List SOper} {Z : Tmps → Heap → Prop} {Q : PostX} {R : PostP} {Inv : Nat → (Nat → Value) → Heap → Prop} {ρ : Nat → Value} {H : Heap}
theorem CStep.mk (h1 : ρ tc = .bool (decide (i < n))) (h2 : i < n → W E fl body (T nt ρ) H (forQ b2 b (CEnd E fl nt rx R i Inv) Z Q) R) (h3 : i = n → Z (T nt ρ) H) : CStep E fl nt tc b b2 n body rx Z Q R i Inv (T nt ρ) H := ⟨ρ, rfl, h1, h2, h3⟩

theorem W_cfor (Inv : Nat → (Nat → Value) → Heap → Prop) (n : Nat) (htc : tc < nt) (hI : Inv 0 ρ H)
    (step : ∀ i ρ G, i ≤ n → Inv i ρ G → WR E fl rc (T nt ρ) G (CStep E fl nt tc b b2 n body rx Z Q R i Inv) R) :
    W E fl (.loop (.seq (.seq (.reg rc) (.cond (.tmp tc) .skip (.exit b))) (.seq (.block b2 body) (.reg rx)))) (T nt ρ) H (blockW b (thenW Z Q)) R := by
  refine W_loopM (fun k t G => ∃ i ρ, i + k = n ∧ t = T nt ρ ∧ Inv i ρ G) Z n ⟨0, ρ, by omega, rfl, hI⟩ ?_ (fun _ _ h => h)
  clear hI
  rintro k t G ⟨i, ρ, hik, rfl, hI⟩
  refine W_seq (W_seq (W_reg ((step i ρ G (by omega) hI).mono ?_)))
  rintro t' G' ⟨ρ', rfl, h1, h2, h3⟩
  simp only [thenW_normal]
  by_cases hi : i < n
  · have hd : ρ' tc = .bool true := by rw [h1, decide_eq_true hi]
    refine W_cond true (by rw [ev_tmp, get_T htc, hd]) (fun _ => W_skip ?_) (by simp)
    simp only [thenW_normal]
    refine W_seq (W_block ((h2 hi).mono fun e t2 G2 hq => ?_))
    have fin : CEnd E fl nt rx R i Inv t2 G2 → thenW (fun t' H' => W E fl (.reg rx) t' H' (loopQ b (fun t' H' => ∃ k', k' < k ∧ ∃ i ρ, i + k' = n ∧ t' = T nt ρ ∧ Inv i ρ H') Z Q) R) (loopQ b (fun t' H' => ∃ k', k' < k ∧ ∃ i ρ, i + k' = n ∧ t' = T nt ρ ∧ Inv i ρ H') Z Q) .normal t2 G2 := by
      intro h
      refine W_reg (h.mono ?_)
      rintro t3 G3 ⟨ρ3, rfl, h4⟩
      exact ⟨k - 1, by omega, i + 1, ρ3, by omega, rfl, h4⟩
    cases e with
    | normal => exact fin hq
    | exit j =>
      simp only [forQ] at hq
      show (if j = b2 then _ else _)
      by_cases hj : j = b2
      · rw [if_pos hj] at hq ⊢; exact fin hq
      · rw [if_neg hj] at hq ⊢
        show (if j = b then _ else _)
        by_cases hj2 : j = b
        · rw [if_pos hj2] at hq ⊢; exact hq
        · rw [if_neg hj2] at hq ⊢; exact hq
    | ret => exact hq
  · have he : i = n := by omega
    have hd : ρ' tc = .bool false := by rw [h1, decide_eq_false hi]
    refine W_cond false (by rw [ev_tmp, get_T htc, hd]) (by simp) (fun _ => W_exit ?_)
    show (if b = b then _ else _)
    rw [if_pos rfl]
    exact h3 he
end

end Go.Proofs.YtjlohmnnldbjoaaGreat.AI

/- The references' own equality, limb by limb. -/
namespace Go.Proofs.YtjlohmnnldbjoaaGreat.AI
open Go
set_option maxHeartbeats 4000000

variable {fl : Nat} {H G : Heap} {R : PostP} {v w : Value}

theorem Same_does {i j : Bool × List Nat} (h : IntV H v i) (k : IntV H w j) (hf : fl ≤ H.size) (hn : i.2.length < 1073741824) : Does env fl f_128 [v, w] H (fun r H' => r = .bool (decide (i = j)) ∧ Ext H H') R := by
  obtain ⟨s, rfl, hs⟩ := h
  obtain ⟨u, rfl, hu⟩ := k
  obtain ⟨bi, li⟩ := i
  obtain ⟨bj, lj⟩ := j
  simp only at hs hu hn ⊢
  refine does_ext e_128 hf (h := ?_)
  intro ρ h0
  simp [s_128, r_128_0, h0]
  generalize hG : Array.push (Array.push H _) _ = G
  have hx2 : Ext H G := by rw [← hG]; exact (Ext.refl H).push.push
  have b0 : Heap.blk G H.size = .row false T_api_Int [.bool bi, s] := by rw [← hG]; simp
  have b1 : Heap.blk G (H.size + 1) = .row false T_api_Int [.bool bj, u] := by rw [← hG]; simp
  have hx := Ext.refl H
  clear hG
  (try replace b0 := hx2.blk b0); (try replace b1 := hx2.blk b1); (try replace hx := hx.trans hx2)
  have ks := hs.mono hx
  have ku := hu.mono hx
  by_cases hb : bi = bj
  · subst hb
    by_cases hl : li.length = lj.length
    · simp [r_128_1, r_128_3, h0, b0, b1, hs.slen, hu.slen, hl]
      refine W_cfor (fun n ρ G' => ρ 2 = .pointer (some ⟨H.size, 0, none⟩) ∧ ρ 3 = .pointer (some ⟨H.size + 1, 0, none⟩) ∧ ρ 5 = .int .i64 (n : Int) ∧ G' = G ∧ li.take n = lj.take n) li.length (by decide) (by simp) ?_
      rintro n ρ _ hn1 ⟨g2, g3, g5, rfl, hpre⟩
      simp [r_128_4, g2, g5, b0, ks.slen]
      refine CStep.mk (by simp) (fun hlt => ?_) (fun heq => ?_)
      · have hltj : n < lj.length := by omega
        simp
        refine W_draw ?_
        simp [r_128_5, g2, g3, g5, b0, b1, ks.ia hlt, ku.ia hltj, ks.load hlt (Ext.refl _), ku.load hltj (Ext.refl _)]
        have e1 : li.getD n 0 = li[n] := by simp [List.getD_eq_getElem?_getD, hlt]
        have e2 : lj.getD n 0 = lj[n] := by simp [List.getD_eq_getElem?_getD, hltj]
        refine ⟨fun hne => ?_, fun heq => ?_⟩
        · simp [r_128_6]
          exact fun _ he => hne (by subst he; rfl)
        · unfold CEnd
          simp [r_128_7, g5, wrap_succ (show n < 4611686018427387904 by omega)]
          refine CNext.mk ⟨by simp [g2], by simp [g3], by simp, rfl, ?_⟩
          rw [List.take_succ_eq_append_getElem hlt, List.take_succ_eq_append_getElem hltj, hpre, ← e1, ← e2, List.getD_eq_getElem?_getD, List.getD_eq_getElem?_getD, heq]
      · subst heq
        rw [List.take_length, hl, List.take_length] at hpre
        simp [r_128_8]
        exact fun _ => hpre
    · simp [r_128_1, r_128_2, h0, b0, b1, hs.slen, hu.slen, hl]
      exact fun _ he => hl (by rw [he])
  · simp [r_128_1, r_128_2, h0, b0, b1, hs.slen, hu.slen, hb]

theorem SameRat_does {a b : RawR} (h : RatV H v a) (k : RatV H w b) (hf : fl ≤ H.size) (hn : lenR a < 1073741824) : Does env fl f_94 [v, w] H (fun r H' => r = .bool (decide (a = b)) ∧ Ext H H') R := by
  obtain ⟨s, u, rfl, hs, hu⟩ := h
  obtain ⟨s', u', rfl, hs', hu'⟩ := k
  have hn1 : a.1.2.length < 1073741824 := by unfold lenR at hn; omega
  have hn2 : a.2.2.length < 1073741824 := by unfold lenR at hn; omega
  refine does_ext e_94 hf (h := ?_)
  intro ρ h0
  simp [s_94, r_94_0, h0]
  generalize hG : Array.push (Array.push H _) _ = G
  have hx2 : Ext H G := by rw [← hG]; exact (Ext.refl H).push.push
  have b0 : Heap.blk G H.size = .row false T_api_Rat [.bool a.1.1, s, .bool a.2.1, u] := by rw [← hG]; simp
  have b1 : Heap.blk G (H.size + 1) = .row false T_api_Rat [.bool b.1.1, s', .bool b.2.1, u'] := by rw [← hG]; simp
  have hx := Ext.refl H
  clear hG
  (try replace b0 := hx2.blk b0); (try replace b1 := hx2.blk b1); (try replace hx := hx.trans hx2)
  simp [r_94_1, h0, b0, b1]
  refine (Same_does (i := a.1) (j := b.1) ⟨s, rfl, hs.mono hx⟩ ⟨s', rfl, hs'.mono hx⟩ hx.1 hn1).mono ?_
  rintro _ G2 ⟨rfl, hx2⟩
  (try replace b0 := hx2.blk b0); (try replace b1 := hx2.blk b1); (try replace hx := hx.trans hx2)
  by_cases h1 : a.1 = b.1
  · simp [h1, b0, b1]
    refine (Same_does (i := a.2) (j := b.2) ⟨u, rfl, hu.mono hx⟩ ⟨u', rfl, hu'.mono hx⟩ hx.1 hn2).mono ?_
    rintro _ G2 ⟨rfl, hx2⟩
    have : (a = b) = (a.2 = b.2) := propext ⟨fun h => by rw [h], fun h => Prod.ext h1 h⟩
    simp [h1, this]
  · simp [h1]
    exact fun _ h => h1 (by rw [h])

theorem SameExt_does {a b : RawE} (h : ExtV H v a) (k : ExtV H w b) (hf : fl ≤ H.size) (hn : lenR a.2 < 1073741824) : Does env fl f_67 [v, w] H (fun r H' => r = .bool (decide (a = b)) ∧ Ext H H') R := by
  obtain ⟨s, u, rfl, hs, hu⟩ := h
  obtain ⟨s', u', rfl, hs', hu'⟩ := k
  refine does_ext e_67 hf (h := ?_)
  intro ρ h0
  simp [s_67, r_67_0, h0]
  generalize hG : Array.push (Array.push H _) _ = G
  have hx2 : Ext H G := by rw [← hG]; exact (Ext.refl H).push.push
  have b0 : Heap.blk G H.size = .row false T_api_Ext [.int .i64 a.1, .bool a.2.1.1, s, .bool a.2.2.1, u] := by rw [← hG]; simp
  have b1 : Heap.blk G (H.size + 1) = .row false T_api_Ext [.int .i64 b.1, .bool b.2.1.1, s', .bool b.2.2.1, u'] := by rw [← hG]; simp
  have hx := Ext.refl H
  clear hG
  (try replace b0 := hx2.blk b0); (try replace b1 := hx2.blk b1); (try replace hx := hx.trans hx2)
  simp [r_67_1, h0, b0, b1]
  by_cases h1 : a.1 = b.1
  · simp [h1, b0, b1]
    refine (SameRat_does (a := a.2) (b := b.2) ⟨s, u, rfl, hs.mono hx, hu.mono hx⟩ ⟨s', u', rfl, hs'.mono hx, hu'.mono hx⟩ hx.1 hn).mono ?_
    rintro _ G2 ⟨rfl, hx2⟩
    have : (a = b) = (a.2 = b.2) := propext ⟨fun h => by rw [h], fun h => Prod.ext h1 h⟩
    simp [h1, this]
  · simp [h1]
    exact fun _ h => h1 (by rw [h])

theorem SameExts_does {a b : List RawE} (ha : ExtsV H v a) (hb : ExtsV H w b) (hf : fl ≤ H.size) (hfa : FewE a) (hal : a.length < 1073741824) :
    Does env fl f_30 [v, w] H (fun r H' => r = .bool (decide (a = b)) ∧ Ext H H') R := by
  refine does_ext e_30 hf (h := ?_)
  intro ρ h0
  by_cases hl : a.length = b.length
  · simp [s_30, r_30_0, r_30_1, r_30_3, h0, ha.slen, hb.slen, hl]
    refine W_cfor (fun n ρ G => ρ 0 = v ∧ ρ 1 = w ∧ ρ 5 = .int .i64 (n : Int) ∧ Ext H G ∧ a.take n = b.take n) a.length (by decide) (by simp [h0]) ?_
    clear h0 ρ
    rintro n ρ G hn1 ⟨g0, g1, g5, hx, hpre⟩
    have ka := ha.mono monoPE hx
    have kb := hb.mono monoPE hx
    simp [r_30_4, g0, g5, ka.slen]
    refine CStep.mk (by simp) (fun hlt => ?_) (fun heq => ?_)
    · have hltb : n < b.length := by omega
      obtain ⟨wa, hla, k0⟩ := ExtsV.load ka hlt
      obtain ⟨wb, hlb, k1⟩ := ExtsV.load kb hltb
      simp
      refine W_draw ?_
      simp [r_30_5, g0, g1, g5, ka.ia hlt, kb.ia hltb, hla, hlb]
      refine (SameExt_does k0 k1 hx.1 (by have := hfa _ (List.getElem_mem hlt); omega)).mono ?_
      rintro _ G2 ⟨rfl, hx2⟩
      (try replace hx := hx.trans hx2); (try replace k0 := k0.mono hx2); (try replace k1 := k1.mono hx2)
      by_cases he : a[n] = b[n]
      · simp [he]
        unfold CEnd
        simp [r_30_7, g5, wrap_succ (show n < 4611686018427387904 by omega)]
        refine CNext.mk ⟨by simp [g0], by simp [g1], by simp, hx, ?_⟩
        rw [List.take_succ_eq_append_getElem hlt, List.take_succ_eq_append_getElem hltb, hpre, he]
      · simp [he, r_30_6]
        exact fun _ h => he (by subst h; rfl)
    · subst heq
      rw [List.take_length, hl, List.take_length] at hpre
      simp [r_30_8]
      exact fun _ => hpre
  · have hl' : ¬ ((a.length : Int) = (b.length : Int)) := by omega
    simp [s_30, r_30_0, r_30_1, r_30_2, h0, ha.slen, hb.slen, hl, hl']
    exact fun h => hl (by rw [h])

end Go.Proofs.YtjlohmnnldbjoaaGreat.AI

/- Which numbers are too long for a law. -/
namespace Go.Proofs.YtjlohmnnldbjoaaGreat.AI
open Go
set_option maxHeartbeats 4000000

variable {fl : Nat} {H G : Heap} {R : PostP} {v w : Value}

/-- where an element lies. -/
theorem Sls.at_ {α : Type} {P : Heap → List Value → α → Prop} {e sz : Nat} {l : List α} (h : Sls P H e sz v l) {j : Nat} (hj : j < l.length) (hs : 0 < sz) :
    ∃ b o cs, adr sz v j = .pointer (some ⟨b, o, none⟩) ∧ cs.length = sz ∧ P H cs l[j] ∧ loadA H true sz (.pointer (some ⟨b, o, none⟩)) = some (.agg cs.toArray) ∧
      (∀ k n, k + n ≤ sz → 0 < n → loadA H true n (.pointer (some ⟨b, o + k, none⟩)) = some (.agg ((cs.drop k).take n).toArray)) ∧
      ∀ k, k < sz → loadA H false 1 (.pointer (some ⟨b, o + k, none⟩)) = some (cs.getD k undef) := by
  obtain ⟨cs, ⟨hl, h1⟩, h2⟩ := h
  have h3 := h2 j hj
  rcases h1 with ⟨rfl, h1⟩ | ⟨b, off, cap, ro, cells, rfl, hb, ho, rfl⟩
  · omega
  · have hj2 : (j + 1) * sz ≤ l.length * sz := Nat.mul_le_mul_right sz hj
    rw [Nat.add_mul, Nat.one_mul] at hj2
    have e1 : (((cells.drop off).take (l.length * sz)).drop (j * sz)).take sz = (cells.drop (off + j * sz)).take sz := by
      rw [List.drop_take, List.take_take, List.drop_drop, Nat.min_eq_left (by omega)]
    rw [e1] at h3
    have agg : ∀ k n, k + n ≤ sz → 0 < n → loadA H true n (.pointer (some ⟨b, off + j * sz + k, none⟩)) = some (.agg ((((cells.drop (off + j * sz)).take sz).drop k).take n).toArray) := by
      intro k n hk hn
      have hc := cells_of (off := off + j * sz + k) (n := n) hb (by omega)
      simp only [loadA]
      rw [if_neg (by omega), if_neg (by simp)]
      simp only [if_true, hc]
      rw [List.drop_take, List.take_take, List.drop_drop, Nat.min_eq_left (by omega)]
    refine ⟨b, off + j * sz, _, rfl, by simp; omega, h3, ?_, agg, ?_⟩
    · have := agg 0 sz (by omega) hs
      simpa [List.take_take] using this
    · intro k hk
      have hc := cells_of (off := off + j * sz + k) (n := 1) hb (by omega)
      simp only [loadA]
      rw [if_neg (by simp), if_neg (by simp)]
      simp only [hc, Bool.false_eq_true, if_false]
      rw [List.head?_take, if_neg (by simp), List.head?_drop, List.getD_eq_getElem?_getD, List.getElem?_take, if_pos (by omega), List.getElem?_drop]
      rw [List.getElem?_eq_getElem (by omega)]
      rfl

def longR (a : RawR) : Bool := decide (6 < a.1.2.length) || decide (6 < a.2.2.length)
def longE (e : RawE) : Bool := longR e.2

theorem Great2_does {l : List RawR} (h : RatsV H v l) (hf : fl ≤ H.size) (hl : l.length < 1073741824) : Does env fl f_48 [v] H (fun r H' => r = .bool (anyB longR l) ∧ Ext H H') R := by
  refine does_ext e_48 hf (h := ?_)
  intro ρ h0
  simp [s_48, r_48_0, r_48_1, h0]
  refine W_cfor (fun n ρ G => ρ 0 = v ∧ ρ 3 = .int .i64 (n : Int) ∧ Ext H G ∧ anyB longR (l.take n) = false) l.length (by decide) (by simp [h0, anyB_nil]) ?_
  clear h0 ρ
  rintro n ρ G hn1 ⟨g0, g3, hx, hpre⟩
  have k := h.mono monoPR hx
  simp [r_48_2, g0, g3, k.slen]
  refine CStep.mk (by simp) (fun hlt => ?_) (fun heq => ?_)
  · obtain ⟨b, o, cs, ha, hcl, hp, hall, hagg, hc⟩ := k.at_ hlt (by decide)
    obtain ⟨s, u, hcs, hs, hu⟩ := hp
    have hcs2 : cs = [.bool l[n].1.1, s, .bool l[n].2.1, u] := by simpa using congrArg (fun v => match v with | Value.agg a => a.toList | _ => []) hcs
    subst hcs2
    have c1 := hc 1 (by decide)
    have c3 := hc 3 (by decide)
    simp at c1 c3
    have hb : anyB longR (l.take (n + 1)) = longR l[n] := by rw [anyB_succ hlt, hpre, Bool.false_or]
    have yes : longR l[n] = true → anyB longR l = true := anyB_yes hlt
    by_cases h1 : 6 < l[n].1.2.length
    · have h1' : (6 : Int) < (l[n].1.2.length : Int) := by omega
      simp [r_48_3, g0, g3, k.ia hlt, ha, c1, c3, hs.slen, hu.slen, h1, h1', r_48_4]
      exact fun _ => yes (by simp [longR, h1])
    · have h1' : ¬ (6 : Int) < (l[n].1.2.length : Int) := by omega
      by_cases h2 : 6 < l[n].2.2.length
      · have h2' : (6 : Int) < (l[n].2.2.length : Int) := by omega
        simp [r_48_3, g0, g3, k.ia hlt, ha, c1, c3, hs.slen, hu.slen, h1, h1', h2, h2', r_48_4]
        exact fun _ => yes (by simp [longR, h2])
      · have h2' : ¬ (6 : Int) < (l[n].2.2.length : Int) := by omega
        simp [r_48_3, g0, g3, k.ia hlt, ha, c1, c3, hs.slen, hu.slen, h1, h1', h2, h2']
        unfold CEnd
        simp [r_48_5, g3, wrap_succ (show n < 4611686018427387904 by omega)]
        refine CNext.mk ⟨by simp [g0], by simp, hx, ?_⟩
        rw [hb]; simp [longR, h1, h2]
  · subst heq
    rw [List.take_length] at hpre
    simp [r_48_6]
    exact fun _ => hpre

theorem ratsv_one {a : RawR} {p : Nat} {ro : Bool} {cs : List Value} (hb : H.blk p = .row ro T_api_Rat cs) (h : RatV H (.agg cs.toArray) a) : RatsV H (.slice (some ⟨p, 0, none⟩) 1 1) [a] := by
  have hl : cs.length = 4 := by
    obtain ⟨s, u, hc, _⟩ := h
    have hc' : cs = [.bool a.1.1, s, .bool a.2.1, u] := by simpa using congrArg (fun v => match v with | Value.agg a => a.toList | _ => []) hc
    rw [hc']; rfl
  refine ⟨cs, ⟨by simp [hl], .inr ⟨p, 0, 1, ro, cs, rfl, hb, by simp [hl], by simp [← hl]⟩⟩, ?_⟩
  intro j hj
  have : j = 0 := by simpa using hj
  subst this
  simp only [Nat.zero_mul, List.drop_zero, List.getElem_cons_zero]
  rw [← hl, List.take_length]
  exact h

theorem Great18_any {l : List RawE} (h : ExtsV H v l) (hf : fl ≤ H.size) : Does env fl f_19 [v] H (fun r H' => r = .bool (decide (100 < l.length) || anyB longE l) ∧ Ext H H') R := by
  refine does_ext e_19 hf (h := ?_)
  intro ρ h0
  by_cases h1 : 100 < l.length
  · have h1' : (100 : Int) < (l.length : Int) := by omega
    simp [s_19, r_19_0, r_19_1, r_19_2, h0, h.slen, h1, h1']
  have h1' : ¬ (100 : Int) < (l.length : Int) := by omega
  have hl : l.length < 1073741824 := by omega
  simp [s_19, r_19_0, r_19_1, r_19_3, h0, h.slen, h1, h1']
  refine W_cfor (fun n ρ G => ρ 0 = v ∧ ρ 3 = .int .i64 (n : Int) ∧ Ext H G ∧ anyB longE (l.take n) = false) l.length (by decide) (by simp [h0, anyB_nil]) ?_
  clear h0 ρ
  rintro n ρ G hn1 ⟨g0, g3, hx, hpre⟩
  have k := h.mono monoPE hx
  simp [r_19_4, g0, g3, k.slen]
  refine CStep.mk (by simp) (fun hlt => ?_) (fun heq => ?_)
  · obtain ⟨b, o, cs, ha, hcl, hp, hall, hagg, hc⟩ := k.at_ hlt (by decide)
    obtain ⟨s, u, hcs, hs, hu⟩ := hp
    have hcs2 : cs = [.int .i64 l[n].1, .bool l[n].2.1.1, s, .bool l[n].2.2.1, u] := by simpa using congrArg (fun v => match v with | Value.agg a => a.toList | _ => []) hcs
    subst hcs2
    have c1 := hagg 1 4 (by decide) (by decide)
    simp at c1
    have hb : anyB longE (l.take (n + 1)) = longE l[n] := by rw [anyB_succ hlt, hpre, Bool.false_or]
    have yes : longE l[n] = true → anyB longE l = true := anyB_yes hlt
    simp [r_19_5, g0, g3, k.ia hlt, ha, c1]
    generalize hG : Array.push G _ = G1
    obtain ⟨hx2, b0⟩ := new0 hG
    clear hG
    replace hx := hx.trans hx2
    replace k := k.mono monoPE hx2
    have k0 : RatsV G1 (.slice (some ⟨G.size, 0, none⟩) 1 1) [l[n].2] := ratsv_one b0 ⟨s, u, rfl, hs.mono hx2, hu.mono hx2⟩
    refine (Great2_does k0 hx.1 (by simp)).mono ?_
    rintro _ G2 ⟨rfl, hx2⟩
    replace hx := hx.trans hx2
    have hone : anyB longR [l[n].2] = longE l[n] := by simp [anyB, longE]
    by_cases h2 : longE l[n] = true
    · simp [hone, h2, r_19_6]
      exact fun _ => yes h2
    · rw [Bool.not_eq_true] at h2
      simp [hone, h2]
      unfold CEnd
      simp [r_19_7, g3, wrap_succ (show n < 4611686018427387904 by omega)]
      refine CNext.mk ⟨by simp [g0], by simp, hx, ?_⟩
      rw [hb, h2]
  · subst heq
    rw [List.take_length] at hpre
    simp [r_19_8]
    exact fun _ => hpre

theorem Great18_does {l : List RawE} (h : ExtsV H v l) (hf : fl ≤ H.size) (_ : l.length < 1073741824) : Does env fl f_19 [v] H (fun r H' => r = .bool (decide (100 < l.length) || anyB longE l) ∧ Ext H H') R := Great18_any h hf

end Go.Proofs.YtjlohmnnldbjoaaGreat.AI

/- What a law is handed, as lists. -/
namespace Go.Proofs.YtjlohmnnldbjoaaGreat.AI
open Go

variable {H : Heap} {v : Value} {m : Nat} {cs : List Value}

theorem exists_list {α : Type} {Q : Nat → α → Prop} : ∀ n, (∀ i, i < n → ∃ x, Q i x) → ∃ l : List α, l.length = n ∧ ∀ i (h : i < l.length), Q i l[i]
  | 0, _ => ⟨[], rfl, fun i h => by simp at h⟩
  | n + 1, h => by
    obtain ⟨l, h1, h2⟩ := exists_list n (fun i hi => h i (by omega))
    obtain ⟨x, hx⟩ := h n (by omega)
    refine ⟨l ++ [x], by simp [h1], fun i hi => ?_⟩
    by_cases h3 : i < l.length
    · rw [List.getElem_append_left h3]; exact h2 i h3
    · have : i = n := by simp at hi; omega
      subst this
      rw [List.getElem_append_right (by omega)]
      simpa [h1] using hx

theorem isSls {α : Type} {Pr : Program} {P : Heap → List Value → α → Prop} {t e : TypeId} {sz : Nat} (hu : Pr.underlying t = some (.slice e)) (hc : Pr.cellsOf e = sz)
    (hel : ∀ cs, cs.length = sz → IsT Pr H m e cs → ∃ x, P H cs x) (h : IsT Pr H (m + 1) t [v]) : ∃ l, Sls P H e sz v l := by
  unfold IsT at h
  rw [hu] at h
  rcases h with h | ⟨b, len, cap, cells, h1, h2, h3, h4, h5, h6⟩
  · have : v = .slice none 0 0 := by simpa using h
    subst this
    exact ⟨[], Sls.nil⟩
  · have : v = .slice (some ⟨b, 0, none⟩) len cap := by simpa using h1
    subst this
    rw [hc] at h5 h6
    have hj : ∀ i, i < len → i * sz + sz ≤ cells.length := by
      intro i hi
      have : (i + 1) * sz ≤ len * sz := Nat.mul_le_mul_right _ hi
      rw [Nat.add_mul, Nat.one_mul] at this
      omega
    obtain ⟨l, hl, hk⟩ := exists_list (Q := fun i x => P H ((cells.drop (i * sz)).take sz) x) len (fun i hi => hel _ (by have := hj i hi; simp; omega) (h6 i hi))
    subst hl
    refine ⟨l, cells, ⟨h5, .inr ⟨b, 0, cap, true, cells, rfl, h4, by omega, ?_⟩⟩, hk⟩
    rw [List.drop_zero, ← h5, List.take_length]

/-- the types that a law is handed. -/
structure Types (P : Program) : Prop where
  u3 : P.underlying 3 = some (.int .i64)
  u4 : P.underlying 4 = some .bool
  u103 : P.underlying 103 = some (.int .u32)
  u28 : P.underlying 28 = some (.slice 103)
  u30 : ∃ f g : Field, P.underlying 30 = some (.struct #[f, g]) ∧ f.type = 4 ∧ g.type = 28
  u32 : ∃ f g : Field, P.underlying 32 = some (.struct #[f, g]) ∧ f.type = 30 ∧ g.type = 30
  u34 : ∃ f g : Field, P.underlying 34 = some (.struct #[f, g]) ∧ f.type = 3 ∧ g.type = 32
  u37 : P.underlying 37 = some (.slice 32)
  u27 : P.underlying 27 = some (.slice 34)
  u23 : P.underlying 23 = some (.slice 37)
  u25 : ∃ f : Field, P.underlying 25 = some (.struct #[f]) ∧ f.type = 23
  c103 : P.cellsOf 103 = 1
  c37 : P.cellsOf 37 = 1
  c32 : P.cellsOf 32 = 4
  c34 : P.cellsOf 34 = 5
variable {P : Program}

theorem isLim (hP : Types P) (h : IsT P H (m + 2) 28 [v]) : ∃ l, Lim H v l := by
  obtain ⟨l, h⟩ := isSls (P := fun _ cs (x : Nat) => cs = [.int .u32 (x : Nat)] ∧ x < 4294967296) (sz := 1) hP.u28 hP.c103 (fun cs _ h => by
    unfold IsT at h
    rw [hP.u103] at h
    obtain ⟨n, rfl, hn⟩ := h
    simp only [Lit.wf, Bool.and_eq_true, decide_eq_true_eq] at hn
    have h0 : 0 ≤ n := hn.1
    have h1 : n ≤ 4294967295 := hn.2
    exact ⟨n.toNat, by rw [Int.toNat_of_nonneg h0], by omega⟩) h
  obtain ⟨cs, h1, h2⟩ := h
  refine ⟨l, ?_, fun x hx => ?_⟩
  · have : cs = u32s l := by
      apply List.ext_getElem
      · have := h1.1; simp [u32s]; omega
      · intro i h3 h4
        have h5 : i < l.length := by simpa using h4
        have h6 := (h2 i h5).1
        rw [Nat.mul_one, List.drop_eq_getElem_cons h3, List.take_succ_cons] at h6
        have h7 := (List.cons.inj h6).1
        rw [h7]; simp [u32s]
    rw [← this]; exact h1
  · obtain ⟨i, hi, rfl⟩ := List.getElem_of_mem hx
    exact (h2 i hi).2

theorem isBool (hP : Types P) (h : IsT P H (m + 1) 4 cs) : ∃ b, cs = [.bool b] := by
  unfold IsT at h
  rw [hP.u4] at h; exact h
theorem isWhole (hP : Types P) (h : IsT P H (m + 1) 3 cs) : ∃ n, cs = [.int .i64 n] := by
  unfold IsT at h
  rw [hP.u3] at h
  obtain ⟨n, h, _⟩ := h; exact ⟨n, h⟩
theorem isOne (hP : Types P) (h : IsT P H (m + 1) 28 cs) : ∃ v, cs = [v] := by
  unfold IsT at h
  rw [hP.u28] at h
  rcases h with h | ⟨b, len, cap, cells, h, _⟩ <;> exact ⟨_, h⟩

theorem isInt (hP : Types P) (h : IsT P H (m + 3) 30 cs) : ∃ b s l, cs = [.bool b, s] ∧ Lim H s l := by
  obtain ⟨f, g, hu, h1, h2⟩ := hP.u30
  unfold IsT at h
  rw [hu] at h
  obtain ⟨parts, rfl, hl, hp⟩ := h
  obtain ⟨p, q, rfl⟩ : ∃ p q, parts = [p, q] := by
    match parts, hl with
    | [p, q], _ => exact ⟨p, q, rfl⟩
  obtain ⟨b, rfl⟩ := isBool hP (by simpa [h1] using hp 0 _ rfl)
  have h1' : IsT P H (m + 2) 28 q := by simpa [h2] using hp 1 _ rfl
  obtain ⟨s, rfl⟩ := isOne hP h1'
  obtain ⟨l, hl⟩ := isLim hP h1'
  exact ⟨b, s, l, rfl, hl⟩

theorem isRat (hP : Types P) (h : IsT P H (m + 4) 32 cs) : ∃ a, RatV H (.agg cs.toArray) a := by
  obtain ⟨f, g, hu, h1, h2⟩ := hP.u32
  unfold IsT at h
  rw [hu] at h
  obtain ⟨parts, rfl, hl, hp⟩ := h
  obtain ⟨p, q, rfl⟩ : ∃ p q, parts = [p, q] := by
    match parts, hl with
    | [p, q], _ => exact ⟨p, q, rfl⟩
  obtain ⟨b, s, l, rfl, hs⟩ := isInt hP (by simpa [h1] using hp 0 _ rfl)
  obtain ⟨c, u, k, rfl, hu⟩ := isInt hP (by simpa [h2] using hp 1 _ rfl)
  exact ⟨((b, l), (c, k)), s, u, rfl, hs, hu⟩

theorem isExt (hP : Types P) (h : IsT P H (m + 5) 34 cs) : ∃ e, ExtV H (.agg cs.toArray) e := by
  obtain ⟨f, g, hu, h1, h2⟩ := hP.u34
  unfold IsT at h
  rw [hu] at h
  obtain ⟨parts, rfl, hl, hp⟩ := h
  obtain ⟨p, q, rfl⟩ : ∃ p q, parts = [p, q] := by
    match parts, hl with
    | [p, q], _ => exact ⟨p, q, rfl⟩
  obtain ⟨n, rfl⟩ := isWhole hP (by simpa [h1] using hp 0 _ rfl)
  obtain ⟨a, s, u, hc, hs, hu⟩ := isRat hP (by simpa [h2] using hp 1 _ rfl)
  have hc2 : q = [.bool a.1.1, s, .bool a.2.1, u] := by simpa using congrArg (fun v => match v with | Value.agg a => a.toList | _ => []) hc
  subst hc2
  exact ⟨(n, a), s, u, rfl, hs, hu⟩

theorem isRats (hP : Types P) (h : IsT P H (m + 5) 37 [v]) : ∃ l, RatsV H v l := isSls hP.u37 hP.c32 (fun _ _ h => isRat hP h) h
theorem isExts (hP : Types P) (h : IsT P H (m + 6) 27 [v]) : ∃ l, ExtsV H v l := isSls hP.u27 hP.c34 (fun _ _ h => isExt hP h) h
theorem isRows (hP : Types P) (h : IsT P H (m + 6) 23 [v]) : ∃ l, RowsV H v l := isSls hP.u23 hP.c37 (fun cs hc h => by
  obtain ⟨w, rfl⟩ : ∃ w, cs = [w] := by
    match cs, hc with
    | [w], _ => exact ⟨w, rfl⟩
  obtain ⟨l, hl⟩ := isRats hP h
  exact ⟨l, w, rfl, hl⟩) h

theorem argExts (hP : Types P) (h : IsV P H (m + 6) 27 v) : ∃ l, ExtsV H v l := by
  unfold IsV at h; rw [hP.u27] at h; exact isExts hP h
theorem argRats (hP : Types P) (h : IsV P H (m + 5) 37 v) : ∃ l, RatsV H v l := by
  unfold IsV at h; rw [hP.u37] at h; exact isRats hP h
theorem argWhole (hP : Types P) (h : IsV P H (m + 1) 3 v) : ∃ n, v = .int .i64 n := by
  unfold IsV at h; rw [hP.u3] at h
  obtain ⟨n, h⟩ := isWhole hP h; exact ⟨n, by simpa using h⟩
theorem argTempl (hP : Types P) (h : IsV P H (m + 7) 25 v) : ∃ rows, TemplV H v rows := by
  obtain ⟨f, hu, h1⟩ := hP.u25
  unfold IsV at h; rw [hu] at h
  obtain ⟨cs, rfl, h⟩ := h
  unfold IsT at h
  rw [hu] at h
  obtain ⟨parts, hc, hl, hp⟩ := h
  obtain ⟨p, rfl⟩ : ∃ p, parts = [p] := by
    match parts, hl with
    | [p], _ => exact ⟨p, rfl⟩
  have h1' : IsT P H (m + 6) 23 p := by simpa [h1] using hp 0 _ rfl
  obtain ⟨s, rfl⟩ : ∃ s, p = [s] := by
    unfold IsT at h1'
    rw [hP.u23] at h1'
    rcases h1' with h | ⟨b, len, cap, cells, h, _⟩ <;> exact ⟨_, h⟩
  obtain ⟨l, hl⟩ := isRows hP h1'
  have : cs = #[s] := by rw [← Array.toList_inj]; simpa using hc
  exact ⟨l, s, by rw [this], hl⟩

/-- the first so many. -/
theorem Sls.first {α : Type} {P : Heap → List Value → α → Prop} {e sz : Nat} {l : List α} (h : Sls P H e sz v l) {n : Nat} (hn : n ≤ l.length) {k : IntKind} :
    ∃ v', sliceA sz v none (some (.int k n)) none = some v' ∧ Sls P H e sz v' (l.take n) ∧ elemOk H e v = true := by
  obtain ⟨cs, h1, h2⟩ := h
  obtain ⟨v', h3, h4⟩ := h1.slice (lo := 0) (hi := n) (x := none) (y := some (.int k n)) (Nat.zero_le _) hn rfl (by simp [bnd])
  refine ⟨v', h3, ⟨_, by rw [List.length_take, Nat.min_eq_left hn]; simpa using h4, ?_⟩, h1.elemOk (Ext.refl _)⟩
  intro j hj
  have hj2 : j < n := by simp at hj; omega
  have hj3 : (j + 1) * sz ≤ n * sz := Nat.mul_le_mul_right _ hj2
  rw [Nat.add_mul, Nat.one_mul] at hj3
  have := h2 j (by omega)
  simp only [List.getElem_take, Nat.sub_zero, Nat.zero_mul, List.drop_zero]
  rw [List.drop_take, List.take_take, Nat.min_eq_left (by omega)]
  exact this

theorem three_exts (hP : Types P) {vs : List Value} (h : IsVs P H 12 [27, 27, 27] vs) : ∃ u v w a b c, vs = [u, v, w] ∧ ExtsV H u a ∧ ExtsV H v b ∧ ExtsV H w c := by
  obtain ⟨u, v, w, rfl, h1, h2, h3⟩ := isVs_three h
  obtain ⟨a, ha⟩ := argExts (m := 6) hP h1
  obtain ⟨b, hb⟩ := argExts (m := 6) hP h2
  obtain ⟨c, hc⟩ := argExts (m := 6) hP h3
  exact ⟨u, v, w, a, b, c, rfl, ha, hb, hc⟩
theorem handed_within (hP : Types P) {vs : List Value} (h : IsVs P H 12 [25, 27, 27, 37] vs) : ∃ u v w x rows a b c, vs = [u, v, w, x] ∧ TemplV H u rows ∧ ExtsV H v a ∧ ExtsV H w b ∧ RatsV H x c := by
  obtain ⟨u, v, w, x, rfl, h1, h2, h3, h4⟩ := isVs_four h
  obtain ⟨t, ht⟩ := argTempl (m := 5) hP h1
  obtain ⟨a, ha⟩ := argExts (m := 6) hP h2
  obtain ⟨b, hb⟩ := argExts (m := 6) hP h3
  obtain ⟨c, hc⟩ := argRats (m := 7) hP h4
  exact ⟨u, v, w, x, t, a, b, c, rfl, ht, ha, hb, hc⟩

theorem types : Types Tryz.prog where
  u3 := Tryz.underlying3
  u4 := by kernel_rfl
  u103 := Tryz.underlying103
  u28 := Tryz.underlying28
  u30 := ⟨_, _, Tryz.underlying30, rfl, rfl⟩
  u32 := ⟨_, _, Tryz.underlying32, rfl, rfl⟩
  u34 := ⟨_, _, Tryz.underlying34, rfl, rfl⟩
  u37 := Tryz.underlying37
  u27 := Tryz.underlying27
  u23 := Tryz.underlying23
  u25 := ⟨_, Tryz.underlying25, rfl⟩
  c103 := by kernel_rfl
  c37 := by kernel_rfl
  c32 := by kernel_rfl
  c34 := by kernel_rfl

end Go.Proofs.YtjlohmnnldbjoaaGreat.AI

/- Join is the least above, Meet the greatest below, and Le is told by Join: of quotients with two ends. -/
namespace Go.Proofs.YtjlohmnnldbjoaaGreat.AI
open Go

theorem cmpE_pos {x y : Int × Rat} : 0 < cmpE x y ↔ y.1 < x.1 ∨ (x.1 = y.1 ∧ x.1 = 0 ∧ y.2 < x.2) := by
  unfold cmpE
  by_cases h1 : x.1 < y.1
  · rw [if_pos h1]; constructor
    · intro h; exact absurd h (by decide)
    · rintro (h | ⟨h, _⟩) <;> omega
  · rw [if_neg h1]
    by_cases h2 : x.1 > y.1
    · rw [if_pos h2]; exact ⟨fun _ => .inl h2, fun _ => by decide⟩
    · rw [if_neg h2]
      have h3 : x.1 = y.1 := by omega
      by_cases h4 : x.1 ≠ 0
      · rw [if_pos h4]; constructor
        · intro h; exact absurd h (by decide)
        · rintro (h | ⟨_, h, _⟩)
          · omega
          · exact absurd h h4
      · rw [if_neg h4, cmpR_gt]
        have h4' : x.1 = 0 := by omega
        exact ⟨fun h => .inr ⟨h3, h4', h⟩, fun h => by rcases h with h | ⟨_, _, h⟩; exact absurd h h2; exact h⟩

theorem cmpE_neg {x y : Int × Rat} : cmpE x y < 0 ↔ 0 < cmpE y x := by
  rw [cmpE_pos]
  unfold cmpE
  by_cases h1 : x.1 < y.1
  · rw [if_pos h1]; exact ⟨fun _ => .inl h1, fun _ => by decide⟩
  · rw [if_neg h1]
    by_cases h2 : x.1 > y.1
    · rw [if_pos h2]; constructor
      · intro h; exact absurd h (by decide)
      · rintro (h | ⟨h, _⟩) <;> omega
    · rw [if_neg h2]
      have h3 : x.1 = y.1 := by omega
      by_cases h4 : x.1 ≠ 0
      · rw [if_pos h4]; constructor
        · intro h; exact absurd h (by decide)
        · rintro (h | ⟨_, h, _⟩)
          · omega
          · exact absurd (h3.trans h) h4
      · rw [if_neg h4, cmpR_lt]
        have h4' : x.1 = 0 := by omega
        exact ⟨fun h => .inr ⟨h3.symm, h3 ▸ h4', h⟩, fun h => by rcases h with h | ⟨_, _, h⟩; exact absurd h h1; exact h⟩

/-- at most. -/
def atm (x y : Int × Rat) : Prop := ¬ 0 < cmpE x y
theorem atm_iff {x y : Int × Rat} : atm x y ↔ x.1 < y.1 ∨ (x.1 = y.1 ∧ (x.1 = 0 → x.2 ≤ y.2)) := by
  unfold atm
  rw [cmpE_pos]
  constructor
  · intro h
    by_cases h1 : x.1 < y.1
    · exact .inl h1
    · have h2 : ¬ y.1 < x.1 := fun h2 => h (.inl h2)
      have h3 : x.1 = y.1 := by omega
      exact .inr ⟨h3, fun h4 => Rat.not_lt.1 fun h5 => h (.inr ⟨h3, h4, h5⟩)⟩
  · rintro (h | ⟨h1, h2⟩) (h3 | ⟨h3, h4, h5⟩)
    · omega
    · omega
    · omega
    · exact (Rat.not_lt.2 (h2 h4)) h5
theorem atm_refl (x : Int × Rat) : atm x x := atm_iff.2 (.inr ⟨rfl, fun _ => Rat.le_refl⟩)
theorem atm_trans {x y z : Int × Rat} (h : atm x y) (k : atm y z) : atm x z := by
  rw [atm_iff] at *
  rcases h with h | ⟨h1, h2⟩ <;> rcases k with k | ⟨k1, k2⟩
  · exact .inl (by omega)
  · exact .inl (by omega)
  · exact .inl (by omega)
  · exact .inr ⟨by omega, fun h0 => Rat.le_trans (h2 h0) (k2 (by omega))⟩
theorem atm_of_neg {x y : Int × Rat} (h : cmpE x y < 0) : atm x y := by unfold atm; omega
theorem atm_of_not_neg {x y : Int × Rat} (h : ¬ cmpE x y < 0) : atm y x := by unfold atm; rwa [← cmpE_neg]
theorem atm_of_pos {x y : Int × Rat} (h : 0 < cmpE x y) : atm y x := by
  unfold atm; intro k; rw [← cmpE_neg] at k; omega

/-- in its least form. -/
def okE (x : Int × Rat) : Prop := x.1 = 0 ∨ ((x.1 = -1 ∨ x.1 = 1) ∧ x.2 = 0)
theorem ok_valE (e : RawE) : okE (valE e) := by
  unfold okE valE
  by_cases h : mayE e = true
  · rw [if_pos h]
    by_cases h0 : e.1 = 0
    · rw [if_pos h0]; exact .inl rfl
    · rw [if_neg h0]
      refine .inr ⟨?_, rfl⟩
      unfold mayE at h
      by_cases h1 : e.1 = -1 ∨ e.1 = 1
      · exact h1
      · rw [if_neg h1, if_neg h0] at h; exact absurd h (by decide)
  · rw [if_neg h]; exact .inl rfl
theorem atm_anti {x y : Int × Rat} (hx : okE x) (hy : okE y) (h : atm x y) (k : atm y x) : x = y := by
  rw [atm_iff] at h k
  rcases h with h | ⟨h1, h2⟩ <;> rcases k with k | ⟨k1, k2⟩ <;> (first | (exfalso; omega) | skip)
  refine Prod.ext h1 ?_
  by_cases h0 : x.1 = 0
  · exact Rat.le_antisymm (h2 h0) (k2 (h1 ▸ h0))
  · rcases hx with hx | ⟨_, hx⟩
    · exact absurd hx h0
    · rcases hy with hy | ⟨_, hy⟩
      · exact absurd (h1.trans hy) h0
      · rw [hx, hy]
theorem valE_canonE {x : Int × Rat} (h : okE x) : valE (canonE x) = x := by
  obtain ⟨k, q⟩ := x
  unfold canonE
  by_cases h0 : k = 0
  · subst h0
    rw [if_pos rfl]; exact valE_canon0 q
  · rcases h with h | ⟨h1, h2⟩
    · exact absurd h h0
    · simp only at h1 h2 h0 ⊢
      subst h2
      rw [if_neg h0]
      have hm : mayE (k, ((false, []), (false, []))) = true := by
        unfold mayE; simp only; rw [if_pos h1]; rfl
      unfold valE
      rw [if_pos hm]; simp only; rw [if_neg h0]

variable {e f g : RawE}
theorem val_max : valE (maxE e f) = if cmpE (valE e) (valE f) < 0 then valE f else valE e := by
  unfold maxE
  refine valE_canonE ?_
  split
  · exact ok_valE f
  · exact ok_valE e
theorem val_min : valE (minE e f) = if 0 < cmpE (valE e) (valE f) then valE f else valE e := by
  unfold minE
  refine valE_canonE ?_
  split
  · exact ok_valE f
  · exact ok_valE e
theorem max_l : atm (valE e) (valE (maxE e f)) := by
  rw [val_max]; split
  · exact atm_of_neg ‹_›
  · exact atm_refl _
theorem max_r : atm (valE f) (valE (maxE e f)) := by
  rw [val_max]; split
  · exact atm_refl _
  · exact atm_of_not_neg ‹_›
theorem max_le (h : atm (valE e) (valE g)) (k : atm (valE f) (valE g)) : atm (valE (maxE e f)) (valE g) := by
  rw [val_max]; split <;> assumption
theorem min_l : atm (valE (minE e f)) (valE e) := by
  rw [val_min]; split
  · exact atm_of_pos ‹_›
  · exact atm_refl _
theorem min_r : atm (valE (minE e f)) (valE f) := by
  rw [val_min]; split
  · exact atm_refl _
  · assumption
theorem le_min (h : atm (valE g) (valE e)) (k : atm (valE g) (valE f)) : atm (valE g) (valE (minE e f)) := by
  rw [val_min]; split <;> assumption
theorem max_same : maxE e f = maxE f f ↔ atm (valE e) (valE f) := by
  constructor
  · intro h
    have h1 : valE (maxE e f) = valE f := by
      rw [h, val_max]; split <;> rfl
    have := max_l (e := e) (f := f)
    rwa [h1] at this
  · intro h
    have h1 : valE (maxE e f) = valE f := atm_anti (ok_valE _) (ok_valE _) (max_le h (atm_refl _)) max_r
    rw [val_max] at h1
    unfold maxE
    rw [h1]
    split <;> rfl

/-! ### row by row -/
variable {a b c : List RawE}
theorem leE_iff : leE a b = true ↔ a.length = b.length ∧ ∀ i (h : i < a.length) (k : i < b.length), atm (valE a[i]) (valE b[i]) := by
  unfold leE
  rw [Bool.and_eq_true, beq_iff_eq, Bool.not_eq_true', decide_eq_false_iff_not, List.mem_iff_getElem]
  constructor
  · rintro ⟨h1, h2⟩
    refine ⟨h1, fun i h k hp => h2 ⟨i, by simp; omega, ?_⟩⟩
    rw [List.getElem_zipWith]; exact decide_eq_true hp
  · rintro ⟨h1, h2⟩
    refine ⟨h1, ?_⟩
    rintro ⟨i, hi, he⟩
    rw [List.getElem_zipWith, decide_eq_true_eq] at he
    simp at hi
    exact h2 i (by omega) (by omega) he

theorem join_l (h : a.length = b.length) : leE a (List.zipWith maxE a b) = true := leE_iff.2 ⟨by simp; omega, fun i _ _ => by rw [List.getElem_zipWith]; exact max_l⟩
theorem join_r (h : a.length = b.length) : leE b (List.zipWith maxE a b) = true := leE_iff.2 ⟨by simp; omega, fun i _ _ => by rw [List.getElem_zipWith]; exact max_r⟩
theorem meet_l (h : a.length = b.length) : leE (List.zipWith minE a b) a = true := leE_iff.2 ⟨by simp; omega, fun i _ _ => by rw [List.getElem_zipWith]; exact min_l⟩
theorem meet_r (h : a.length = b.length) : leE (List.zipWith minE a b) b = true := leE_iff.2 ⟨by simp; omega, fun i _ _ => by rw [List.getElem_zipWith]; exact min_r⟩
theorem join_least (h : leE a c = true) (k : leE b c = true) : leE (List.zipWith maxE a b) c = true := by
  rw [leE_iff] at *
  refine ⟨by simp; omega, fun i h1 h2 => ?_⟩
  rw [List.getElem_zipWith]
  exact max_le (h.2 i _ _) (k.2 i _ _)
theorem meet_most (h : leE c a = true) (k : leE c b = true) : leE c (List.zipWith minE a b) = true := by
  rw [leE_iff] at *
  refine ⟨by simp; omega, fun i h1 h2 => ?_⟩
  simp at h2
  rw [List.getElem_zipWith]
  exact le_min (h.2 i h1 (by omega)) (k.2 i h1 (by omega))
theorem le_told (h : a.length = b.length) : leE a b = decide (List.zipWith maxE a b = List.zipWith maxE b b) := by
  rw [Bool.eq_iff_iff, leE_iff, decide_eq_true_eq]
  constructor
  · rintro ⟨_, h2⟩
    apply List.ext_getElem
    · simp; omega
    · intro i h3 h4
      rw [List.getElem_zipWith, List.getElem_zipWith]
      have h3' : i < a.length ∧ i < b.length := by rw [List.length_zipWith] at h3; omega
      exact max_same.2 (h2 i h3'.1 h3'.2)
  · intro he
    refine ⟨h, fun i h1 h2 => ?_⟩
    have h3 : (List.zipWith maxE a b)[i]? = (List.zipWith maxE b b)[i]? := by rw [he]
    rw [List.getElem?_eq_getElem (by simp; omega), List.getElem?_eq_getElem (by simp; omega), List.getElem_zipWith, List.getElem_zipWith] at h3
    exact max_same.1 (Option.some.inj h3)

/-! ### how long -/
def LimE (l : List RawE) : Prop := ∀ x ∈ l, LimOk x.2.1.2 ∧ LimOk x.2.2.2
theorem ExtsV.limE {H : Heap} {v : Value} (h : ExtsV H v a) : LimE a := by
  intro x hx
  obtain ⟨i, hi, rfl⟩ := List.getElem_of_mem hx
  obtain ⟨w, _, k⟩ := ExtsV.load h hi
  exact k.ok
theorem sz_canonE {x : Int × Rat} : lenR (canonE x).2 ≤ max (szR x.2) 1 := by
  unfold canonE
  split
  · exact Nat.le_trans (by unfold lenR canonR; simp only [len_canonI]; exact Nat.le_refl _) (Nat.le_max_left _ _)
  · simp [lenR]
theorem sz_valE (h : LimOk e.2.1.2 ∧ LimOk e.2.2.2) : szR (valE e).2 ≤ max (lenR e.2) 1 := by
  unfold valE
  split
  · split
    · exact szR_val h.1 h.2
    · simp only [szR_zero]; omega
  · simp only [szR_zero]; omega
theorem few_zip {d : RawE → RawE → RawE} (hd : ∀ e f, ∃ x, (x = valE e ∨ x = valE f) ∧ d e f = canonE x) (ha : FewE a) (hb : FewE b) (la : LimE a) (lb : LimE b) : FewE (List.zipWith d a b) := by
  intro x hx
  obtain ⟨i, hi, rfl⟩ := List.getElem_of_mem hx
  rw [List.getElem_zipWith]
  replace hi : i < a.length ∧ i < b.length := by rw [List.length_zipWith] at hi; omega
  have h1 := sz_valE (la _ (List.getElem_mem hi.1))
  have h2 := sz_valE (lb _ (List.getElem_mem hi.2))
  have h3 := ha _ (List.getElem_mem hi.1)
  have h4 := hb _ (List.getElem_mem hi.2)
  obtain ⟨x, hx, he⟩ := hd a[i] b[i]
  rw [he]
  have h5 := sz_canonE (x := x)
  rcases hx with rfl | rfl <;> omega
theorem few_join (ha : FewE a) (hb : FewE b) (la : LimE a) (lb : LimE b) : FewE (List.zipWith maxE a b) :=
  few_zip (fun e f => ⟨_, by split; exact .inr rfl; exact .inl rfl, rfl⟩) ha hb la lb
theorem few_meet (ha : FewE a) (hb : FewE b) (la : LimE a) (lb : LimE b) : FewE (List.zipWith minE a b) :=
  few_zip (fun e f => ⟨_, by split; exact .inr rfl; exact .inl rfl, rfl⟩) ha hb la lb
theorem few_of (h : anyB longE a = false) : FewE a := by
  intro x hx
  have : longE x = false := by
    cases hl : longE x with
    | false => rfl
    | true => exact absurd (List.any_eq_true.2 ⟨x, hx, hl⟩) (by unfold anyB at h; rw [h]; decide)
  unfold longE longR at this
  simp at this
  unfold lenR; omega

end Go.Proofs.YtjlohmnnldbjoaaGreat.AI

/- DomLattice: the law's walk. -/
namespace Go.Proofs.YtjlohmnnldbjoaaGreat.AI
open Go
set_option maxHeartbeats 4000000

variable {fl : Nat} {H G : Heap} {R : PostP} {u v w : Value}

theorem awake_none : env.code f_17 = none := by rfl
theorem awake_know : env.know f_17 [] = some (.bool true) := by rfl
theorem awake_does : Does env fl f_17 [] H (fun r H' => r = .bool true ∧ H' = H) R := ⟨1, by simp only [callA, awake_none, awake_know]; exact ⟨rfl, rfl⟩⟩

/-- of how many rows a law speaks. -/
theorem mn_len {a b c d : Nat} : mnxA false (.int .i64 (a : Int)) [.int .i64 (b : Int), .int .i64 (c : Int), .int .i64 (d : Int)] = some (.int .i64 ((min (min (min a b) c) d : Nat) : Int)) := by
  simp only [mnxA, mn2, Bool.false_eq_true, if_false, Option.some.injEq, Value.int.injEq, true_and]
  repeat' split
  all_goals omega

theorem DomLattice_does {a b c : List RawE} (ha : ExtsV H u a) (hb : ExtsV H v b) (hc : ExtsV H w c) (hf : fl ≤ H.size) :
    Does env fl f_8 [u, v, w] H (fun r H' => r = .bool true ∧ Ext H H') (fun _ => False) := by
  refine does_ext e_8 hf (h := ?_)
  intro ρ h0
  have hmn := @mn_len a.length b.length c.length 60
  replace hmn : mnxA false (.int .i64 (a.length : Int)) [.int .i64 (b.length : Int), .int .i64 (c.length : Int), .int .i64 60] = some (.int .i64 ((min (min (min a.length b.length) c.length) 60 : Nat) : Int)) := hmn
  generalize hn : min (min (min a.length b.length) c.length) 60 = n at hmn
  obtain ⟨u1, hu1, ka, oka⟩ := ha.first (n := n) (k := .i64) (by omega)
  obtain ⟨v1, hv1, kb, okb⟩ := hb.first (n := n) (k := .i64) (by omega)
  obtain ⟨w1, hw1, kc, okc⟩ := hc.first (n := n) (k := .i64) (by omega)
  simp [s_8, r_8_0, r_8_1, r_8_2, r_8_3, r_8_4, h0, ha.slen, hb.slen, hc.slen, hmn, hu1, hv1, hw1, oka, okb, okc]
  have la : (a.take n).length = n := by rw [List.length_take]; omega
  have lb : (b.take n).length = n := by rw [List.length_take]; omega
  have lc : (c.take n).length = n := by rw [List.length_take]; omega
  have hn60 : n ≤ 60 := by omega
  generalize a.take n = a at ka la
  generalize b.take n = b at kb lb
  generalize c.take n = c at kc lc
  clear hu1 hv1 hw1 oka okb okc ha hb hc hmn hn
  have hx := Ext.refl H
  simp [r_8_5]
  refine (Great18_does ka hx.1 (by omega)).mono ?_
  rintro _ G1 ⟨rfl, hx2⟩
  (try replace hx := hx.trans hx2); (try replace ka := ka.mono monoPE hx2); (try replace kb := kb.mono monoPE hx2); (try replace kc := kc.mono monoPE hx2); (try replace kj := kj.mono monoPE hx2); (try replace km := km.mono monoPE hx2); (try replace kt := kt.mono monoPE hx2)
  have l100 : ¬ 100 < n := by omega
  by_cases ga : anyB longE a = true
  · simp [ga, la, l100, r_8_6]
    refine awake_does.mono ?_
    rintro _ G2 ⟨rfl, rfl⟩
    simp
  rw [Bool.not_eq_true] at ga
  simp [ga, la, l100]
  refine (Great18_does kb hx.1 (by omega)).mono ?_
  rintro _ G1 ⟨rfl, hx2⟩
  (try replace hx := hx.trans hx2); (try replace ka := ka.mono monoPE hx2); (try replace kb := kb.mono monoPE hx2); (try replace kc := kc.mono monoPE hx2); (try replace kj := kj.mono monoPE hx2); (try replace km := km.mono monoPE hx2); (try replace kt := kt.mono monoPE hx2)
  by_cases gb : anyB longE b = true
  · simp [gb, lb, l100, r_8_6]
    refine awake_does.mono ?_
    rintro _ G2 ⟨rfl, rfl⟩
    simp
  rw [Bool.not_eq_true] at gb
  simp [gb, lb, l100]
  refine (Great18_does kc hx.1 (by omega)).mono ?_
  rintro _ G1 ⟨rfl, hx2⟩
  (try replace hx := hx.trans hx2); (try replace ka := ka.mono monoPE hx2); (try replace kb := kb.mono monoPE hx2); (try replace kc := kc.mono monoPE hx2); (try replace kj := kj.mono monoPE hx2); (try replace km := km.mono monoPE hx2); (try replace kt := kt.mono monoPE hx2)
  by_cases gc : anyB longE c = true
  · simp [gc, lc, l100, r_8_6]
    refine awake_does.mono ?_
    rintro _ G2 ⟨rfl, rfl⟩
    simp
  rw [Bool.not_eq_true] at gc
  simp [gc, lc, l100]
  have fa := few_of ga
  have fb := few_of gb
  have fc := few_of gc
  simp [r_8_7]
  have fj := few_join fa fb (ExtsV.limE ka) (ExtsV.limE kb)
  have fm := few_meet fa fb (ExtsV.limE ka) (ExtsV.limE kb)
  have hab : a.length = b.length := by omega
  refine (dom_Join_does ka kb hx.1 fa fb (by omega)).mono ?_
  rintro j G1 ⟨kj, hx2⟩
  (try replace hx := hx.trans hx2); (try replace ka := ka.mono monoPE hx2); (try replace kb := kb.mono monoPE hx2); (try replace kc := kc.mono monoPE hx2); (try replace kj := kj.mono monoPE hx2); (try replace km := km.mono monoPE hx2); (try replace kt := kt.mono monoPE hx2)
  simp
  refine (dom_Meet_does ka kb hx.1 fa fb (by omega)).mono ?_
  rintro m G1 ⟨km, hx2⟩
  (try replace hx := hx.trans hx2); (try replace ka := ka.mono monoPE hx2); (try replace kb := kb.mono monoPE hx2); (try replace kc := kc.mono monoPE hx2); (try replace kj := kj.mono monoPE hx2); (try replace km := km.mono monoPE hx2); (try replace kt := kt.mono monoPE hx2)
  have hle := le_told hab
  simp only [List.zipWith_self] at hle
  have lj : (List.zipWith maxE a b).length = n := by simp; omega
  have lm : (List.zipWith minE a b).length = n := by simp; omega
  simp [r_8_8]
  refine (dom_Le_does ka kj hx.1 fa fj (by omega)).mono ?_
  rintro _ G1 ⟨rfl, hx2⟩
  (try replace hx := hx.trans hx2); (try replace ka := ka.mono monoPE hx2); (try replace kb := kb.mono monoPE hx2); (try replace kc := kc.mono monoPE hx2); (try replace kj := kj.mono monoPE hx2); (try replace km := km.mono monoPE hx2); (try replace kt := kt.mono monoPE hx2)
  simp [join_l hab]
  refine (dom_Le_does kb kj hx.1 fb fj (by omega)).mono ?_
  rintro _ G1 ⟨rfl, hx2⟩
  (try replace hx := hx.trans hx2); (try replace ka := ka.mono monoPE hx2); (try replace kb := kb.mono monoPE hx2); (try replace kc := kc.mono monoPE hx2); (try replace kj := kj.mono monoPE hx2); (try replace km := km.mono monoPE hx2); (try replace kt := kt.mono monoPE hx2)
  simp [join_r hab]
  refine (dom_Le_does km ka hx.1 fm fa (by omega)).mono ?_
  rintro _ G1 ⟨rfl, hx2⟩
  (try replace hx := hx.trans hx2); (try replace ka := ka.mono monoPE hx2); (try replace kb := kb.mono monoPE hx2); (try replace kc := kc.mono monoPE hx2); (try replace kj := kj.mono monoPE hx2); (try replace km := km.mono monoPE hx2); (try replace kt := kt.mono monoPE hx2)
  simp [meet_l hab]
  refine (dom_Le_does km kb hx.1 fm fb (by omega)).mono ?_
  rintro _ G1 ⟨rfl, hx2⟩
  (try replace hx := hx.trans hx2); (try replace ka := ka.mono monoPE hx2); (try replace kb := kb.mono monoPE hx2); (try replace kc := kc.mono monoPE hx2); (try replace kj := kj.mono monoPE hx2); (try replace km := km.mono monoPE hx2); (try replace kt := kt.mono monoPE hx2)
  simp [meet_r hab, r_8_10]
  refine (dom_Le_does ka kc hx.1 fa fc (by omega)).mono ?_
  rintro _ G1 ⟨rfl, hx2⟩
  (try replace hx := hx.trans hx2); (try replace ka := ka.mono monoPE hx2); (try replace kb := kb.mono monoPE hx2); (try replace kc := kc.mono monoPE hx2); (try replace kj := kj.mono monoPE hx2); (try replace km := km.mono monoPE hx2); (try replace kt := kt.mono monoPE hx2)
  by_cases ac : leE a c = true
  · simp [ac]
    refine (dom_Le_does kb kc hx.1 fb fc (by omega)).mono ?_
    rintro _ G1 ⟨rfl, hx2⟩
    (try replace hx := hx.trans hx2); (try replace ka := ka.mono monoPE hx2); (try replace kb := kb.mono monoPE hx2); (try replace kc := kc.mono monoPE hx2); (try replace kj := kj.mono monoPE hx2); (try replace km := km.mono monoPE hx2); (try replace kt := kt.mono monoPE hx2)
    by_cases bc : leE b c = true
    · simp [bc]
      refine (dom_Le_does kj kc hx.1 fj fc (by omega)).mono ?_
      rintro _ G1 ⟨rfl, hx2⟩
      (try replace hx := hx.trans hx2); (try replace ka := ka.mono monoPE hx2); (try replace kb := kb.mono monoPE hx2); (try replace kc := kc.mono monoPE hx2); (try replace kj := kj.mono monoPE hx2); (try replace km := km.mono monoPE hx2); (try replace kt := kt.mono monoPE hx2)
      simp [join_least ac bc]
      refine (dom_Le_does kc ka hx.1 fc fa (by omega)).mono ?_
      rintro _ G1 ⟨rfl, hx2⟩
      (try replace hx := hx.trans hx2); (try replace ka := ka.mono monoPE hx2); (try replace kb := kb.mono monoPE hx2); (try replace kc := kc.mono monoPE hx2); (try replace kj := kj.mono monoPE hx2); (try replace km := km.mono monoPE hx2); (try replace kt := kt.mono monoPE hx2)
      by_cases ca : leE c a = true
      · simp [ca]
        refine (dom_Le_does kc kb hx.1 fc fb (by omega)).mono ?_
        rintro _ G1 ⟨rfl, hx2⟩
        (try replace hx := hx.trans hx2); (try replace ka := ka.mono monoPE hx2); (try replace kb := kb.mono monoPE hx2); (try replace kc := kc.mono monoPE hx2); (try replace kj := kj.mono monoPE hx2); (try replace km := km.mono monoPE hx2); (try replace kt := kt.mono monoPE hx2)
        by_cases cb : leE c b = true
        · simp [cb]
          refine (dom_Le_does kc km hx.1 fc fm (by omega)).mono ?_
          rintro _ G1 ⟨rfl, hx2⟩
          (try replace hx := hx.trans hx2); (try replace ka := ka.mono monoPE hx2); (try replace kb := kb.mono monoPE hx2); (try replace kc := kc.mono monoPE hx2); (try replace kj := kj.mono monoPE hx2); (try replace km := km.mono monoPE hx2); (try replace kt := kt.mono monoPE hx2)
          simp [meet_most ca cb]
          simp [r_8_12]
          refine (dom_Le_does ka kb hx.1 fa fb (by omega)).mono ?_
          rintro _ G1 ⟨rfl, hx2⟩
          (try replace hx := hx.trans hx2); (try replace ka := ka.mono monoPE hx2); (try replace kb := kb.mono monoPE hx2); (try replace kc := kc.mono monoPE hx2); (try replace kj := kj.mono monoPE hx2); (try replace km := km.mono monoPE hx2); (try replace kt := kt.mono monoPE hx2)
          simp
          refine (dom_Join_does kb kb hx.1 fb fb (by omega)).mono ?_
          rintro j2 G1 ⟨kt, hx2⟩
          (try replace hx := hx.trans hx2); (try replace ka := ka.mono monoPE hx2); (try replace kb := kb.mono monoPE hx2); (try replace kc := kc.mono monoPE hx2); (try replace kj := kj.mono monoPE hx2); (try replace km := km.mono monoPE hx2); (try replace kt := kt.mono monoPE hx2)
          simp
          refine (SameExts_does kj kt hx.1 fj (by omega)).mono ?_
          rintro _ G1 ⟨rfl, hx2⟩
          (try replace hx := hx.trans hx2); (try replace ka := ka.mono monoPE hx2); (try replace kb := kb.mono monoPE hx2); (try replace kc := kc.mono monoPE hx2); (try replace kj := kj.mono monoPE hx2); (try replace km := km.mono monoPE hx2); (try replace kt := kt.mono monoPE hx2)
          simp [← hle]
          refine awake_does.mono ?_
          rintro _ G2 ⟨rfl, rfl⟩
          simp
        · rw [Bool.not_eq_true] at cb
          simp [cb]
          simp [r_8_12]
          refine (dom_Le_does ka kb hx.1 fa fb (by omega)).mono ?_
          rintro _ G1 ⟨rfl, hx2⟩
          (try replace hx := hx.trans hx2); (try replace ka := ka.mono monoPE hx2); (try replace kb := kb.mono monoPE hx2); (try replace kc := kc.mono monoPE hx2); (try replace kj := kj.mono monoPE hx2); (try replace km := km.mono monoPE hx2); (try replace kt := kt.mono monoPE hx2)
          simp
          refine (dom_Join_does kb kb hx.1 fb fb (by omega)).mono ?_
          rintro j2 G1 ⟨kt, hx2⟩
          (try replace hx := hx.trans hx2); (try replace ka := ka.mono monoPE hx2); (try replace kb := kb.mono monoPE hx2); (try replace kc := kc.mono monoPE hx2); (try replace kj := kj.mono monoPE hx2); (try replace km := km.mono monoPE hx2); (try replace kt := kt.mono monoPE hx2)
          simp
          refine (SameExts_does kj kt hx.1 fj (by omega)).mono ?_
          rintro _ G1 ⟨rfl, hx2⟩
          (try replace hx := hx.trans hx2); (try replace ka := ka.mono monoPE hx2); (try replace kb := kb.mono monoPE hx2); (try replace kc := kc.mono monoPE hx2); (try replace kj := kj.mono monoPE hx2); (try replace km := km.mono monoPE hx2); (try replace kt := kt.mono monoPE hx2)
          simp [← hle]
          refine awake_does.mono ?_
          rintro _ G2 ⟨rfl, rfl⟩
          simp
      · rw [Bool.not_eq_true] at ca
        simp [ca]
        simp [r_8_12]
        refine (dom_Le_does ka kb hx.1 fa fb (by omega)).mono ?_
        rintro _ G1 ⟨rfl, hx2⟩
        (try replace hx := hx.trans hx2); (try replace ka := ka.mono monoPE hx2); (try replace kb := kb.mono monoPE hx2); (try replace kc := kc.mono monoPE hx2); (try replace kj := kj.mono monoPE hx2); (try replace km := km.mono monoPE hx2); (try replace kt := kt.mono monoPE hx2)
        simp
        refine (dom_Join_does kb kb hx.1 fb fb (by omega)).mono ?_
        rintro j2 G1 ⟨kt, hx2⟩
        (try replace hx := hx.trans hx2); (try replace ka := ka.mono monoPE hx2); (try replace kb := kb.mono monoPE hx2); (try replace kc := kc.mono monoPE hx2); (try replace kj := kj.mono monoPE hx2); (try replace km := km.mono monoPE hx2); (try replace kt := kt.mono monoPE hx2)
        simp
        refine (SameExts_does kj kt hx.1 fj (by omega)).mono ?_
        rintro _ G1 ⟨rfl, hx2⟩
        (try replace hx := hx.trans hx2); (try replace ka := ka.mono monoPE hx2); (try replace kb := kb.mono monoPE hx2); (try replace kc := kc.mono monoPE hx2); (try replace kj := kj.mono monoPE hx2); (try replace km := km.mono monoPE hx2); (try replace kt := kt.mono monoPE hx2)
        simp [← hle]
        refine awake_does.mono ?_
        rintro _ G2 ⟨rfl, rfl⟩
        simp
    · rw [Bool.not_eq_true] at bc
      simp [bc]
      refine (dom_Le_does kc ka hx.1 fc fa (by omega)).mono ?_
      rintro _ G1 ⟨rfl, hx2⟩
      (try replace hx := hx.trans hx2); (try replace ka := ka.mono monoPE hx2); (try replace kb := kb.mono monoPE hx2); (try replace kc := kc.mono monoPE hx2); (try replace kj := kj.mono monoPE hx2); (try replace km := km.mono monoPE hx2); (try replace kt := kt.mono monoPE hx2)
      by_cases ca : leE c a = true
      · simp [ca]
        refine (dom_Le_does kc kb hx.1 fc fb (by omega)).mono ?_
        rintro _ G1 ⟨rfl, hx2⟩
        (try replace hx := hx.trans hx2); (try replace ka := ka.mono monoPE hx2); (try replace kb := kb.mono monoPE hx2); (try replace kc := kc.mono monoPE hx2); (try replace kj := kj.mono monoPE hx2); (try replace km := km.mono monoPE hx2); (try replace kt := kt.mono monoPE hx2)
        by_cases cb : leE c b = true
        · simp [cb]
          refine (dom_Le_does kc km hx.1 fc fm (by omega)).mono ?_
          rintro _ G1 ⟨rfl, hx2⟩
          (try replace hx := hx.trans hx2); (try replace ka := ka.mono monoPE hx2); (try replace kb := kb.mono monoPE hx2); (try replace kc := kc.mono monoPE hx2); (try replace kj := kj.mono monoPE hx2); (try replace km := km.mono monoPE hx2); (try replace kt := kt.mono monoPE hx2)
          simp [meet_most ca cb]
          simp [r_8_12]
          refine (dom_Le_does ka kb hx.1 fa fb (by omega)).mono ?_
          rintro _ G1 ⟨rfl, hx2⟩
          (try replace hx := hx.trans hx2); (try replace ka := ka.mono monoPE hx2); (try replace kb := kb.mono monoPE hx2); (try replace kc := kc.mono monoPE hx2); (try replace kj := kj.mono monoPE hx2); (try replace km := km.mono monoPE hx2); (try replace kt := kt.mono monoPE hx2)
          simp
          refine (dom_Join_does kb kb hx.1 fb fb (by omega)).mono ?_
          rintro j2 G1 ⟨kt, hx2⟩
          (try replace hx := hx.trans hx2); (try replace ka := ka.mono monoPE hx2); (try replace kb := kb.mono monoPE hx2); (try replace kc := kc.mono monoPE hx2); (try replace kj := kj.mono monoPE hx2); (try replace km := km.mono monoPE hx2); (try replace kt := kt.mono monoPE hx2)
          simp
          refine (SameExts_does kj kt hx.1 fj (by omega)).mono ?_
          rintro _ G1 ⟨rfl, hx2⟩
          (try replace hx := hx.trans hx2); (try replace ka := ka.mono monoPE hx2); (try replace kb := kb.mono monoPE hx2); (try replace kc := kc.mono monoPE hx2); (try replace kj := kj.mono monoPE hx2); (try replace km := km.mono monoPE hx2); (try replace kt := kt.mono monoPE hx2)
          simp [← hle]
          refine awake_does.mono ?_
          rintro _ G2 ⟨rfl, rfl⟩
          simp
        · rw [Bool.not_eq_true] at cb
          simp [cb]
          simp [r_8_12]
          refine (dom_Le_does ka kb hx.1 fa fb (by omega)).mono ?_
          rintro _ G1 ⟨rfl, hx2⟩
          (try replace hx := hx.trans hx2); (try replace ka := ka.mono monoPE hx2); (try replace kb := kb.mono monoPE hx2); (try replace kc := kc.mono monoPE hx2); (try replace kj := kj.mono monoPE hx2); (try replace km := km.mono monoPE hx2); (try replace kt := kt.mono monoPE hx2)
          simp
          refine (dom_Join_does kb kb hx.1 fb fb (by omega)).mono ?_
          rintro j2 G1 ⟨kt, hx2⟩
          (try replace hx := hx.trans hx2); (try replace ka := ka.mono monoPE hx2); (try replace kb := kb.mono monoPE hx2); (try replace kc := kc.mono monoPE hx2); (try replace kj := kj.mono monoPE hx2); (try replace km := km.mono monoPE hx2); (try replace kt := kt.mono monoPE hx2)
          simp
          refine (SameExts_does kj kt hx.1 fj (by omega)).mono ?_
          rintro _ G1 ⟨rfl, hx2⟩
          (try replace hx := hx.trans hx2); (try replace ka := ka.mono monoPE hx2); (try replace kb := kb.mono monoPE hx2); (try replace kc := kc.mono monoPE hx2); (try replace kj := kj.mono monoPE hx2); (try replace km := km.mono monoPE hx2); (try replace kt := kt.mono monoPE hx2)
          simp [← hle]
          refine awake_does.mono ?_
          rintro _ G2 ⟨rfl, rfl⟩
          simp
      · rw [Bool.not_eq_true] at ca
        simp [ca]
        simp [r_8_12]
        refine (dom_Le_does ka kb hx.1 fa fb (by omega)).mono ?_
        rintro _ G1 ⟨rfl, hx2⟩
        (try replace hx := hx.trans hx2); (try replace ka := ka.mono monoPE hx2); (try replace kb := kb.mono monoPE hx2); (try replace kc := kc.mono monoPE hx2); (try replace kj := kj.mono monoPE hx2); (try replace km := km.mono monoPE hx2); (try replace kt := kt.mono monoPE hx2)
        simp
        refine (dom_Join_does kb kb hx.1 fb fb (by omega)).mono ?_
        rintro j2 G1 ⟨kt, hx2⟩
        (try replace hx := hx.trans hx2); (try replace ka := ka.mono monoPE hx2); (try replace kb := kb.mono monoPE hx2); (try replace kc := kc.mono monoPE hx2); (try replace kj := kj.mono monoPE hx2); (try replace km := km.mono monoPE hx2); (try replace kt := kt.mono monoPE hx2)
        simp
        refine (SameExts_does kj kt hx.1 fj (by omega)).mono ?_
        rintro _ G1 ⟨rfl, hx2⟩
        (try replace hx := hx.trans hx2); (try replace ka := ka.mono monoPE hx2); (try replace kb := kb.mono monoPE hx2); (try replace kc := kc.mono monoPE hx2); (try replace kj := kj.mono monoPE hx2); (try replace km := km.mono monoPE hx2); (try replace kt := kt.mono monoPE hx2)
        simp [← hle]
        refine awake_does.mono ?_
        rintro _ G2 ⟨rfl, rfl⟩
        simp
  · rw [Bool.not_eq_true] at ac
    simp [ac]
    refine (dom_Le_does kc ka hx.1 fc fa (by omega)).mono ?_
    rintro _ G1 ⟨rfl, hx2⟩
    (try replace hx := hx.trans hx2); (try replace ka := ka.mono monoPE hx2); (try replace kb := kb.mono monoPE hx2); (try replace kc := kc.mono monoPE hx2); (try replace kj := kj.mono monoPE hx2); (try replace km := km.mono monoPE hx2); (try replace kt := kt.mono monoPE hx2)
    by_cases ca : leE c a = true
    · simp [ca]
      refine (dom_Le_does kc kb hx.1 fc fb (by omega)).mono ?_
      rintro _ G1 ⟨rfl, hx2⟩
      (try replace hx := hx.trans hx2); (try replace ka := ka.mono monoPE hx2); (try replace kb := kb.mono monoPE hx2); (try replace kc := kc.mono monoPE hx2); (try replace kj := kj.mono monoPE hx2); (try replace km := km.mono monoPE hx2); (try replace kt := kt.mono monoPE hx2)
      by_cases cb : leE c b = true
      · simp [cb]
        refine (dom_Le_does kc km hx.1 fc fm (by omega)).mono ?_
        rintro _ G1 ⟨rfl, hx2⟩
        (try replace hx := hx.trans hx2); (try replace ka := ka.mono monoPE hx2); (try replace kb := kb.mono monoPE hx2); (try replace kc := kc.mono monoPE hx2); (try replace kj := kj.mono monoPE hx2); (try replace km := km.mono monoPE hx2); (try replace kt := kt.mono monoPE hx2)
        simp [meet_most ca cb]
        simp [r_8_12]
        refine (dom_Le_does ka kb hx.1 fa fb (by omega)).mono ?_
        rintro _ G1 ⟨rfl, hx2⟩
        (try replace hx := hx.trans hx2); (try replace ka := ka.mono monoPE hx2); (try replace kb := kb.mono monoPE hx2); (try replace kc := kc.mono monoPE hx2); (try replace kj := kj.mono monoPE hx2); (try replace km := km.mono monoPE hx2); (try replace kt := kt.mono monoPE hx2)
        simp
        refine (dom_Join_does kb kb hx.1 fb fb (by omega)).mono ?_
        rintro j2 G1 ⟨kt, hx2⟩
        (try replace hx := hx.trans hx2); (try replace ka := ka.mono monoPE hx2); (try replace kb := kb.mono monoPE hx2); (try replace kc := kc.mono monoPE hx2); (try replace kj := kj.mono monoPE hx2); (try replace km := km.mono monoPE hx2); (try replace kt := kt.mono monoPE hx2)
        simp
        refine (SameExts_does kj kt hx.1 fj (by omega)).mono ?_
        rintro _ G1 ⟨rfl, hx2⟩
        (try replace hx := hx.trans hx2); (try replace ka := ka.mono monoPE hx2); (try replace kb := kb.mono monoPE hx2); (try replace kc := kc.mono monoPE hx2); (try replace kj := kj.mono monoPE hx2); (try replace km := km.mono monoPE hx2); (try replace kt := kt.mono monoPE hx2)
        simp [← hle]
        refine awake_does.mono ?_
        rintro _ G2 ⟨rfl, rfl⟩
        simp
      · rw [Bool.not_eq_true] at cb
        simp [cb]
        simp [r_8_12]
        refine (dom_Le_does ka kb hx.1 fa fb (by omega)).mono ?_
        rintro _ G1 ⟨rfl, hx2⟩
        (try replace hx := hx.trans hx2); (try replace ka := ka.mono monoPE hx2); (try replace kb := kb.mono monoPE hx2); (try replace kc := kc.mono monoPE hx2); (try replace kj := kj.mono monoPE hx2); (try replace km := km.mono monoPE hx2); (try replace kt := kt.mono monoPE hx2)
        simp
        refine (dom_Join_does kb kb hx.1 fb fb (by omega)).mono ?_
        rintro j2 G1 ⟨kt, hx2⟩
        (try replace hx := hx.trans hx2); (try replace ka := ka.mono monoPE hx2); (try replace kb := kb.mono monoPE hx2); (try replace kc := kc.mono monoPE hx2); (try replace kj := kj.mono monoPE hx2); (try replace km := km.mono monoPE hx2); (try replace kt := kt.mono monoPE hx2)
        simp
        refine (SameExts_does kj kt hx.1 fj (by omega)).mono ?_
        rintro _ G1 ⟨rfl, hx2⟩
        (try replace hx := hx.trans hx2); (try replace ka := ka.mono monoPE hx2); (try replace kb := kb.mono monoPE hx2); (try replace kc := kc.mono monoPE hx2); (try replace kj := kj.mono monoPE hx2); (try replace km := km.mono monoPE hx2); (try replace kt := kt.mono monoPE hx2)
        simp [← hle]
        refine awake_does.mono ?_
        rintro _ G2 ⟨rfl, rfl⟩
        simp
    · rw [Bool.not_eq_true] at ca
      simp [ca]
      simp [r_8_12]
      refine (dom_Le_does ka kb hx.1 fa fb (by omega)).mono ?_
      rintro _ G1 ⟨rfl, hx2⟩
      (try replace hx := hx.trans hx2); (try replace ka := ka.mono monoPE hx2); (try replace kb := kb.mono monoPE hx2); (try replace kc := kc.mono monoPE hx2); (try replace kj := kj.mono monoPE hx2); (try replace km := km.mono monoPE hx2); (try replace kt := kt.mono monoPE hx2)
      simp
      refine (dom_Join_does kb kb hx.1 fb fb (by omega)).mono ?_
      rintro j2 G1 ⟨kt, hx2⟩
      (try replace hx := hx.trans hx2); (try replace ka := ka.mono monoPE hx2); (try replace kb := kb.mono monoPE hx2); (try replace kc := kc.mono monoPE hx2); (try replace kj := kj.mono monoPE hx2); (try replace km := km.mono monoPE hx2); (try replace kt := kt.mono monoPE hx2)
      simp
      refine (SameExts_does kj kt hx.1 fj (by omega)).mono ?_
      rintro _ G1 ⟨rfl, hx2⟩
      (try replace hx := hx.trans hx2); (try replace ka := ka.mono monoPE hx2); (try replace kb := kb.mono monoPE hx2); (try replace kc := kc.mono monoPE hx2); (try replace kj := kj.mono monoPE hx2); (try replace km := km.mono monoPE hx2); (try replace kt := kt.mono monoPE hx2)
      simp [← hle]
      refine awake_does.mono ?_
      rintro _ G2 ⟨rfl, rfl⟩
      simp

end Go.Proofs.YtjlohmnnldbjoaaGreat.AI

/- Which tables are too great for a law. -/
namespace Go.Proofs.YtjlohmnnldbjoaaGreat.AI
open Go
set_option maxHeartbeats 4000000

/-- where a round's test ends, the test being any. -/
def CTest (E : Env) (fl nt tc b b2 : Nat) (body : SCode) (rx : List SOper) (Z : Tmps → Heap → Prop) (Q : PostX) (R : PostP) (n i : Nat) (Inv : Nat → (Nat → Value) → Heap → Prop) (t : Tmps) (H : Heap) : Prop :=
  ∃ ρ' c, t = T nt ρ' ∧ ρ' tc = .bool c ∧ (c = true → i < n ∧ W E fl body (T nt ρ') H (forQ b2 b (CEnd E fl nt rx R i Inv) Z Q) R) ∧ (c = false → Z (T nt ρ') H)
section
variable {E : Env} {fl nt tc b b2 n i : Nat} {body : SCode} {rx rc : List SOper} {Z : Tmps → Heap → Prop} {Q : PostX} {R : PostP} {Inv : Nat → (Nat → Value) → Heap → Prop} {ρ : Nat → Value} {H : Heap}
theorem CTest.mk (c : Bool) (h1 : ρ tc = .bool c) (h2 : c = true → i < n ∧ W E fl body (T nt ρ) H (forQ b2 b (CEnd E fl nt rx R i Inv) Z Q) R) (h3 : c = false → Z (T nt ρ) H) : CTest E fl nt tc b b2 body rx Z Q R n i Inv (T nt ρ) H := ⟨ρ, c, rfl, h1, h2, h3⟩

theorem W_tfor (Inv : Nat → (Nat → Value) → Heap → Prop) (n : Nat) (htc : tc < nt) (hI : Inv 0 ρ H)
    (step : ∀ i ρ G, i ≤ n → Inv i ρ G → WR E fl rc (T nt ρ) G (CTest E fl nt tc b b2 body rx Z Q R n i Inv) R) :
    W E fl (.loop (.seq (.seq (.reg rc) (.cond (.tmp tc) .skip (.exit b))) (.seq (.block b2 body) (.reg rx)))) (T nt ρ) H (blockW b (thenW Z Q)) R := by
  refine W_loopM (fun k t G => ∃ i ρ, i + k = n ∧ t = T nt ρ ∧ Inv i ρ G) Z n ⟨0, ρ, by omega, rfl, hI⟩ ?_ (fun _ _ h => h)
  clear hI
  rintro k t G ⟨i, ρ, hik, rfl, hI⟩
  refine W_seq (W_seq (W_reg ((step i ρ G (by omega) hI).mono ?_)))
  rintro t' G' ⟨ρ', c, rfl, h1, h2, h3⟩
  simp only [thenW_normal]
  cases c with
  | true =>
    obtain ⟨hi, h2⟩ := h2 rfl
    refine W_cond true (by rw [ev_tmp, get_T htc, h1]) (fun _ => W_skip ?_) (by simp)
    simp only [thenW_normal]
    refine W_seq (W_block (h2.mono fun e t2 G2 hq => ?_))
    have fin : CEnd E fl nt rx R i Inv t2 G2 → thenW (fun t' H' => W E fl (.reg rx) t' H' (loopQ b (fun t' H' => ∃ k', k' < k ∧ ∃ i ρ, i + k' = n ∧ t' = T nt ρ ∧ Inv i ρ H') Z Q) R) (loopQ b (fun t' H' => ∃ k', k' < k ∧ ∃ i ρ, i + k' = n ∧ t' = T nt ρ ∧ Inv i ρ H') Z Q) .normal t2 G2 := by
      intro h
      refine W_reg (h.mono ?_)
      rintro t3 G3 ⟨ρ3, rfl, h4⟩
      exact ⟨k - 1, by omega, i + 1, ρ3, by omega, rfl, h4⟩
    cases e with
    | normal => exact fin hq
    | exit j =>
      simp only [forQ] at hq
      show (if j = b2 then _ else _)
      by_cases hj : j = b2
      · rw [if_pos hj] at hq ⊢; exact fin hq
      · rw [if_neg hj] at hq ⊢
        show (if j = b then _ else _)
        by_cases hj2 : j = b
        · rw [if_pos hj2] at hq ⊢; exact hq
        · rw [if_neg hj2] at hq ⊢; exact hq
    | ret => exact hq
  | false =>
    refine W_cond false (by rw [ev_tmp, get_T htc, h1]) (by simp) (fun _ => W_exit ?_)
    show (if b = b then _ else _)
    rw [if_pos rfl]
    exact h3 rfl
end

variable {fl : Nat} {H G : Heap} {R : PostP} {v w : Value}

/-- how much a table weighs, up to a bound. -/
def rowsN : List (List RawR) → Nat
  | [] => 0
  | r :: l => rowsN l + (1 + min r.length 201)
theorem rowsN_snoc (l : List (List RawR)) (r : List RawR) : rowsN (l ++ [r]) = rowsN l + (1 + min r.length 201) := by
  induction l with
  | nil => simp [rowsN]
  | cons x l ih => simp only [List.cons_append, rowsN, ih]; omega
theorem rowsN_succ {l : List (List RawR)} {i : Nat} (h : i < l.length) : rowsN (l.take (i + 1)) = rowsN (l.take i) + (1 + min l[i].length 201) := by
  rw [List.take_succ_eq_append_getElem h, rowsN_snoc]
def longL (r : List RawR) : Bool := decide (r.length ≤ 200) && anyB longR r
theorem le_rowsN (l : List (List RawR)) : l.length ≤ rowsN l := by
  induction l with
  | nil => simp [rowsN]
  | cons x l ih => simp only [List.length_cons, rowsN]; omega
theorem mem_rowsN {l : List (List RawR)} {r : List RawR} (h : r ∈ l) : min r.length 201 < rowsN l := by
  induction l with
  | nil => simp at h
  | cons x l ih =>
    simp only [rowsN]
    rcases List.mem_cons.1 h with rfl | h
    · omega
    · have := ih h; omega
/-- small enough, all of it. -/
def goodL (l : List (List RawR)) : Prop := l.length ≤ 200 ∧ ∀ r ∈ l, r.length ≤ 200 ∧ anyB longR r = false
theorem good_of {l : List (List RawR)} (h : rowsN l ≤ 200) (k : anyB longL l = false) : goodL l := by
  refine ⟨Nat.le_trans (le_rowsN l) h, fun r hr => ?_⟩
  have h1 := mem_rowsN hr
  have h2 : r.length ≤ 200 := by omega
  refine ⟨h2, ?_⟩
  cases ha : anyB longR r with
  | false => rfl
  | true => exact absurd (List.any_eq_true.2 ⟨r, hr, show longL r = true by unfold longL; rw [ha]; simp [h2]⟩) (by unfold anyB at k; rw [k]; decide)

theorem Great4_does {l : List (List RawR)} (h : RowsV H v l) (hf : fl ≤ H.size) : Does env fl f_18 [v] H (fun r H' => (∃ c, r = .bool c ∧ (c = false → goodL l)) ∧ Ext H H') R := by
  refine does_ext e_18 hf (h := ?_)
  intro ρ h0
  simp [s_18, r_18_0, r_18_1, r_18_2, h0]
  refine W_tfor (fun n ρ G => ρ 0 = v ∧ ρ 4 = .int .i64 (n : Int) ∧ ρ 3 = .int .i64 ((rowsN (l.take n) : Nat) : Int) ∧ rowsN (l.take n) ≤ 402 ∧ n ≤ 403 ∧ Ext H G ∧ anyB longL (l.take n) = false) l.length (by decide) (by simp [h0, anyB_nil, rowsN]) ?_
  clear h0 ρ
  rintro n ρ G hn1 ⟨g0, g4, g3, hb, hn2, hx, hpre⟩
  have k := h.mono monoPS hx
  have hn3 : n ≤ rowsN (l.take n) := by have := le_rowsN (l.take n); rw [List.length_take] at this; omega
  by_cases hlt : n < l.length
  · have hlt' : (n : Int) < (l.length : Int) := by omega
    by_cases h2 : rowsN (l.take n) ≤ 200
    · have h2' : ((rowsN (l.take n) : Nat) : Int) ≤ 200 := by omega
      simp [r_18_3, g0, g4, g3, k.slen, hlt, h2, h2']
      refine CTest.mk true (by simp [h2']) (fun _ => ⟨hlt, ?_⟩) (by simp)
      obtain ⟨w, hlw, kr⟩ := RowsV.load k hlt
      have hmn : mnxA false (.int .i64 (l[n].length : Int)) [.int .i64 201] = some (.int .i64 ((min l[n].length 201 : Nat) : Int)) := by
        simp only [mnxA, mn2, Bool.false_eq_true, if_false, Option.some.injEq, Value.int.injEq, true_and]
        split <;> omega
      have hw1 : IntKind.i64.wrap (((rowsN (l.take n) : Nat) : Int) + 1) = ((rowsN (l.take n) + 1 : Nat) : Int) := wrap_succ (by omega)
      have hs := rowsN_succ hlt
      have hw2 : IntKind.i64.wrap (((rowsN (l.take n) + 1 : Nat) : Int) + ((min l[n].length 201 : Nat) : Int)) = ((rowsN (l.take (n + 1)) : Nat) : Int) := by
        rw [wrap64 (by omega) (by omega), hs]; omega
      simp only [Int.natCast_add, Int.cast_ofNat_Int] at hw1 hw2
      simp [r_18_4, g0, g4, g3, k.ia hlt, hlw, kr.slen, hmn]
      simp [hw1]
      rw [hw2]
      have hyes : longL l[n] = true → anyB longL l = true := anyB_yes hlt
      have hb1 : anyB longL (l.take (n + 1)) = longL l[n] := by rw [anyB_succ hlt, hpre, Bool.false_or]
      have hwn := wrap_succ (show n < 4611686018427387904 by omega)
      by_cases hl2 : l[n].length ≤ 200
      · have hl2' : (l[n].length : Int) ≤ 200 := by omega
        simp [r_18_5, g0, g4, k.ia hlt, hlw, kr.slen, hl2, hl2']
        refine (Great2_does kr hx.1 (by omega)).mono ?_
        rintro _ G2 ⟨rfl, hx2⟩
        replace hx := hx.trans hx2
        cases hlo : anyB longR l[n] with
        | true => simp [r_18_6]
        | false =>
          simp
          unfold CEnd
          simp [r_18_7, g4, hwn]
          refine CNext.mk ⟨by simp [g0], by simp, by simp, by omega, by omega, hx, ?_⟩
          rw [hb1]; unfold longL; simp [hlo]
      · have hl2' : ¬ (l[n].length : Int) ≤ 200 := by omega
        simp [r_18_5, g0, g4, k.ia hlt, hlw, kr.slen, hl2, hl2']
        unfold CEnd
        simp [r_18_7, g4, hwn]
        refine CNext.mk ⟨by simp [g0], by simp, by simp, by omega, by omega, hx, ?_⟩
        rw [hb1]; unfold longL; simp [hl2]
    · have h2' : ¬ ((rowsN (l.take n) : Nat) : Int) ≤ 200 := by omega
      simp [r_18_3, g0, g4, g3, k.slen, hlt, h2, h2']
      refine CTest.mk false (by simp [h2']) (by simp) (fun _ => ?_)
      have h3 : (200 : Int) < ((rowsN (l.take n) : Nat) : Int) := by omega
      simp [r_18_8, g3, h3]
  · have he : n = l.length := by omega
    subst he
    simp [r_18_3, g0, g4, g3, k.slen]
    refine CTest.mk false (by simp) (by simp) (fun _ => ?_)
    rw [List.take_length] at hpre g3
    simp [r_18_8, g3]
    intro _
    by_cases h3 : rowsN l ≤ 200
    · exact .inl ⟨by omega, good_of h3 hpre⟩
    · exact .inr (by omega)

end Go.Proofs.YtjlohmnnldbjoaaGreat.AI

/- DomWithin: the law's walk. -/
namespace Go.Proofs.YtjlohmnnldbjoaaGreat.AI
open Go
set_option maxHeartbeats 4000000

variable {rows : List (List RawR)} {a b : List RawE} {x : List RawR} {r : List RawR} {e f : RawE} {q : Int × Rat}

theorem has_max : (¬ 0 < cmpE q (valE e)) ∨ (¬ 0 < cmpE q (valE f)) → ¬ 0 < cmpE q (valE (maxE e f)) := by
  rintro (h | h)
  · exact atm_trans h max_l
  · exact atm_trans h max_r
theorem has_min : ¬ 0 < cmpE q (valE (minE e f)) ↔ (¬ 0 < cmpE q (valE e)) ∧ (¬ 0 < cmpE q (valE f)) := by
  constructor
  · intro h; exact ⟨atm_trans h min_l, atm_trans h min_r⟩
  · rintro ⟨h, k⟩
    rw [val_min]; split <;> assumption
theorem allB_id_zip {d : List RawE} {p : List RawR → RawE → Bool} : allB id (List.zipWith p rows d) = true ↔ ∀ i (h : i < rows.length) (k : i < d.length), p rows[i] d[i] = true := by
  unfold allB
  rw [List.all_eq_true]
  constructor
  · intro h i h1 h2
    have := h ((List.zipWith p rows d)[i]'(by simp; omega)) (List.getElem_mem _)
    rwa [List.getElem_zipWith] at this
  · intro h y hy
    obtain ⟨i, hi, rfl⟩ := List.getElem_of_mem hy
    rw [List.getElem_zipWith]
    have hi' : i < rows.length ∧ i < d.length := by rw [List.length_zipWith] at hi; omega
    exact h i hi'.1 hi'.2
theorem hasT_iff {d : List RawE} : hasT rows d x = true ↔ d.length = rows.length ∧ ∀ i (h : i < rows.length) (k : i < d.length), rows[i].length = x.length ∧ ¬ 0 < cmpE (0, dotR rows[i] x rows[i].length) (valE d[i]) := by
  unfold hasT
  rw [Bool.and_eq_true, decide_eq_true_eq, allB_id_zip]
  unfold hasR
  simp only [Bool.and_eq_true, decide_eq_true_eq, Bool.not_eq_true', decide_eq_false_iff_not]
theorem has_join (hab : a.length = b.length) (h : hasT rows a x = true ∨ hasT rows b x = true) : hasT rows (List.zipWith maxE a b) x = true := by
  rw [hasT_iff, hasT_iff] at h
  rw [hasT_iff]
  refine ⟨by rcases h with h | h <;> simp <;> omega, fun i h1 h2 => ?_⟩
  have h2' : i < a.length ∧ i < b.length := by rw [List.length_zipWith] at h2; omega
  rw [List.getElem_zipWith]
  rcases h with h | h
  · exact ⟨(h.2 i h1 h2'.1).1, has_max (.inl (h.2 i h1 h2'.1).2)⟩
  · exact ⟨(h.2 i h1 h2'.2).1, has_max (.inr (h.2 i h1 h2'.2).2)⟩
theorem has_meet (hab : a.length = b.length) : hasT rows (List.zipWith minE a b) x = (hasT rows a x && hasT rows b x) := by
  rw [Bool.eq_iff_iff, Bool.and_eq_true, hasT_iff, hasT_iff, hasT_iff]
  constructor
  · rintro ⟨h1, h2⟩
    simp at h1
    refine ⟨⟨by omega, fun i h3 h4 => ?_⟩, ⟨by omega, fun i h3 h4 => ?_⟩⟩
    all_goals
      have := h2 i h3 (by simp; omega)
      rw [List.getElem_zipWith, has_min] at this
      exact ⟨this.1, by first | exact this.2.1 | exact this.2.2⟩
  · rintro ⟨⟨h1, h2⟩, h3, h4⟩
    refine ⟨by simp; omega, fun i h5 h6 => ?_⟩
    have h6' : i < a.length ∧ i < b.length := by rw [List.length_zipWith] at h6; omega
    rw [List.getElem_zipWith, has_min]
    exact ⟨(h2 i h5 h6'.1).1, (h2 i h5 h6'.1).2, (h4 i h5 h6'.2).2⟩

variable {fl : Nat} {H G : Heap} {R : PostP} {u v w z : Value}

theorem RatsV.limR {l : List RawR} (h : RatsV H v l) (k : anyB longR l = false) : Few 6 l := by
  intro y hy
  obtain ⟨i, hi, rfl⟩ := List.getElem_of_mem hy
  obtain ⟨w, _, s, t, _, h1, h2⟩ := RatsV.load h hi
  have : longR l[i] = false := by
    cases hl : longR l[i] with
    | false => rfl
    | true => exact absurd (List.any_eq_true.2 ⟨_, hy, hl⟩) (by unfold anyB at k; rw [k]; decide)
  unfold longR at this
  simp at this
  exact ⟨by unfold lenR; omega, h1.ok, h2.ok⟩
theorem RowsV.few {l : List (List RawR)} (h : RowsV H v l) (k : goodL l) : ∀ r ∈ l, Few 6 r := by
  intro r hr
  obtain ⟨i, hi, rfl⟩ := List.getElem_of_mem hr
  obtain ⟨w, _, h1⟩ := RowsV.load h hi
  exact RatsV.limR h1 (k.2 _ hr).2
theorem rowsv_one {l : List RawR} {p : Nat} {ro : Bool} (hb : H.blk p = .row ro T_sl_api_Rat [v]) (h : RatsV H v l) : RowsV H (.slice (some ⟨p, 0, none⟩) 1 1) [l] := by
  refine ⟨[v], ⟨rfl, .inr ⟨p, 0, 1, ro, [v], rfl, hb, by simp, rfl⟩⟩, ?_⟩
  intro j hj
  have : j = 0 := by simpa using hj
  subst this
  exact ⟨v, rfl, h⟩
theorem TemplV.mono (h : TemplV H v rows) (hx : Ext H G) : TemplV G v rows := by
  obtain ⟨s, h1, h2⟩ := h; exact ⟨s, h1, h2.mono monoPS hx⟩

theorem DomWithin_does (ht : TemplV H u rows) (ha : ExtsV H v a) (hb : ExtsV H w b) (hc : RatsV H z x) (hf : fl ≤ H.size) :
    Does env fl f_9 [u, v, w, z] H (fun r H' => r = .bool true ∧ Ext H H') (fun _ => False) := by
  obtain ⟨s, rfl, hs⟩ := ht
  refine does_ext e_9 hf (h := ?_)
  intro ρ h0
  simp [s_9, r_9_0, h0, hs.cells]
  generalize hG : Array.push H _ = G
  obtain ⟨hx2, b0⟩ := new0 hG
  have hx := Ext.refl H
  have ka := ha
  have kb := hb
  have kt := hc
  have kc := hs
  clear hG
  replace hx := hx.trans hx2
  replace ka := ka.mono monoPE hx2
  replace kb := kb.mono monoPE hx2
  replace kt := kt.mono monoPR hx2
  replace kc := kc.mono monoPS hx2
  simp [r_9_1, b0]
  refine (Great4_does kc hx.1).mono ?_
  rintro _ G1 ⟨⟨c, rfl, hgr⟩, hx2⟩
  replace hx := hx.trans hx2
  replace ka := ka.mono monoPE hx2
  replace kb := kb.mono monoPE hx2
  replace kt := kt.mono monoPR hx2
  replace kc := kc.mono monoPS hx2
  replace b0 := hx2.blk b0
  cases c with
  | true =>
    simp [r_9_2]
    refine awake_does.mono ?_
    rintro _ G2 ⟨rfl, rfl⟩
    simp
  | false =>
  replace hgr := hgr rfl
  simp [h0]
  refine (Great18_any ka hx.1).mono ?_
  rintro _ G1 ⟨rfl, hx2⟩
  replace hx := hx.trans hx2
  replace ka := ka.mono monoPE hx2
  replace kb := kb.mono monoPE hx2
  replace kt := kt.mono monoPR hx2
  replace kc := kc.mono monoPS hx2
  replace b0 := hx2.blk b0
  by_cases la : 100 < a.length
  · simp [la, r_9_2]
    refine awake_does.mono ?_
    rintro _ G2 ⟨rfl, rfl⟩
    simp
  by_cases ga : anyB longE a = true
  · simp [ga, la, r_9_2]
    refine awake_does.mono ?_
    rintro _ G2 ⟨rfl, rfl⟩
    simp
  rw [Bool.not_eq_true] at ga
  simp [ga, la, h0]
  refine (Great18_any kb hx.1).mono ?_
  rintro _ G1 ⟨rfl, hx2⟩
  replace hx := hx.trans hx2
  replace ka := ka.mono monoPE hx2
  replace kb := kb.mono monoPE hx2
  replace kt := kt.mono monoPR hx2
  replace kc := kc.mono monoPS hx2
  replace b0 := hx2.blk b0
  by_cases lb : 100 < b.length
  · simp [lb, r_9_2]
    refine awake_does.mono ?_
    rintro _ G2 ⟨rfl, rfl⟩
    simp
  by_cases gb : anyB longE b = true
  · simp [gb, lb, r_9_2]
    refine awake_does.mono ?_
    rintro _ G2 ⟨rfl, rfl⟩
    simp
  rw [Bool.not_eq_true] at gb
  simp [gb, lb, kt.cells, h0]
  generalize hG : Array.push G1 _ = G2
  obtain ⟨hx2, b1⟩ := new0 hG
  clear hG
  replace hx := hx.trans hx2
  replace ka := ka.mono monoPE hx2
  replace kb := kb.mono monoPE hx2
  replace kt := kt.mono monoPR hx2
  replace kc := kc.mono monoPS hx2
  replace b0 := hx2.blk b0
  refine (Great4_does (rowsv_one b1 kt) hx.1).mono ?_
  rintro _ G1 ⟨⟨c, rfl, hgx⟩, hx2⟩
  replace hx := hx.trans hx2
  replace ka := ka.mono monoPE hx2
  replace kb := kb.mono monoPE hx2
  replace kt := kt.mono monoPR hx2
  replace kc := kc.mono monoPS hx2
  replace b0 := hx2.blk b0
  clear b1
  cases c with
  | true =>
    simp [r_9_2]
    refine awake_does.mono ?_
    rintro _ G2 ⟨rfl, rfl⟩
    simp
  | false =>
  replace hgx := (hgx rfl).2 x (by simp)
  by_cases hab : a.length = b.length
  · have fr := RowsV.few kc hgr
    have fx := RatsV.limR kt hgx.2
    have fa := few_of ga
    have fb := few_of gb
    have fj := few_join fa fb (ExtsV.limE ka) (ExtsV.limE kb)
    have fm := few_meet fa fb (ExtsV.limE ka) (ExtsV.limE kb)
    have hS : (x.length + 1) * (2 * 6 + 3) + 1 < 67108864 := by have := hgx.1; omega
    have hrl : rows.length < 1073741824 := by have := hgr.1; omega
    simp [h0, ka.slen, kb.slen, hab]
    refine W_draw ?_
    simp [r_9_3, b0, h0]
    refine (dom_Has_does (S := 6) (rows := rows) ⟨s, rfl, kc⟩ ka kt (by have := hx.1; omega) fr fx hS hrl fa).mono ?_
    rintro _ G2 ⟨rfl, hx2⟩
    replace hx := hx.trans hx2
    replace ka := ka.mono monoPE hx2
    replace kb := kb.mono monoPE hx2
    replace kt := kt.mono monoPR hx2
    replace kc := kc.mono monoPS hx2
    replace b0 := hx2.blk b0
    simp [b0, h0]
    refine (dom_Has_does (S := 6) (rows := rows) ⟨s, rfl, kc⟩ kb kt (by have := hx.1; omega) fr fx hS hrl fb).mono ?_
    rintro _ G2 ⟨rfl, hx2⟩
    replace hx := hx.trans hx2
    replace ka := ka.mono monoPE hx2
    replace kb := kb.mono monoPE hx2
    replace kt := kt.mono monoPR hx2
    replace kc := kc.mono monoPS hx2
    replace b0 := hx2.blk b0
    simp
    refine W_draw ?_
    have hj := fun h => has_join (rows := rows) (x := x) hab h
    have hm := has_meet (rows := rows) (x := x) hab
    generalize hasT rows a x = A at hj hm
    generalize hasT rows b x = B at hj hm
    by_cases hA : A = true ∨ B = true
    · replace hj := hj hA
      cases A with
      | true =>
        cases B with
        | true =>
          simp [r_9_4, b0, h0]
          refine (dom_Join_does ka kb (by have := hx.1; omega) fa fb (by omega)).mono ?_
          rintro j G2 ⟨kj, hx2⟩
          replace hx := hx.trans hx2
          replace ka := ka.mono monoPE hx2
          replace kb := kb.mono monoPE hx2
          replace kt := kt.mono monoPR hx2
          replace kc := kc.mono monoPS hx2
          replace b0 := hx2.blk b0
          simp [h0]
          refine (dom_Has_does (S := 6) (rows := rows) ⟨s, rfl, kc⟩ kj kt (by have := hx.1; omega) fr fx hS hrl fj).mono ?_
          rintro _ G2 ⟨rfl, hx2⟩
          replace hx := hx.trans hx2
          replace ka := ka.mono monoPE hx2
          replace kb := kb.mono monoPE hx2
          replace kt := kt.mono monoPR hx2
          replace kc := kc.mono monoPS hx2
          replace b0 := hx2.blk b0
          simp [hj, b0, h0]
          refine (dom_Meet_does ka kb (by have := hx.1; omega) fa fb (by omega)).mono ?_
          rintro m G2 ⟨km, hx2⟩
          replace hx := hx.trans hx2
          replace ka := ka.mono monoPE hx2
          replace kb := kb.mono monoPE hx2
          replace kt := kt.mono monoPR hx2
          replace kc := kc.mono monoPS hx2
          replace b0 := hx2.blk b0
          simp [h0]
          refine (dom_Has_does (S := 6) (rows := rows) ⟨s, rfl, kc⟩ km kt (by have := hx.1; omega) fr fx hS hrl fm).mono ?_
          rintro _ G2 ⟨rfl, hx2⟩
          replace hx := hx.trans hx2
          replace ka := ka.mono monoPE hx2
          replace kb := kb.mono monoPE hx2
          replace kt := kt.mono monoPR hx2
          replace kc := kc.mono monoPS hx2
          replace b0 := hx2.blk b0
          simp [hm]
          refine awake_does.mono ?_
          rintro _ G2 ⟨rfl, rfl⟩
          simp
        | false =>
          simp [r_9_4, b0, h0]
          refine (dom_Join_does ka kb (by have := hx.1; omega) fa fb (by omega)).mono ?_
          rintro j G2 ⟨kj, hx2⟩
          replace hx := hx.trans hx2
          replace ka := ka.mono monoPE hx2
          replace kb := kb.mono monoPE hx2
          replace kt := kt.mono monoPR hx2
          replace kc := kc.mono monoPS hx2
          replace b0 := hx2.blk b0
          simp [h0]
          refine (dom_Has_does (S := 6) (rows := rows) ⟨s, rfl, kc⟩ kj kt (by have := hx.1; omega) fr fx hS hrl fj).mono ?_
          rintro _ G2 ⟨rfl, hx2⟩
          replace hx := hx.trans hx2
          replace ka := ka.mono monoPE hx2
          replace kb := kb.mono monoPE hx2
          replace kt := kt.mono monoPR hx2
          replace kc := kc.mono monoPS hx2
          replace b0 := hx2.blk b0
          simp [hj, b0, h0]
          refine (dom_Meet_does ka kb (by have := hx.1; omega) fa fb (by omega)).mono ?_
          rintro m G2 ⟨km, hx2⟩
          replace hx := hx.trans hx2
          replace ka := ka.mono monoPE hx2
          replace kb := kb.mono monoPE hx2
          replace kt := kt.mono monoPR hx2
          replace kc := kc.mono monoPS hx2
          replace b0 := hx2.blk b0
          simp [h0]
          refine (dom_Has_does (S := 6) (rows := rows) ⟨s, rfl, kc⟩ km kt (by have := hx.1; omega) fr fx hS hrl fm).mono ?_
          rintro _ G2 ⟨rfl, hx2⟩
          replace hx := hx.trans hx2
          replace ka := ka.mono monoPE hx2
          replace kb := kb.mono monoPE hx2
          replace kt := kt.mono monoPR hx2
          replace kc := kc.mono monoPS hx2
          replace b0 := hx2.blk b0
          simp [hm]
          refine awake_does.mono ?_
          rintro _ G2 ⟨rfl, rfl⟩
          simp
      | false =>
        cases B with
        | true =>
          simp [r_9_4, b0, h0]
          refine (dom_Join_does ka kb (by have := hx.1; omega) fa fb (by omega)).mono ?_
          rintro j G2 ⟨kj, hx2⟩
          replace hx := hx.trans hx2
          replace ka := ka.mono monoPE hx2
          replace kb := kb.mono monoPE hx2
          replace kt := kt.mono monoPR hx2
          replace kc := kc.mono monoPS hx2
          replace b0 := hx2.blk b0
          simp [h0]
          refine (dom_Has_does (S := 6) (rows := rows) ⟨s, rfl, kc⟩ kj kt (by have := hx.1; omega) fr fx hS hrl fj).mono ?_
          rintro _ G2 ⟨rfl, hx2⟩
          replace hx := hx.trans hx2
          replace ka := ka.mono monoPE hx2
          replace kb := kb.mono monoPE hx2
          replace kt := kt.mono monoPR hx2
          replace kc := kc.mono monoPS hx2
          replace b0 := hx2.blk b0
          simp [hj, b0, h0]
          refine (dom_Meet_does ka kb (by have := hx.1; omega) fa fb (by omega)).mono ?_
          rintro m G2 ⟨km, hx2⟩
          replace hx := hx.trans hx2
          replace ka := ka.mono monoPE hx2
          replace kb := kb.mono monoPE hx2
          replace kt := kt.mono monoPR hx2
          replace kc := kc.mono monoPS hx2
          replace b0 := hx2.blk b0
          simp [h0]
          refine (dom_Has_does (S := 6) (rows := rows) ⟨s, rfl, kc⟩ km kt (by have := hx.1; omega) fr fx hS hrl fm).mono ?_
          rintro _ G2 ⟨rfl, hx2⟩
          replace hx := hx.trans hx2
          replace ka := ka.mono monoPE hx2
          replace kb := kb.mono monoPE hx2
          replace kt := kt.mono monoPR hx2
          replace kc := kc.mono monoPS hx2
          replace b0 := hx2.blk b0
          simp [hm]
          refine awake_does.mono ?_
          rintro _ G2 ⟨rfl, rfl⟩
          simp
        | false => simp at hA
    · have hA0 : A = false := by cases A <;> simp_all
      have hB0 : B = false := by cases B <;> simp_all
      subst hA0 hB0
      simp [r_9_4, b0, h0]
      refine (dom_Meet_does ka kb (by have := hx.1; omega) fa fb (by omega)).mono ?_
      rintro m G2 ⟨km, hx2⟩
      replace hx := hx.trans hx2
      replace ka := ka.mono monoPE hx2
      replace kb := kb.mono monoPE hx2
      replace kt := kt.mono monoPR hx2
      replace kc := kc.mono monoPS hx2
      replace b0 := hx2.blk b0
      simp [h0]
      refine (dom_Has_does (S := 6) (rows := rows) ⟨s, rfl, kc⟩ km kt (by have := hx.1; omega) fr fx hS hrl fm).mono ?_
      rintro _ G2 ⟨rfl, hx2⟩
      replace hx := hx.trans hx2
      replace ka := ka.mono monoPE hx2
      replace kb := kb.mono monoPE hx2
      replace kt := kt.mono monoPR hx2
      replace kc := kc.mono monoPS hx2
      replace b0 := hx2.blk b0
      simp [hm]
      refine awake_does.mono ?_
      rintro _ G2 ⟨rfl, rfl⟩
      simp
  · have hab' : ¬ (a.length : Int) = (b.length : Int) := by omega
    simp [h0, ka.slen, kb.slen, hab, hab', r_9_2]
    refine awake_does.mono ?_
    rintro _ G2 ⟨rfl, rfl⟩
    simp

end Go.Proofs.YtjlohmnnldbjoaaGreat.AI
