/- Part 8 of the proof: AiFor, AiVec1, AiDom1, AiDom2, AiDom3, AiDom4, AiFor2, AiSame, AiGreat, AiRow3, AiFast1. -/
import Derived.Test.YtjlohmnnldbjoaaGreatRows
import Derived.Test.YtjlohmnnldbjoaaGreatM00
import Derived.Test.YtjlohmnnldbjoaaGreatM02
import Derived.Test.YtjlohmnnldbjoaaGreatM06
set_option linter.unusedVariables false
set_option linter.unusedSimpArgs false
set_option linter.unusedSectionVars false

/- Loops that count; slices of what has a shape. -/
namespace Go.Proofs.YtjlohmnnldbjoaaGreat.AI
open Go

def forQ (b2 b : Nat) (A : Tmps → Heap → Prop) (Z : Tmps → Heap → Prop) (Q : PostX) : PostX
  | .normal, t, H => A t H
  | .exit j, t, H => if j = b2 then A t H else if j = b then Z t H else Q (.exit j) t H
  | .ret, t, H => Q .ret t H
section
variable {b2 b : Nat} {A Z : Tmps → Heap → Prop} {Q : PostX} {t : Tmps} {H : Heap}
@[simp] theorem forQ_normal : forQ b2 b A Z Q .normal t H = A t H := nr rfl
@[simp] theorem forQ_exit {j : Nat} : forQ b2 b A Z Q (.exit j) t H = if j = b2 then A t H else if j = b then Z t H else Q (.exit j) t H := nr rfl
@[simp] theorem forQ_ret : forQ b2 b A Z Q .ret t H = Q .ret t H := nr rfl
end

def Rnd (nt ti tn n i : Nat) (Inv : Nat → (Nat → Value) → Heap → Prop) (t : Tmps) (H : Heap) : Prop :=
  ∃ ρ, t = T nt ρ ∧ ρ ti = .int .i64 (i : Int) ∧ ρ tn = .int .i64 (n : Int) ∧ Inv (i + 1) ρ H
theorem Rnd.mk {nt ti tn n i : Nat} {Inv : Nat → (Nat → Value) → Heap → Prop} {ρ : Nat → Value} {H : Heap} (h1 : ρ ti = .int .i64 (i : Int)) (h2 : ρ tn = .int .i64 (n : Int)) (h3 : Inv (i + 1) ρ H) : Rnd nt ti tn n i Inv (T nt ρ) H := ⟨ρ, rfl, h1, h2, h3⟩

theorem W_for {E : Env} {fl nt ti tn tc tx b b2 n : Nat} {body : SCode} {Z : Tmps → Heap → Prop} {Q : PostX} {R : PostP} {ρ : Nat → Value} {H : Heap} {rc rx : List SOper} (Inv : Nat → (Nat → Value) → Heap → Prop)
    (hrc : rc = [⟨some tc, none, .bin 0 .lss (.tmp ti) (.tmp tn)⟩]) (hrx : rx = [⟨some tx, none, .bin 0 .add (.tmp ti) (.const (.int .i64 1))⟩, ⟨some ti, none, .mv (.tmp tx)⟩])
    (hl : ti < nt ∧ tn < nt ∧ tc < nt ∧ tx < nt ∧ tc ≠ ti ∧ tc ≠ tn ∧ tx ≠ ti ∧ tx ≠ tn ∧ ti ≠ tn) (hn : n < 4611686018427387904)
    (h0 : ρ ti = .int .i64 0) (hN : ρ tn = .int .i64 (n : Int)) (hI : Inv 0 ρ H)
    (stab : ∀ i (ρ ρ' : Nat → Value) H, (∀ k, k ≠ tc → k ≠ tx → k ≠ ti → ρ' k = ρ k) → Inv i ρ H → Inv i ρ' H)
    (step : ∀ i ρ H, i < n → ρ ti = .int .i64 (i : Int) → ρ tn = .int .i64 (n : Int) → Inv i ρ H → W E fl body (T nt ρ) H (forQ b2 b (Rnd nt ti tn n i Inv) Z Q) R)
    (rest : ∀ ρ H, ρ ti = .int .i64 (n : Int) → ρ tn = .int .i64 (n : Int) → Inv n ρ H → Z (T nt ρ) H) :
    W E fl (.loop (.seq (.reg rc) (.seq (.cond (.tmp tc) .skip (.exit b)) (.seq (.block b2 body) (.reg rx))))) (T nt ρ) H (blockW b (thenW Z Q)) R := by
  subst hrc hrx
  obtain ⟨l1, l2, l3, l4, n1, n2, n3, n4, n5⟩ := hl
  refine W_loopM (fun k t G => ∃ i ρ, i + k = n ∧ t = T nt ρ ∧ ρ ti = .int .i64 (i : Int) ∧ ρ tn = .int .i64 (n : Int) ∧ Inv i ρ G) Z n ?_ ?_ (fun _ _ h => h)
  · exact ⟨0, ρ, by omega, rfl, h0, hN, hI⟩
  · clear h0 hN hI ρ H
    rintro k t G ⟨i, ρ, hik, rfl, g1, g2, hI⟩
    have e9 : IntKind.i64.wrap ((i : Int) + 1) = ((i + 1 : Nat) : Int) := by rw [wrap64 (by omega) (by omega)]; omega
    have hstab : ∀ v, Inv i (upd ρ tc v) G := fun v => stab i ρ _ G (fun k h1 _ _ => upd_ne (Ne.symm h1)) hI
    refine W_seq (W_reg ?_)
    simp only [WR_cons, WS_bin, ev_tmp, get_T l1, get_T l2, g1, g2, binA_lss, oo_some, WR_nil, thenW_normal, put_T]
    by_cases hi : i < n
    · have hs := step i (upd ρ tc (.bool true)) G hi (by rw [upd_ne n1]; exact g1) (by rw [upd_ne n2]; exact g2) (hstab _)
      have hd : decide ((i : Int) < (n : Int)) = true := by rw [decide_eq_true_eq]; omega
      rw [hd]
      refine W_seq (W_cond true (by rw [ev_tmp, get_T l3, upd_self]) (fun _ => W_skip ?_) (by simp))
      refine W_seq (W_block ?_)
      have hfin : ∀ t' H', Rnd nt ti tn n i Inv t' H' → WR E fl [⟨some tx, none, .bin 0 .add (.tmp ti) (.const (.int .i64 1))⟩, ⟨some ti, none, .mv (.tmp tx)⟩] t' H' (fun t' H' => ∃ k', k' < k ∧ ∃ i ρ, i + k' = n ∧ t' = T nt ρ ∧ ρ ti = .int .i64 (i : Int) ∧ ρ tn = .int .i64 (n : Int) ∧ Inv i ρ H') R := by
        rintro t' H' ⟨ρ', rfl, q1, q2, q3⟩
        simp only [WR_cons, WS_bin, WS_mv, ev_tmp, ev_const, get_T l1, q1, binA_add, e9, oo_some, WR_nil, put_T, get_T l4, upd_self]
        refine ⟨k - 1, by omega, i + 1, _, by omega, rfl, upd_self, ?_, ?_⟩
        · rw [upd_ne n5, upd_ne n4]; exact q2
        · exact stab (i + 1) ρ' _ H' (fun k h1 h2 h3 => by rw [upd_ne (Ne.symm h3), upd_ne (Ne.symm h2)]) q3
      refine hs.mono fun e t' H' hq => ?_
      cases e with
      | normal => exact W_reg (hfin _ _ hq)
      | exit j =>
        simp only [forQ] at hq
        show (if j = b2 then _ else _)
        by_cases hj : j = b2
        · rw [if_pos hj] at hq ⊢; exact W_reg (hfin _ _ hq)
        · rw [if_neg hj] at hq ⊢
          show (if j = b then _ else _)
          by_cases hj2 : j = b
          · rw [if_pos hj2] at hq ⊢; exact hq
          · rw [if_neg hj2] at hq ⊢; exact hq
      | ret => exact hq
    · have : i = n := by omega
      subst this
      have hd : decide ((i : Int) < (i : Int)) = false := by simp
      rw [hd]
      refine W_seq (W_cond false (by rw [ev_tmp, get_T l3, upd_self]) (by simp) (fun _ => W_exit ?_))
      show (if b = b then _ else _)
      rw [if_pos rfl]
      exact rest _ _ (by rw [upd_ne n1]; exact g1) (by rw [upd_ne n2]; exact g2) (hstab _)

theorem thenW_same {Q : PostX} : thenW (fun t H => Q .normal t H) Q = Q := by
  funext e t H; cases e <;> rfl
theorem W_forE {E : Env} {fl nt ti tn tc tx b b2 n : Nat} {body : SCode} {Q : PostX} {R : PostP} {ρ : Nat → Value} {H : Heap} {rc rx : List SOper} (Inv : Nat → (Nat → Value) → Heap → Prop)
    (hrc : rc = [⟨some tc, none, .bin 0 .lss (.tmp ti) (.tmp tn)⟩]) (hrx : rx = [⟨some tx, none, .bin 0 .add (.tmp ti) (.const (.int .i64 1))⟩, ⟨some ti, none, .mv (.tmp tx)⟩])
    (hl : ti < nt ∧ tn < nt ∧ tc < nt ∧ tx < nt ∧ tc ≠ ti ∧ tc ≠ tn ∧ tx ≠ ti ∧ tx ≠ tn ∧ ti ≠ tn) (hn : n < 4611686018427387904)
    (h0 : ρ ti = .int .i64 0) (hN : ρ tn = .int .i64 (n : Int)) (hI : Inv 0 ρ H)
    (stab : ∀ i (ρ ρ' : Nat → Value) H, (∀ k, k ≠ tc → k ≠ tx → k ≠ ti → ρ' k = ρ k) → Inv i ρ H → Inv i ρ' H)
    (step : ∀ i ρ H, i < n → ρ ti = .int .i64 (i : Int) → ρ tn = .int .i64 (n : Int) → Inv i ρ H → W E fl body (T nt ρ) H (forQ b2 b (Rnd nt ti tn n i Inv) (fun t H => Q .normal t H) Q) R)
    (rest : ∀ ρ H, ρ ti = .int .i64 (n : Int) → ρ tn = .int .i64 (n : Int) → Inv n ρ H → Q .normal (T nt ρ) H) :
    W E fl (.loop (.seq (.reg rc) (.seq (.cond (.tmp tc) .skip (.exit b)) (.seq (.block b2 body) (.reg rx))))) (T nt ρ) H (blockW b Q) R := by
  rw [← thenW_same (Q := Q)]
  exact W_for (Z := fun t H => Q .normal t H) (Q := Q) Inv hrc hrx hl hn h0 hN hI stab step rest

/-! ### slices of what has a shape -/
def Sls {α : Type} (P : Heap → List Value → α → Prop) (H : Heap) (e sz : Nat) (v : Value) (l : List α) : Prop :=
  ∃ cs, Sl H e sz v l.length cs ∧ ∀ k (h : k < l.length), P H ((cs.drop (k * sz)).take sz) l[k]
def MonoP {α : Type} (P : Heap → List Value → α → Prop) : Prop := ∀ H G cs x, Ext H G → P H cs x → P G cs x
section
variable {α : Type} {P : Heap → List Value → α → Prop} {H G : Heap} {e sz : Nat} {v : Value} {l : List α}
theorem Sls.mono (hP : MonoP P) (h : Sls P H e sz v l) (hx : Ext H G) : Sls P G e sz v l := by
  obtain ⟨cs, h1, h2⟩ := h; exact ⟨cs, h1.mono hx, fun k hk => hP _ _ _ _ hx (h2 k hk)⟩
theorem Sls.slen (h : Sls P H e sz v l) : slenV v = some (.int .i64 l.length) := by obtain ⟨cs, h1, _⟩ := h; exact h1.slen
theorem Sls.ia (h : Sls P H e sz v l) {k : IntKind} {j : Nat} (hj : j < l.length) : iaV sz v (.int k j) = some (adr sz v j) := by obtain ⟨cs, h1, _⟩ := h; exact h1.ia hj
theorem Sls.load (h : Sls P H e sz v l) {j : Nat} (hj : j < l.length) (hs : 0 < sz) : ∃ cs, loadA H true sz (adr sz v j) = some (.agg cs.toArray) ∧ cs.length = sz ∧ P H cs l[j] := by
  obtain ⟨cs, h1, h2⟩ := h
  refine ⟨_, h1.load (Ext.refl H) hj hs, ?_, h2 j hj⟩
  have := h1.1
  have : (j + 1) * sz ≤ l.length * sz := Nat.mul_le_mul_right _ hj
  rw [Nat.add_mul, Nat.one_mul] at this
  simp; omega
theorem Sls.load1 (h : Sls P H e 1 v l) {j : Nat} (hj : j < l.length) : ∃ w, loadA H false 1 (adr 1 v j) = some w ∧ P H [w] l[j] := by
  obtain ⟨cs, h1, h2⟩ := h
  refine ⟨_, h1.load1 (Ext.refl H) hj, ?_⟩
  have h3 := h2 j hj
  have hl := h1.1
  have : (cs.drop (j * 1)).take 1 = [cs.getD j undef] := by
    have hjc : j < cs.length := by omega
    have e1 : cs.getD j undef = cs[j] := by simp [List.getD_eq_getElem?_getD, hjc]
    rw [Nat.mul_one, List.drop_eq_getElem_cons hjc, e1]; rfl
  rw [this] at h3; exact h3
theorem Sls.cells (h : Sls P H e sz v l) : cellsL v = [v] := by obtain ⟨cs, h1, _⟩ := h; exact h1.cells
theorem Sls.plain (h : Sls P H e sz v l) : plainCell v = true := by obtain ⟨cs, h1, _⟩ := h; exact h1.plain
theorem Sls.nil : Sls P H e sz (.slice none 0 0) ([] : List α) := ⟨[], Sl.nil, fun k hk => by simp at hk⟩
end

def Owns {α : Type} (P : Heap → List Value → α → Prop) (fl : Nat) (H : Heap) (e sz : Nat) (v : Value) (l : List α) : Prop :=
  ∃ cs, Own fl H e sz v l.length cs ∧ ∀ k (h : k < l.length), P H ((cs.drop (k * sz)).take sz) l[k]
section
variable {α : Type} {P : Heap → List Value → α → Prop} {H G : Heap} {fl e sz : Nat} {v : Value} {l : List α}
theorem Owns.sls (h : Owns P fl H e sz v l) : Sls P H e sz v l := by obtain ⟨cs, h1, h2⟩ := h; exact ⟨cs, h1.sl, h2⟩
theorem Owns.mono (hP : MonoP P) (h : Owns P fl H e sz v l) (hx : Ext H G) : Owns P fl G e sz v l := by
  obtain ⟨cs, h1, h2⟩ := h; exact ⟨cs, h1.mono hx, fun k hk => hP _ _ _ _ hx (h2 k hk)⟩
theorem Owns.nil : Owns P fl H e sz (.slice none 0 0) ([] : List α) := ⟨[], Own.nil, fun k hk => by simp at hk⟩
theorem Owns.slen (h : Owns P fl H e sz v l) : slenV v = some (.int .i64 l.length) := h.sls.slen

def Lx (H G : Heap) : Prop := ∀ b ro cs, H.blk b = .row ro T_uint32 cs → G.blk b = .row ro T_uint32 cs
theorem Owns.lx (h : Owns P fl G e sz v l) (he : e ≠ T_uint32) {G' : Heap} (hx : ExtB (slB v) G G') : Lx G G' := by
  intro b ro cs hb
  obtain ⟨cs', ⟨hl, ⟨rfl, _⟩ | ⟨p, cap, rfl, hp, _⟩⟩, _⟩ := h
  · rw [hx.2 b (blk_lt hb) (by simp [slB])]; exact hb
  · rw [hx.2 b (blk_lt hb) (by simp [slB]; rintro rfl; rw [hp] at hb; cases hb; exact he rfl)]; exact hb
theorem Owns.app (he : e ≠ T_uint32) (hO : ∀ G' cs x, ExtB (slB v) G G' → Lx G G' → P G cs x → P G' cs x) (h : Owns P fl G e sz v l) {e2 c bytes : Nat} {new : List Value} {x : α} (hx : P G new x) (hl : new.length = sz) (hp : new.all plainCell = true) (hn : l.length < 1073741824) (hb : bytes ≤ 1024) (hs : 0 < sz) (hfl : fl ≤ G.size) :
    ∃ v' G', appA fl (G.push (.row false e2 new)) e sz bytes v (.slice (some ⟨G.size, 0, none⟩) 1 c) = some (v', G') ∧ Owns P fl G' e sz v' (l ++ [x]) ∧ ExtB (slB v) G G' ∧ (∀ H0, H0.size ≤ fl → Ext H0 G → Ext H0 G') := by
  obtain ⟨cs, h1, h2⟩ := h
  obtain ⟨v', G', a1, a2, a3, a4⟩ := app_lit (e2 := e2) (c := c) h1 hl hp hn hb hs hfl (bytes := bytes)
  refine ⟨v', G', a1, ⟨cs ++ new, by simpa using a2, fun k hk => ?_⟩, a3, a4⟩
  have hcs := h1.1
  by_cases hkl : k < l.length
  · have h3 : (k + 1) * sz ≤ l.length * sz := Nat.mul_le_mul_right _ hkl
    rw [Nat.add_mul, Nat.one_mul] at h3
    rw [List.getElem_append_left hkl, List.drop_append_of_le_length (by omega), List.take_append_of_le_length (by simp; omega)]
    exact hO _ _ _ a3 (Owns.lx ⟨cs, h1, h2⟩ he a3) (h2 k hkl)
  · have hke : k = l.length := by simp at hk; omega
    subst hke
    rw [List.getElem_append_right (Nat.le_refl _), List.drop_append_of_le_length (by omega), List.drop_eq_nil_of_le (by omega), List.nil_append, ← hl, List.take_length]
    simpa using hO _ _ _ a3 (Owns.lx ⟨cs, h1, h2⟩ he a3) hx
end

theorem Lim.lx {H G : Heap} {v : Value} {l : List Nat} (h : Lim H v l) (hx : Lx H G) : Lim G v l := by
  obtain ⟨⟨hl, h1 | ⟨b, off, cap, ro, cells, rfl, hb, ho, hcs⟩⟩, h2⟩ := h
  · exact ⟨⟨hl, .inl h1⟩, h2⟩
  · exact ⟨⟨hl, .inr ⟨b, off, cap, ro, cells, rfl, hx _ _ _ hb, ho, hcs⟩⟩, h2⟩
theorem RatV.lx {H G : Heap} {v : Value} {a : RawR} (h : RatV H v a) (hx : Lx H G) : RatV G v a := by obtain ⟨s, u, h1, h2, h3⟩ := h; exact ⟨s, u, h1, h2.lx hx, h3.lx hx⟩
theorem ExtV.lx {H G : Heap} {v : Value} {e : RawE} (h : ExtV H v e) (hx : Lx H G) : ExtV G v e := by obtain ⟨s, u, h1, h2, h3⟩ := h; exact ⟨s, u, h1, h2.lx hx, h3.lx hx⟩

end Go.Proofs.YtjlohmnnldbjoaaGreat.AI

/- Rows of quotients; vec.Dot. -/
namespace Go.Proofs.YtjlohmnnldbjoaaGreat.AI
open Go
set_option maxHeartbeats 4000000

variable {fl : Nat} {H G : Heap} {R : PostP} {v w : Value}

def PR (H : Heap) (cs : List Value) (a : RawR) : Prop := RatV H (.agg cs.toArray) a
def PE (H : Heap) (cs : List Value) (e : RawE) : Prop := ExtV H (.agg cs.toArray) e
theorem monoPR : MonoP PR := fun _ _ _ _ hx h => RatV.mono h hx
theorem monoPE : MonoP PE := fun _ _ _ _ hx h => ExtV.mono h hx
abbrev RatsV (H : Heap) (v : Value) (l : List RawR) : Prop := Sls PR H T_api_Rat 4 v l
abbrev ExtsV (H : Heap) (v : Value) (l : List RawE) : Prop := Sls PE H T_api_Ext 5 v l
def PS (H : Heap) (cs : List Value) (l : List RawR) : Prop := ∃ v, cs = [v] ∧ RatsV H v l
theorem monoPS : MonoP PS := fun _ _ _ _ hx ⟨v, h1, h2⟩ => ⟨v, h1, h2.mono monoPR hx⟩
abbrev RowsV (H : Heap) (v : Value) (l : List (List RawR)) : Prop := Sls PS H T_sl_api_Rat 1 v l

theorem RatsV.load {l : List RawR} (h : RatsV H v l) {j : Nat} (hj : j < l.length) : ∃ w, loadA H true 4 (adr 4 v j) = some w ∧ RatV H w l[j] := by
  obtain ⟨cs, h1, _, h3⟩ := Sls.load h hj (by omega); exact ⟨_, h1, h3⟩
theorem ExtsV.load {l : List RawE} (h : ExtsV H v l) {j : Nat} (hj : j < l.length) : ∃ w, loadA H true 5 (adr 5 v j) = some w ∧ ExtV H w l[j] := by
  obtain ⟨cs, h1, _, h3⟩ := Sls.load h hj (by omega); exact ⟨_, h1, h3⟩
theorem RowsV.load {l : List (List RawR)} (h : RowsV H v l) {j : Nat} (hj : j < l.length) : ∃ w, loadA H false 1 (adr 1 v j) = some w ∧ RatsV H w l[j] := by
  obtain ⟨w, h1, w', h2, h3⟩ := Sls.load1 h hj
  simp at h2; subst h2; exact ⟨_, h1, h3⟩

def dotR (a b : List RawR) : Nat → Rat
  | 0 => 0
  | n + 1 => dotR a b n + valR (a.getD n rawZ) * valR (b.getD n rawZ)

def Few (S : Nat) (l : List RawR) : Prop := ∀ x ∈ l, lenR x ≤ S ∧ LimOk x.1.2 ∧ LimOk x.2.2
theorem Few.sz {S : Nat} {l : List RawR} (h : Few S l) (n : Nat) : szR (valR (l.getD n rawZ)) ≤ S + 1 := by
  rw [List.getD_eq_getElem?_getD]
  by_cases hn : n < l.length
  · rw [List.getElem?_eq_getElem hn]
    obtain ⟨h1, h2, h3⟩ := h _ (List.getElem_mem hn)
    have := szR_val h2 h3
    simp; omega
  · rw [List.getElem?_eq_none (by omega)]
    show szR (valR rawZ) ≤ _
    rw [valR_rawZ, szR_zero]; omega
theorem szR_dot {S : Nat} {a b : List RawR} (ha : Few S a) (hb : Few S b) : ∀ n, szR (dotR a b n) ≤ n * (2 * S + 3) + 1
  | 0 => by simp [dotR, szR_zero]
  | n + 1 => by
    have h1 := szR_dot ha hb n
    have h2 := szR_add (dotR a b n) (valR (a.getD n rawZ) * valR (b.getD n rawZ))
    have h3 := szR_mul (valR (a.getD n rawZ)) (valR (b.getD n rawZ))
    have h4 := ha.sz n
    have h5 := hb.sz n
    rw [dotR, Nat.add_mul]; omega

theorem vec_Dot_ne {a b : List RawR} (ha : RatsV H v a) (hb : RatsV H w b) (hf : fl ≤ H.size) (hne : a.length ≠ b.length) :
    Does env fl f_52 [v, w] H (fun r H' => (∃ q, r = .tuple #[q, .int .i64 1] ∧ RatV H' q rawZ) ∧ Ext H H') R := by
  refine does_ext e_52 hf (h := ?_)
  intro ρ h0
  have hne' : ¬ ((a.length : Int) = (b.length : Int)) := by omega
  simp [s_52, r_52_0, r_52_1, r_52_2, h0, ha.slen, hb.slen, hne, hne']
  exact ⟨_, _, rfl, Lim.nil, Lim.nil⟩

theorem vec_Dot_does {S : Nat} {a b : List RawR} (ha : RatsV H v a) (hb : RatsV H w b) (hf : fl ≤ H.size) (he : a.length = b.length) (hfa : Few S a) (hfb : Few S b) (hS : (a.length + 1) * (2 * S + 3) + 1 < 67108864) :
    Does env fl f_52 [v, w] H (fun r H' => (∃ q, r = .tuple #[q, .int .i64 0] ∧ RatV H' q (canonR (dotR a b a.length))) ∧ Ext H H') R := by
  refine does_ext e_52 hf (h := ?_)
  intro ρ h0
  have hal : a.length < 67108864 := by
    have : (a.length + 1) * 1 ≤ (a.length + 1) * (2 * S + 3) := Nat.mul_le_mul_left _ (by omega)
    omega
  have hSl : S < 33554432 := by
    have : 1 * (2 * S + 3) ≤ (a.length + 1) * (2 * S + 3) := Nat.mul_le_mul_right _ (by omega)
    omega
  have hne : (a.length == b.length) = true := by simpa using he
  simp [s_52, r_52_0, r_52_1, h0, ha.slen, hb.slen, he]
  generalize hG : Array.push H _ = G
  obtain ⟨hx2, b0⟩ := new0 hG
  have hx := Ext.refl H
  clear hG
  (try replace b0:=hx2.blk b0);(try replace b1:=hx2.blk b1);(try replace hx:=hx.trans hx2);(try replace k0:=k0.mono hx2);(try replace k1:=k1.mono hx2);(try replace k2:=k2.mono hx2);(try replace k3:=k3.mono hx2);(try replace k4:=k4.mono hx2);(try replace k5:=k5.mono hx2);(try replace k6:=k6.mono hx2);(try replace k7 := k7.mono hx2)
  simp [r_52_3]
  refine (rat_Of_does (n := 0) hx.1 (by omega) (by omega)).mono ?_
  rintro _ G2 ⟨⟨s1, s2, rfl, k0, k1⟩, hx2⟩
  (try replace b0:=hx2.blk b0);(try replace b1:=hx2.blk b1);(try replace hx:=hx.trans hx2);(try replace k0:=k0.mono hx2);(try replace k1:=k1.mono hx2);(try replace k2:=k2.mono hx2);(try replace k3:=k3.mono hx2);(try replace k4:=k4.mono hx2);(try replace k5:=k5.mono hx2);(try replace k6:=k6.mono hx2);(try replace k7 := k7.mono hx2)
  have hsz := hx.1
  simp [h0, k0.cells, k0.plain, k1.cells, k1.plain, hsz]
  generalize hN : Array.setIfInBounds (Array.push _ _) _ _ = G3
  obtain ⟨hx2, b1⟩ := new1 hN
  have hb0l := blk_lt b0
  clear hN
  (try replace b0:=hx2.blk b0);(try replace b1:=hx2.blk b1);(try replace hx:=hx.trans hx2);(try replace k0:=k0.mono hx2);(try replace k1:=k1.mono hx2);(try replace k2:=k2.mono hx2);(try replace k3:=k3.mono hx2);(try replace k4:=k4.mono hx2);(try replace k5:=k5.mono hx2);(try replace k6:=k6.mono hx2);(try replace k7 := k7.mono hx2)
  obtain ⟨P, hP⟩ : ∃ P, P = G2.size := ⟨_, rfl⟩
  rw [← hP] at b1 hsz hb0l ⊢
  simp [r_52_4, h0, ha.slen]
  refine W_for (n := a.length) (fun i ρ G => ρ 0 = v ∧ ρ 1 = w ∧ ρ 4 = .pointer (some ⟨H.size, 0, none⟩) ∧ ρ 5 = .int .i64 0 ∧ ρ 6 = .pointer (some ⟨P, 0, none⟩) ∧ Ext H G ∧
      Heap.blk G H.size = .row false T_api_Rat [.bool false, .slice none 0 0, .bool false, .slice none 0 0] ∧
      ∃ s1 s2, Heap.blk G P = .row false T_api_Rat [.bool (canonR (dotR a b i)).1.1, s1, .bool (canonR (dotR a b i)).2.1, s2] ∧ Lim G s1 (canonR (dotR a b i)).1.2 ∧ Lim G s2 (canonR (dotR a b i)).2.2)
    rfl rfl (by decide) (by omega) (by simp) (by simp) ?_ ?_ ?_ ?_
  · exact ⟨by simp [h0], by simp [h0], by simp, by simp, by simp, hx, b0, s1, s2, b1, k0, k1⟩
  · intro i ρ ρ' G h hI; simpa [h] using hI
  · clear h0 ρ k0 k1 b0 b1 hx hx2
    rintro i ρ G hi gi gn ⟨g0, g1, g4, g5, g6, hx, b0, s1, s2, b1, k0, k1⟩
    have ka := ha.mono monoPR hx
    have kb := hb.mono monoPR hx
    obtain ⟨wa, hla, k2⟩ := RatsV.load ka hi
    obtain ⟨wb, hlb, k3⟩ := RatsV.load kb (show i < b.length by omega)
    have k4 : RatV G (.agg #[.bool (canonR (dotR a b i)).1.1, s1, .bool (canonR (dotR a b i)).2.1, s2]) (canonR (dotR a b i)) := ⟨s1, s2, rfl, k0, k1⟩
    have fa := hfa _ (List.getElem_mem hi)
    have fb := hfb _ (List.getElem_mem (show i < b.length by omega))
    simp [r_52_6, gi]
    refine W_draw ?_
    simp [r_52_7, g0, g1, g6, ka.ia hi, kb.ia (show i < b.length by omega), hla, hlb, b1]
    refine (rat_Mul_does k2 k3 (by have := hx.1; omega) (by omega) (by omega)).mono ?_
    rintro _ G2 ⟨k5, hx2⟩
    (try replace b0:=hx2.blk b0);(try replace b1:=hx2.blk b1);(try replace hx:=hx.trans hx2);(try replace k0:=k0.mono hx2);(try replace k1:=k1.mono hx2);(try replace k2:=k2.mono hx2);(try replace k3:=k3.mono hx2);(try replace k4:=k4.mono hx2);(try replace k5:=k5.mono hx2);(try replace k6:=k6.mono hx2);(try replace k7 := k7.mono hx2)
    have hsd := szR_dot hfa hfb i
    have hsd2 : i * (2 * S + 3) ≤ a.length * (2 * S + 3) := Nat.mul_le_mul_right _ (by omega)
    rw [Nat.add_mul, Nat.one_mul] at hS
    have hsm := szR_mul (valR a[i]) (valR b[i])
    have hs1 := szR_val fa.2.1 fa.2.2
    have hs2 := szR_val fb.2.1 fb.2.2
    simp
    refine (rat_Add_does k4 k5 hx.1 (by rw [lenR_canon]; omega) (by rw [lenR_canon]; omega)).mono ?_
    rintro _ G2 ⟨⟨s3, s4, rfl, k6, k7⟩, hx2⟩
    (try replace b0:=hx2.blk b0);(try replace b1:=hx2.blk b1);(try replace hx:=hx.trans hx2);(try replace k0:=k0.mono hx2);(try replace k1:=k1.mono hx2);(try replace k2:=k2.mono hx2);(try replace k3:=k3.mono hx2);(try replace k4:=k4.mono hx2);(try replace k5:=k5.mono hx2);(try replace k6:=k6.mono hx2);(try replace k7 := k7.mono hx2)
    rw [valR_canon, valR_canon] at k6 k7 ⊢
    have hd : dotR a b (i + 1) = dotR a b i + valR a[i] * valR b[i] := by
      rw [dotR, List.getD_eq_getElem?_getD, List.getD_eq_getElem?_getD, List.getElem?_eq_getElem hi, List.getElem?_eq_getElem (show i < b.length by omega)]; rfl
    rw [← hd] at k6 k7 ⊢
    have hz := blk_lt b1
    simp [g0, g1, g4, g5, g6, b1, k6.cells, k6.plain, k7.cells, k7.plain, hsz]
    generalize hS' : Array.setIfInBounds _ _ _ = G3
    have hS := hS'
    replace k6 := k6.setS hS b1 (by decide)
    replace k7 := k7.setS hS b1 (by decide)
    replace b0 := set_keep hS b0 (by omega)
    replace hx := set_ext hS hx (by omega)
    replace b1 := set_new hS b1
    exact Rnd.mk (by simp [gi]) (by simp [gn]) ⟨by simp [g0], by simp [g1], by simp [g4], by simp [g5], by simp [g6], hx, b0, s3, s4, b1, k6, k7⟩
  · clear h0 ρ k0 k1 b0 b1 hx hx2
    rintro ρ G gi gn ⟨g0, g1, g4, g5, g6, hx, b0, s1, s2, b1, k0, k1⟩
    have hz := blk_lt b0
    simp [r_52_9, g4, g6, b1, b0, k0.cells, k0.plain, k1.cells, k1.plain, hz]
    refine fun _ => ⟨s1, s2, ?_, ?_, ?_⟩
    · rw [← he]
    · rw [← he]; exact k0.setT b0 (by decide)
    · rw [← he]; exact k1.setT b0 (by decide)
end Go.Proofs.YtjlohmnnldbjoaaGreat.AI

/- dom: Le, Join, Meet, none. -/
namespace Go.Proofs.YtjlohmnnldbjoaaGreat.AI
open Go
set_option maxHeartbeats 4000000

variable {fl : Nat} {H G : Heap} {R : PostP} {v w : Value} {a b : List RawE}

theorem Owns.cast {α : Type} {P : Heap → List Value → α → Prop} {fl e sz : Nat} {v v' : Value} {l : List α} (h : v = v') (k : Owns P fl H e sz v' l) : Owns P fl H e sz v l := by rw [h]; exact k
def FewE (l : List RawE) : Prop := ∀ x ∈ l, lenR x.2 < 67108864

end Go.Proofs.YtjlohmnnldbjoaaGreat.AI

/- dom: Join, Meet, none, Right; templ.Right. -/
namespace Go.Proofs.YtjlohmnnldbjoaaGreat.AI
open Go
set_option maxHeartbeats 4000000

variable {fl : Nat} {H G : Heap} {R : PostP} {v w : Value} {a b : List RawE}

def anyB {α : Type} (p : α → Bool) (l : List α) : Bool := l.any p
def allB {α : Type} (p : α → Bool) (l : List α) : Bool := l.all p
section
variable {α : Type} {p : α → Bool} {l : List α} {i : Nat}
theorem anyB_nil : anyB p [] = false := rfl
theorem allB_nil : allB p [] = true := rfl
theorem anyB_succ (h : i < l.length) : anyB p (l.take (i + 1)) = (anyB p (l.take i) || p l[i]) := by
  unfold anyB; rw [List.take_succ_eq_append_getElem h, List.any_append]; simp
theorem allB_succ (h : i < l.length) : allB p (l.take (i + 1)) = (allB p (l.take i) && p l[i]) := by
  unfold allB; rw [List.take_succ_eq_append_getElem h, List.all_append]; simp
theorem anyB_yes (h : i < l.length) (hp : p l[i] = true) : anyB p l = true := List.any_eq_true.2 ⟨_, List.getElem_mem h, hp⟩
theorem allB_no (h : i < l.length) (hp : p l[i] = false) : allB p l = false := by
  unfold allB; rw [List.all_eq_false]; exact ⟨l[i], List.getElem_mem h, by simp [hp]⟩
end

theorem IndexFunc_does {p : RawE → Bool} {g : FuncId} (ha : ExtsV H v a) (hf : fl ≤ H.size) (hfa : FewE a) (hal : a.length < 1073741824)
    (hg : ∀ (fl : Nat) (G : Heap) (v : Value) (e : RawE), fl ≤ G.size → ExtV G v e → lenR e.2 < 67108864 → Does env fl g [v] G (fun r H' => r = .bool (p e) ∧ Ext G H') R) :
    Does env fl f_98 [v, .func (.func g) #[] #[]] H (fun r H' => (∃ z : Int, r = .int .i64 z ∧ (0 ≤ z ↔ anyB p a = true)) ∧ Ext H H') R := by
  refine does_ext e_98 hf (h := ?_)
  intro ρ h0
  simp [s_98, r_98_0, r_98_1, h0, ha.slen]
  refine W_for (n := a.length) (fun i ρ G => ρ 0 = v ∧ ρ 1 = .func (.func g) #[] #[] ∧ Ext H G ∧ anyB p (a.take i) = false)
    rfl rfl (by decide) (by omega) (by simp) (by simp) ?_ ?_ ?_ ?_
  · exact ⟨by simp [h0], by simp [h0], Ext.refl H, by rw [List.take_zero]; exact anyB_nil⟩
  · intro i ρ ρ' G h hI; simpa [h] using hI
  · clear h0 ρ
    rintro i ρ G hi gi gn ⟨g0, g1, hx, hc⟩
    have ka := ha.mono monoPE hx
    obtain ⟨w, hl, k0⟩ := ExtsV.load ka hi
    simp [r_98_3, r_98_4, gi, g0, g1, ka.ia hi, hl]
    refine (hg _ _ _ _ hx.1 k0 (hfa _ (List.getElem_mem hi))).mono ?_
    rintro _ G2 ⟨rfl, hx2⟩
    have hx' := hx.trans hx2
    cases hp : p a[i]
    · simp
      refine Rnd.mk (by simp [gi]) (by simp [gn]) ⟨by simp [g0], by simp [g1], hx', by rw [anyB_succ hi, hc, hp]; rfl⟩
    · simp [r_98_5, gi]
      exact fun _ => anyB_yes hi hp
  · clear h0 ρ
    rintro ρ G gi gn ⟨g0, g1, hx, hc⟩
    rw [List.take_length] at hc
    simp [r_98_7, hc]

theorem ContainsFunc_does {p : RawE → Bool} {g : FuncId} (ha : ExtsV H v a) (hf : fl ≤ H.size) (hfa : FewE a) (hal : a.length < 1073741824)
    (hg : ∀ (fl : Nat) (G : Heap) (v : Value) (e : RawE), fl ≤ G.size → ExtV G v e → lenR e.2 < 67108864 → Does env fl g [v] G (fun r H' => r = .bool (p e) ∧ Ext G H') R) :
    Does env fl f_61 [v, .func (.func g) #[] #[]] H (fun r H' => r = .bool (anyB p a) ∧ Ext H H') R := by
  refine does_ext e_61 hf (h := ?_)
  intro ρ h0
  simp [s_61, r_61_0, r_61_1, h0]
  refine (IndexFunc_does (p := p) ha (Nat.le_refl _) hfa hal hg).mono ?_
  rintro _ G2 ⟨⟨z, rfl, hz⟩, hx2⟩
  simp
  intro _
  rw [Bool.eq_iff_iff, decide_eq_true_eq]; exact hz

theorem dom_none_1_does {e : RawE} (h : ExtV H v e) (hf : fl ≤ H.size) : Does env fl f_84 [v] H (fun r H' => r = .bool (decide (e.1 < 0)) ∧ Ext H H') R := by
  obtain ⟨s, u, rfl, hs, hu⟩ := h
  refine does_ext e_84 hf (h := ?_)
  intro ρ h0
  simp [s_84, r_84_0, r_84_1, h0]
theorem dom_none_does (ha : ExtsV H v a) (hf : fl ≤ H.size) (hfa : FewE a) (hal : a.length < 1073741824) :
    Does env fl f_49 [v] H (fun r H' => r = .bool (anyB (fun e => decide (e.1 < 0)) a) ∧ Ext H H') R := by
  refine does_ext e_49 hf (h := ?_)
  intro ρ h0
  simp [s_49, r_49_0, r_49_1, h0]
  refine (ContainsFunc_does (p := fun e => decide (e.1 < 0)) ha (Nat.le_refl _) hfa hal (fun fl G v e hf h hn => dom_none_1_does h hf)).mono ?_
  rintro _ G2 ⟨rfl, hx2⟩
  simp

theorem dom_Right_1_does {e : RawE} (h : ExtV H v e) (hf : fl ≤ H.size) (hn : lenR e.2 < 67108864) : Does env fl f_62 [v] H (fun r H' => r = .bool (!mayE e) ∧ Ext H H') R := by
  have k0 := h
  obtain ⟨s, u, rfl, hs, hu⟩ := h
  refine does_ext e_62 hf (h := ?_)
  intro ρ h0
  simp [s_62, r_62_0, r_62_1, h0]
  generalize hG : Array.push H _ = G
  obtain ⟨hx2, b0⟩ := new0 hG
  have hx := Ext.refl H
  clear hG
  (try replace b0:=hx2.blk b0);(try replace hx:=hx.trans hx2);(try replace k0 := k0.mono hx2)
  try simp [b0]
  refine (ext_May_does k0 hx.1 hn).mono ?_
  rintro _ G2 ⟨rfl, hx2⟩
  simp

def TemplV (H : Heap) (v : Value) (rows : List (List RawR)) : Prop := ∃ s, v = .agg #[s] ∧ RowsV H s rows
def rowOk (n : Int) (r : List RawR) : Bool := decide ((r.length : Int) = n) && allB mayR r
def rightT (rows : List (List RawR)) (n : Int) : Bool := decide (0 ≤ n) && decide (n ≤ 6) && decide (rows.length ≤ 40) && allB (rowOk n) rows
theorem templ_Right_does {S : Nat} {rows : List (List RawR)} {n : Int} (h : TemplV H v rows) (hf : fl ≤ H.size) (hS : S < 67108864) (hr : ∀ r ∈ rows, Few S r ∧ r.length < 1073741824) (hrl : rows.length < 1073741824) :
    Does env fl f_60 [v, .int .i64 n] H (fun r H' => r = .bool (rightT rows n) ∧ Ext H H') R := by
  obtain ⟨s, rfl, hs⟩ := h
  refine does_ext e_60 hf (h := ?_)
  intro ρ h0
  simp [s_60, r_60_0, h0, hs.cells]
  generalize hG : Array.push H _ = G
  obtain ⟨hx2, b0⟩ := new0 hG
  have hx := Ext.refl H
  clear hG
  (try replace b0:=hx2.blk b0);(try replace b1:=hx2.blk b1);(try replace hx:=hx.trans hx2);(try replace k0:=k0.mono hx2);(try replace k1:=k1.mono hx2);(try replace k2 := k2.mono hx2)
  unfold rightT
  by_cases h1 : n < 0
  · have h1' : ¬ 0 ≤ n := by omega
    simp [r_60_1, r_60_2, h0, h1, h1']
  · have h1' : 0 ≤ n := by omega
    by_cases h2 : 6 < n
    · have h2' : ¬ n ≤ 6 := by omega
      simp [r_60_1, r_60_2, h0, h1, h1', h2, h2']
    · have h2' : n ≤ 6 := by omega
      by_cases h3 : 40 < rows.length
      · have h3' : ¬ rows.length ≤ 40 := by omega
        have h3'' : (40 : Int) < (rows.length : Int) := by omega
        simp [r_60_1, r_60_2, h0, b0, (hs.mono monoPS hx).slen, hs.slen, h1, h1', h2, h2', h3, h3', h3'']
      · have h3' : rows.length ≤ 40 := by omega
        have h3'' : ¬ (40 : Int) < (rows.length : Int) := by omega
        simp [r_60_1, r_60_3, h0, b0, hs.slen, h1, h1', h2, h2', h3, h3', h3'']
        refine W_for (n := rows.length) (fun i ρ G => ρ 1 = .int .i64 n ∧ ρ 22 = s ∧ Ext H G ∧ allB (rowOk n) (rows.take i) = true)
          rfl rfl (by decide) (by omega) (by simp) (by simp) ?_ ?_ ?_ ?_
        · exact ⟨by simp [h0], by simp, hx, by rw [List.take_zero]; exact allB_nil⟩
        · intro i ρ ρ' G h hI; simpa [h] using hI
        · clear h0 ρ hx b0 hx2
          rintro i ρ G hi gi gn ⟨g1, g22, hx, hc⟩
          have ks := hs.mono monoPS hx
          obtain ⟨w, hl, kw⟩ := RowsV.load ks hi
          obtain ⟨hfew, hrl2⟩ := hr _ (List.getElem_mem hi)
          by_cases hlen : (rows[i].length : Int) = n
          · simp [r_60_5, r_60_6, r_60_8, g1, g22, gi, ks.ia hi, hl, kw.slen, hlen]
            refine W_forE (n := rows[i].length) (fun j ρ G => ρ 1 = .int .i64 n ∧ ρ 22 = s ∧ ρ 24 = .int .i64 (i : Int) ∧ ρ 23 = .int .i64 (rows.length : Int) ∧ ρ 32 = w ∧ Ext H G ∧ RatsV G w rows[i] ∧ allB mayR (rows[i].take j) = true)
              rfl rfl (by decide) (by omega) (by simp) (by simp [hlen]) ?_ ?_ ?_ ?_
            · exact ⟨by simp [g1], by simp [g22], by simp [gi], by simp [gn], by simp, hx, kw, by rw [List.take_zero]; exact allB_nil⟩
            · intro i ρ ρ' G h hI; simpa [h] using hI
            · clear g1 g22 gi gn hx kw hl ks ρ G
              rintro j ρ G hj gj gm ⟨g1, g22, gi, gn, g32, hx, kw, hcj⟩
              obtain ⟨x, hlx, k0⟩ := RatsV.load kw hj
              obtain ⟨s1, s2, rfl, k1, k2⟩ := id k0
              have hf2 := hfew _ (List.getElem_mem hj)
              have hsz := hx.1
              simp [r_60_10, g1, g22, g32, gj, kw.ia hj, hlx, k1.cells, k1.plain, k2.cells, k2.plain, hsz]
              generalize hN : Array.setIfInBounds (Array.push _ _) _ _ = G3
              obtain ⟨hx2, b1⟩ := new1 hN
              clear hN
              (try replace b0:=hx2.blk b0);(try replace b1:=hx2.blk b1);(try replace hx:=hx.trans hx2);(try replace k0:=k0.mono hx2);(try replace k1:=k1.mono hx2);(try replace k2 := k2.mono hx2)
              replace kw := kw.mono monoPR hx2
              simp [r_60_11, b1]
              refine (rat_May_does k0 hx.1 (by omega)).mono ?_
              rintro _ G2 ⟨rfl, hx2⟩
              (try replace b0:=hx2.blk b0);(try replace b1:=hx2.blk b1);(try replace hx:=hx.trans hx2);(try replace k0:=k0.mono hx2);(try replace k1:=k1.mono hx2);(try replace k2 := k2.mono hx2)
              replace kw := kw.mono monoPR hx2
              cases hm : mayR rows[i][j]
              · simp [r_60_12]
                intros
                exact allB_no hi (by unfold rowOk; rw [allB_no hj hm]; simp)
              · simp
                exact Rnd.mk (by simp [gj]) (by simp [gm]) ⟨by simp [g1], by simp [g22], by simp [gi], by simp [gn], by simp [g32], hx, kw, by rw [allB_succ hj, hcj, hm]; rfl⟩
            · rintro ρ G gj gm ⟨g1, g22, gi, gn, g32, hx, kw, hcj⟩
              rw [List.take_length] at hcj
              simp
              exact Rnd.mk gi gn ⟨g1, g22, hx, by rw [allB_succ hi, hc]; unfold rowOk; simp [hlen, hcj]⟩
          · simp [r_60_5, r_60_6, r_60_7, g1, g22, gi, ks.ia hi, hl, kw.slen, hlen]
            intro _
            exact allB_no hi (by unfold rowOk; simp [hlen])
        · clear h0 ρ hx b0 hx2
          rintro ρ G gi gn ⟨g1, g22, hx, hc⟩
          rw [List.take_length] at hc
          simp [r_60_15, hc]

def valuesT (rows : List (List RawR)) (n : Int) (d : List RawE) : Bool := rightT rows n && decide (d.length = rows.length) && !anyB (fun e => !mayE e) d
theorem dom_Right_does {S : Nat} {rows : List (List RawR)} {n : Int} {d : List RawE} (h : TemplV H v rows) (hd : ExtsV H w d) (hf : fl ≤ H.size) (hS : S < 67108864) (hr : ∀ r ∈ rows, Few S r ∧ r.length < 1073741824) (hrl : rows.length < 1073741824) (hfd : FewE d) (hdl : d.length < 1073741824) :
    Does env fl f_27 [v, .int .i64 n, w] H (fun r H' => r = .bool (valuesT rows n d) ∧ Ext H H') R := by
  have kt := h
  obtain ⟨s, rfl, hs⟩ := h
  refine does_ext e_27 hf (h := ?_)
  intro ρ h0
  simp [s_27, r_27_0, h0, hs.cells]
  generalize hG : Array.push H _ = G
  obtain ⟨hx2, b0⟩ := new0 hG
  have hx := Ext.refl H
  clear hG
  (try replace b0:=hx2.blk b0);(try replace hx := hx.trans hx2)
  have kt2 : TemplV G (.agg #[s]) rows := ⟨s, rfl, hs.mono monoPS hx⟩
  unfold valuesT
  simp [r_27_1, h0, b0]
  refine (templ_Right_does (n := n) kt2 hx.1 hS hr hrl).mono ?_
  rintro _ G2 ⟨rfl, hx2⟩
  (try replace b0:=hx2.blk b0);(try replace hx := hx.trans hx2)
  cases h1 : rightT rows n
  · simp
  · by_cases h2 : d.length = rows.length
    · have h2' : (d.length : Int) = (rows.length : Int) := by omega
      simp [h0, b0, hd.slen, hs.slen, h2, h2']
      refine (ContainsFunc_does (p := fun e => !mayE e) (hd.mono monoPE hx) hx.1 hfd hdl (fun fl G v e hf h hn => dom_Right_1_does h hf hn)).mono ?_
      rintro _ G2 ⟨rfl, hx2⟩
      simp
    · have h2' : ¬ (d.length : Int) = (rows.length : Int) := by omega
      simp [h0, b0, hd.slen, hs.slen, h2, h2']
end Go.Proofs.YtjlohmnnldbjoaaGreat.AI

/- dom: Has, own. -/
namespace Go.Proofs.YtjlohmnnldbjoaaGreat.AI
open Go
set_option maxHeartbeats 4000000

variable {fl : Nat} {H G : Heap} {R : PostP} {v w u : Value}

theorem valE_canon0 (q : Rat) : valE (0, canonR q) = (0, q) := by
  unfold valE mayE; simp [mayR_canon, valR_canon]

def hasR (x : List RawR) (r : List RawR) (e : RawE) : Bool := decide (r.length = x.length) && !decide (0 < cmpE (0, dotR r x r.length) (valE e))
def hasT (rows : List (List RawR)) (d : List RawE) (x : List RawR) : Bool := decide (d.length = rows.length) && allB id (List.zipWith (hasR x) rows d)

theorem dom_Has_does {S : Nat} {rows : List (List RawR)} {d : List RawE} {x : List RawR} (h : TemplV H v rows) (hd : ExtsV H w d) (hxv : RatsV H u x) (hf : fl ≤ H.size)
    (hr : ∀ r ∈ rows, Few S r) (hfx : Few S x) (hS : (x.length + 1) * (2 * S + 3) + 1 < 67108864) (hrl : rows.length < 1073741824) (hfd : FewE d) :
    Does env fl f_21 [v, w, u] H (fun r H' => r = .bool (hasT rows d x) ∧ Ext H H') R := by
  obtain ⟨s, rfl, hs⟩ := h
  refine does_ext e_21 hf (h := ?_)
  intro ρ h0
  simp [s_21, r_21_0, h0, hs.cells]
  generalize hG : Array.push H _ = G
  obtain ⟨hx2, b0⟩ := new0 hG
  have hx := Ext.refl H
  clear hG
  (try replace b0:=hx2.blk b0);(try replace b1:=hx2.blk b1);(try replace hx:=hx.trans hx2);(try replace k0:=k0.mono hx2);(try replace k1:=k1.mono hx2);(try replace k2:=k2.mono hx2);(try replace k3:=k3.mono hx2);(try replace k4 := k4.mono hx2)
  unfold hasT
  by_cases hl : d.length = rows.length
  · have hl' : (d.length : Int) = (rows.length : Int) := by omega
    simp [r_21_1, r_21_3, h0, b0, hd.slen, hs.slen, hl, hl']
    refine W_for (n := rows.length) (fun i ρ G => ρ 1 = w ∧ ρ 2 = u ∧ ρ 18 = s ∧ Ext H G ∧ allB id ((List.zipWith (hasR x) rows d).take i) = true)
      rfl rfl (by decide) (by omega) (by simp) (by simp) ?_ ?_ ?_ ?_
    · exact ⟨by simp [h0], by simp [h0], by simp, hx, by rw [List.take_zero]; exact allB_nil⟩
    · intro i ρ ρ' G h hI; simpa [h] using hI
    · clear h0 ρ hx b0 hx2
      rintro i ρ G hi gi gn ⟨g1, g2, g18, hx, hc⟩
      have hid : i < d.length := by omega
      have ks := hs.mono monoPS hx
      have kd := hd.mono monoPE hx
      have kx := hxv.mono monoPR hx
      obtain ⟨wr, hlr, kr⟩ := RowsV.load ks hi
      have hz : (List.zipWith (hasR x) rows d).length = rows.length := by simp; omega
      have hzi : (List.zipWith (hasR x) rows d)[i]'(by omega) = hasR x rows[i] d[i] := by simp
      have hfr := hr _ (List.getElem_mem hi)
      by_cases hlen : rows[i].length = x.length
      · simp [r_21_5, r_21_6, g1, g2, g18, gi, ks.ia hi, hlr]
        refine (vec_Dot_does kr kx hx.1 hlen hfr hfx (by rw [hlen]; exact hS)).mono ?_
        rintro _ G2 ⟨⟨_, rfl, s1, s2, rfl, k0, k1⟩, hx2⟩
        (try replace b0:=hx2.blk b0);(try replace b1:=hx2.blk b1);(try replace hx:=hx.trans hx2);(try replace k0:=k0.mono hx2);(try replace k1:=k1.mono hx2);(try replace k2:=k2.mono hx2);(try replace k3:=k3.mono hx2);(try replace k4 := k4.mono hx2)
        replace kd := kd.mono monoPE hx2
        have hsz := hx.1
        simp [k0.cells, k0.plain, k1.cells, k1.plain, hsz]
        generalize hN : Array.setIfInBounds (Array.push _ _) _ _ = G3
        obtain ⟨hx2, b1⟩ := new1 hN
        clear hN
        (try replace b0:=hx2.blk b0);(try replace b1:=hx2.blk b1);(try replace hx:=hx.trans hx2);(try replace k0:=k0.mono hx2);(try replace k1:=k1.mono hx2);(try replace k2:=k2.mono hx2);(try replace k3:=k3.mono hx2);(try replace k4 := k4.mono hx2)
        replace kd := kd.mono monoPE hx2
        refine W_draw ?_
        have k2 : RatV G3 (.agg #[.bool (canonR (dotR rows[i] x rows[i].length)).1.1, s1, .bool (canonR (dotR rows[i] x rows[i].length)).2.1, s2]) (canonR (dotR rows[i] x rows[i].length)) := ⟨s1, s2, rfl, k0, k1⟩
        have hsd := szR_dot hfr hfx rows[i].length
        have hsd2 : rows[i].length * (2 * S + 3) ≤ (x.length + 1) * (2 * S + 3) := Nat.mul_le_mul_right _ (by omega)
        simp [r_21_7, b1]
        refine (ext_Of_does k2 (by have := hx.1; omega) (by rw [lenR_canon]; omega)).mono ?_
        rintro _ G2 ⟨k3, hx2⟩
        rw [valR_canon] at k3
        (try replace b0:=hx2.blk b0);(try replace b1:=hx2.blk b1);(try replace hx:=hx.trans hx2);(try replace k0:=k0.mono hx2);(try replace k1:=k1.mono hx2);(try replace k2:=k2.mono hx2);(try replace k3:=k3.mono hx2);(try replace k4 := k4.mono hx2)
        replace kd := kd.mono monoPE hx2
        obtain ⟨we, hle, k4⟩ := ExtsV.load kd hid
        simp [g1, kd.ia hid, hle]
        refine (ext_Cmp_does k3 k4 hx.1 (by show lenR (canonR _) < _; rw [lenR_canon]; omega) (hfd _ (List.getElem_mem hid))).mono ?_
        rintro _ G2 ⟨rfl, hx2⟩
        (try replace b0:=hx2.blk b0);(try replace b1:=hx2.blk b1);(try replace hx:=hx.trans hx2);(try replace k0:=k0.mono hx2);(try replace k1:=k1.mono hx2);(try replace k2:=k2.mono hx2);(try replace k3:=k3.mono hx2);(try replace k4 := k4.mono hx2)
        rw [valE_canon0]
        by_cases hc0 : 0 < cmpE (0, dotR rows[i] x rows[i].length) (valE d[i])
        · have hc0' : ¬ cmpE (0, dotR rows[i] x rows[i].length) (valE d[i]) ≤ 0 := by omega
          simp [hc0, hc0', r_21_8]
          intros
          exact allB_no (i := i) (by omega) (by rw [hzi]; unfold hasR; simp [hc0])
        · have hc0' : cmpE (0, dotR rows[i] x rows[i].length) (valE d[i]) ≤ 0 := by omega
          simp [hc0, hc0']
          exact Rnd.mk (by simp [gi]) (by simp [gn]) ⟨by simp [g1], by simp [g2], by simp [g18], hx, by rw [allB_succ (by omega), hc, hzi]; unfold hasR; simp [hlen]; rw [← hlen]; exact hc0'⟩
      · simp [r_21_5, r_21_6, g1, g2, g18, gi, ks.ia hi, hlr]
        refine (vec_Dot_ne kr kx hx.1 hlen).mono ?_
        rintro _ G2 ⟨⟨_, rfl, s1, s2, rfl, k0, k1⟩, hx2⟩
        (try replace b0:=hx2.blk b0);(try replace b1:=hx2.blk b1);(try replace hx:=hx.trans hx2);(try replace k0:=k0.mono hx2);(try replace k1:=k1.mono hx2);(try replace k2:=k2.mono hx2);(try replace k3:=k3.mono hx2);(try replace k4 := k4.mono hx2)
        have hsz := hx.1
        simp [k0.cells, k0.plain, k1.cells, k1.plain, hsz]
        refine W_draw ?_
        simp [r_21_7, r_21_8]
        intros
        exact allB_no (i := i) (by omega) (by rw [hzi]; unfold hasR; simp [hlen])
    · clear h0 ρ hx b0 hx2
      rintro ρ G gi gn ⟨g1, g2, g18, hx, hc⟩
      rw [List.take_of_length_le (by simp; omega)] at hc
      simp [r_21_10, hc]
  · have hl' : ¬ (d.length : Int) = (rows.length : Int) := by omega
    simp [r_21_1, r_21_2, h0, b0, hd.slen, hs.slen, hl, hl']

def ownL (l : List RawR) : List RawR := l.map fun x => canonR (valR x)
theorem take_map {α β : Type} {f : α → β} {l : List α} {i : Nat} (h : i < l.length) : (l.map f).take (i + 1) = (l.map f).take i ++ [f l[i]] := by
  rw [List.take_succ_eq_append_getElem (by simpa using h)]; simp
theorem dom_own_does {S : Nat} {l : List RawR} (hv : RatsV H v l) (hf : fl ≤ H.size) (hfw : Few S l) (hS : S < 67108864) (hl : l.length < 1073741824) :
    Does env fl f_50 [v] H (fun r H' => Owns PR H.size H' T_api_Rat 4 r (ownL l) ∧ Ext H H') R := by
  refine does_ext e_50 hf (h := ?_)
  intro ρ h0
  simp [s_50, r_50_0, r_50_1, r_50_2, h0, hv.slen]
  refine W_for (n := l.length) (fun i ρ G => ρ 6 = v ∧ Ext H G ∧ Owns PR H.size G T_api_Rat 4 (ρ 3) ((ownL l).take i))
    rfl rfl (by decide) (by omega) (by simp) (by simp) ?_ ?_ ?_ ?_
  · exact ⟨by simp [h0], Ext.refl H, by simpa using Owns.nil⟩
  · intro i ρ ρ' G h hI; simpa [h] using hI
  · clear h0 ρ
    rintro i ρ G hi gi gn ⟨g6, hx, ho⟩
    obtain ⟨s, g3⟩ : ∃ s, ρ 3 = s := ⟨_, rfl⟩
    rw [g3] at ho
    have kv := hv.mono monoPR hx
    obtain ⟨x, hlx, k0⟩ := RatsV.load kv hi
    obtain ⟨s1, s2, rfl, k1, k2⟩ := id k0
    have hf2 := hfw _ (List.getElem_mem hi)
    have hsz := hx.1
    simp [r_50_4, g6, gi, kv.ia hi, hlx, k1.cells, k1.plain, k2.cells, k2.plain, hsz]
    generalize hN : Array.setIfInBounds (Array.push _ _) _ _ = G3
    obtain ⟨hx2, b1⟩ := new1 hN
    clear hN
    (try replace b1:=hx2.blk b1);(try replace hx:=hx.trans hx2);(try replace k0:=k0.mono hx2);(try replace k1:=k1.mono hx2);(try replace k2:=k2.mono hx2);(try replace k3:=k3.mono hx2);(try replace k4 := k4.mono hx2)
    replace ho := ho.mono monoPR hx2
    simp [r_50_5, b1]
    refine (rat_Add_does k0 (b := rawZ) ratv_rawZ hx.1 (by omega) (by decide)).mono ?_
    rintro _ G2 ⟨⟨s3, s4, rfl, k3, k4⟩, hx2⟩
    (try replace b1:=hx2.blk b1);(try replace hx:=hx.trans hx2);(try replace k0:=k0.mono hx2);(try replace k1:=k1.mono hx2);(try replace k2:=k2.mono hx2);(try replace k3:=k3.mono hx2);(try replace k4 := k4.mono hx2)
    replace ho := ho.mono monoPR hx2
    rw [valR_rawZ, Rat.add_zero] at k3 k4 ⊢
    obtain ⟨s', G4, h1, h2, h3, h4⟩ := Owns.app (P := PR) (sz := 4) (e := T_api_Rat) (by decide) (fun G' cs x _ hl h => RatV.lx h hl) ho (e2 := T_api_Rat) (c := 1) (bytes := 64) (new := [.bool (canonR (valR l[i])).1.1, s3, .bool (canonR (valR l[i])).2.1, s4]) (x := canonR (valR l[i])) ⟨s3, s4, rfl, k3, k4⟩ rfl (by simp [k3.plain, k4.plain]) (by simp; omega) (by omega) (by omega) hx.1
    simp [g3, k3.cells, k4.cells, h1]
    exact Rnd.mk (by simp [gi]) (by simp [gn]) ⟨by simp [g6], h4 _ (Nat.le_refl _) hx, Owns.cast (v' := s') (by simp) (by unfold ownL; rw [take_map hi]; exact h2)⟩
  · clear h0 ρ
    rintro ρ G gi gn ⟨g6, hx, ho⟩
    obtain ⟨s, g3⟩ : ∃ s, ρ 3 = s := ⟨_, rfl⟩
    rw [g3] at ho
    rw [List.take_of_length_le (by simp [ownL])] at ho
    simp [r_50_7, g3]
    exact fun _ => ho
end Go.Proofs.YtjlohmnnldbjoaaGreat.AI

/- dom.Problem. -/
namespace Go.Proofs.YtjlohmnnldbjoaaGreat.AI
open Go
set_option maxHeartbeats 4000000

variable {fl : Nat} {H G : Heap} {R : PostP} {v w u : Value}

theorem app_fresh {fl e sz bytes n c : Nat} {H H' : Heap} {s v' : Value} {xb : Option Addr} (hn : n ≠ 0) (h : appA fl H e sz bytes s (.slice xb n c) = some (v', H')) : ∃ m k, v' = .slice (some ⟨H.size, 0, none⟩) m k := by
  unfold appA at h
  split at h
  · rename_i base len cap xb' n' c' heq
    cases heq
    rw [if_neg hn] at h
    split at h
    · split at h
      · cases h
      · split at h
        · cases h
        · split at h
          · cases h
          · split at h
            · split at h
              · cases h; exact ⟨_, _, rfl⟩
              · cases h
            · split at h
              · cases h; exact ⟨_, _, rfl⟩
              split at h
              · cases h
              · split at h
                · cases h; exact ⟨_, _, rfl⟩
                · split at h
                  · split at h
                    · cases h; exact ⟨_, _, rfl⟩
                    · cases h
                  · cases h
    · cases h
  · cases h

def LxT (e : Nat) (H G : Heap) : Prop := ∀ b ro cs, H.blk b = .row ro e cs → G.blk b = .row ro e cs
theorem Owns.lxT {α : Type} {P : Heap → List Value → α → Prop} {fl e sz e' : Nat} {v : Value} {l : List α} (h : Owns P fl G e sz v l) (he : e ≠ e') {G' : Heap} (hx : ExtB (slB v) G G') : LxT e' G G' := by
  intro b ro cs hb
  obtain ⟨cs', ⟨hl, ⟨rfl, _⟩ | ⟨p, cap, rfl, hp, _⟩⟩, _⟩ := h
  · rw [hx.2 b (blk_lt hb) (by simp [slB])]; exact hb
  · rw [hx.2 b (blk_lt hb) (by simp [slB]; rintro rfl; rw [hp] at hb; cases hb; exact he rfl)]; exact hb
theorem RatsV.lx2 {l : List RawR} (h : RatsV H v l) (h1 : LxT T_api_Rat H G) (h2 : Lx H G) : RatsV G v l := by
  obtain ⟨cs, ⟨hl, hs⟩, hp⟩ := h
  refine ⟨cs, ⟨hl, ?_⟩, fun k hk => RatV.lx (hp k hk) h2⟩
  rcases hs with hs | ⟨b, off, cap, ro, cells, rfl, hb, ho, hcs⟩
  · exact .inl hs
  · exact .inr ⟨b, off, cap, ro, cells, rfl, h1 _ _ _ hb, ho, hcs⟩
theorem RatsV.off {l : List RawR} {o : Option Nat} (h : RatsV H v l) (hx : ExtB o H G) (hne : slB v = none ∨ slB v ≠ o) (h2 : Lx H G) : RatsV G v l := by
  obtain ⟨cs, ⟨hl, hs⟩, hp⟩ := h
  refine ⟨cs, ⟨hl, ?_⟩, fun k hk => RatV.lx (hp k hk) h2⟩
  rcases hs with hs | ⟨b, off, cap, ro, cells, rfl, hb, ho, hcs⟩
  · exact .inl hs
  · refine .inr ⟨b, off, cap, ro, cells, rfl, ?_, ho, hcs⟩
    rw [hx.2 b (blk_lt hb) (by rcases hne with h | h; simp [slB] at h; exact fun h3 => h h3.symm)]; exact hb
theorem RatsV.lt {l : List RawR} (h : RatsV H v l) {b : Nat} (hb : slB v = some b) : b < H.size := by
  obtain ⟨cs, ⟨hl, ⟨rfl, _⟩ | ⟨b', off, cap, ro, cells, rfl, hb', ho, hcs⟩⟩, hp⟩ := h
  · simp [slB] at hb
  · simp [slB] at hb; subst hb; exact blk_lt hb'

def PSo (o : Option Nat) (H : Heap) (cs : List Value) (l : List RawR) : Prop := ∃ v, cs = [v] ∧ RatsV H v l ∧ (slB v = none ∨ slB v ≠ o)
theorem monoPSo {o : Option Nat} : MonoP (PSo o) := fun _ _ _ _ hx ⟨v, h1, h2, h3⟩ => ⟨v, h1, h2.mono monoPR hx, h3⟩

structure LPt where
  n : Int
  A : List (List RawR)
  B : List RawR
  C : List RawR
def LPV (H : Heap) (v : Value) (p : LPt) : Prop := ∃ sA sB sC, v = .agg #[.int .i64 p.n, sA, sB, sC] ∧ RowsV H sA p.A ∧ RatsV H sB p.B ∧ RatsV H sC p.C

def probA : List (List RawR) → List RawE → List (List RawR)
  | r :: rs, e :: es => if e.1 = 0 then ownL r :: probA rs es else probA rs es
  | _, _ => []
def probB : List (List RawR) → List RawE → List RawR
  | _ :: rs, e :: es => if e.1 = 0 then canonR (valR e.2) :: probB rs es else probB rs es
  | _, _ => []
theorem probA_succ : ∀ {rows : List (List RawR)} {d : List RawE} {i : Nat} (h1 : i < rows.length) (h2 : i < d.length), probA (rows.take (i + 1)) (d.take (i + 1)) = probA (rows.take i) (d.take i) ++ if d[i].1 = 0 then [ownL rows[i]] else []
  | [], _, _, h, _ => by simp at h
  | _ :: _, [], _, _, h => by simp at h
  | r :: rs, e :: es, 0, _, _ => by simp [probA]
  | r :: rs, e :: es, i + 1, h1, h2 => by
    have := probA_succ (rows := rs) (d := es) (i := i) (by simpa using h1) (by simpa using h2)
    simp only [List.take_succ_cons, probA, this, List.getElem_cons_succ]
    split <;> simp
theorem probB_succ : ∀ {rows : List (List RawR)} {d : List RawE} {i : Nat} (_ : i < rows.length) (h2 : i < d.length), probB (rows.take (i + 1)) (d.take (i + 1)) = probB (rows.take i) (d.take i) ++ if d[i].1 = 0 then [canonR (valR d[i].2)] else []
  | [], _, _, h, _ => by simp at h
  | _ :: _, [], _, _, h => by simp at h
  | r :: rs, e :: es, 0, _, _ => by simp [probB]
  | r :: rs, e :: es, i + 1, h1, h2 => by
    have := probB_succ (rows := rs) (d := es) (i := i) (by simpa using h1) (by simpa using h2)
    simp only [List.take_succ_cons, probB, this, List.getElem_cons_succ]
    split <;> simp

theorem repl_rat (H : Heap) : ∀ n : Nat, (repl [.bool false, .slice none 0 0, .bool false, .slice none 0 0] n).length = n * 4 ∧ ∀ k, k < n → PR H (((repl [.bool false, .slice none 0 0, .bool false, .slice none 0 0] n).drop (k * 4)).take 4) rawZ
  | 0 => ⟨rfl, fun k hk => by omega⟩
  | n + 1 => by
    obtain ⟨h1, h2⟩ := repl_rat H n
    refine ⟨by rw [repl, List.length_append, h1]; simp; omega, fun k hk => ?_⟩
    cases k with
    | zero => exact ratv_rawZ
    | succ k =>
      have := h2 k (by omega)
      rw [repl, show (k + 1) * 4 = 4 + k * 4 by omega, ← List.drop_drop]
      exact this

theorem Owns.ne {α : Type} {Q : Heap → List Value → α → Prop} {fl e sz e' p : Nat} {v : Value} {l : List α} {cs : List Value} {ro : Bool} (h : Owns Q fl G e sz v l) (hb : Heap.blk G p = .row ro e' cs) (he : e ≠ e') : slB v ≠ some p := by
  obtain ⟨cs', ⟨hl, ⟨rfl, _⟩ | ⟨b, cap, rfl, hp, _⟩⟩, _⟩ := h
  · simp [slB]
  · simp [slB]; rintro rfl; rw [hp] at hb; cases hb; exact he rfl
theorem Owns.ge {α : Type} {Q : Heap → List Value → α → Prop} {fl e sz : Nat} {v : Value} {l : List α} (h : Owns Q fl G e sz v l) {b : Nat} (hb : slB v = some b) : fl ≤ b ∧ b < G.size := by
  obtain ⟨cs', ⟨hl, ⟨rfl, _⟩ | ⟨b', cap, rfl, hp, hf⟩⟩, _⟩ := h
  · simp [slB] at hb
  · simp [slB] at hb; subst hb; exact ⟨hf, blk_lt hp⟩
theorem Owns.cells {α : Type} {Q : Heap → List Value → α → Prop} {fl e sz : Nat} {v : Value} {l : List α} (h : Owns Q fl G e sz v l) : cellsL v = [v] ∧ plainCell v = true := ⟨h.sls.cells, h.sls.plain⟩
theorem Owns.low {α : Type} {Q : Heap → List Value → α → Prop} {fl fl' e sz : Nat} {v : Value} {l : List α} (h : Owns Q fl G e sz v l) (hl : fl' ≤ fl) : Owns Q fl' G e sz v l := by
  obtain ⟨cs', ⟨hl', h1 | ⟨b', cap, rfl, hp, hf⟩⟩, h2⟩ := h
  · exact ⟨cs', ⟨hl', .inl h1⟩, h2⟩
  · exact ⟨cs', ⟨hl', .inr ⟨b', cap, rfl, hp, by omega⟩⟩, h2⟩
theorem Owns.off {α : Type} {Q : Heap → List Value → α → Prop} {fl e sz : Nat} {v : Value} {l : List α} {o : Option Nat} {G' : Heap} (h : Owns Q fl G e sz v l) (hx : ExtB o G G') (hne : slB v = none ∨ slB v ≠ o) (hQ : ∀ cs x, Q G cs x → Q G' cs x) : Owns Q fl G' e sz v l := by
  obtain ⟨cs', ⟨hl', h1 | ⟨b', cap, rfl, hp, hf⟩⟩, h2⟩ := h
  · exact ⟨cs', ⟨hl', .inl h1⟩, fun k hk => hQ _ _ (h2 k hk)⟩
  · refine ⟨cs', ⟨hl', .inr ⟨b', cap, rfl, ?_, hf⟩⟩, fun k hk => hQ _ _ (h2 k hk)⟩
    rw [hx.2 b' (blk_lt hp) (by rcases hne with h | h; simp [slB] at h; exact fun h3 => h h3.symm)]; exact hp
theorem Owns.lxm {α : Type} {Q : Heap → List Value → α → Prop} {fl e sz : Nat} {v : Value} {l : List α} {G' : Heap} {Q' : Heap → List Value → α → Prop} (h : Owns Q fl G e sz v l) (hx : LxT e G G') (hQ : ∀ cs x, Q G cs x → Q' G' cs x) : Owns Q' fl G' e sz v l := by
  obtain ⟨cs', ⟨hl', h1 | ⟨b', cap, rfl, hp, hf⟩⟩, h2⟩ := h
  · exact ⟨cs', ⟨hl', .inl h1⟩, fun k hk => hQ _ _ (h2 k hk)⟩
  · exact ⟨cs', ⟨hl', .inr ⟨b', cap, rfl, hx _ _ _ hp, hf⟩⟩, fun k hk => hQ _ _ (h2 k hk)⟩
theorem Owns.blkOf {α : Type} {Q : Heap → List Value → α → Prop} {fl e sz : Nat} {v : Value} {l : List α} (h : Owns Q fl G e sz v l) : AI.blkW v = [] ∨ ∃ b, AI.blkW v = [b] ∧ slB v = some b := by
  obtain ⟨cs', ⟨hl', ⟨rfl, _⟩ | ⟨b', cap, rfl, hp, hf⟩⟩, h2⟩ := h
  · exact .inl rfl
  · by_cases h00 : l.length = 0 ∧ cap = 0
    · exact .inl (by simp only [AI.blkW]; rw [if_pos h00])
    · exact .inr ⟨b', by simp only [AI.blkW]; rw [if_neg h00], rfl⟩
theorem set_lxT {G3 : Heap} {q e e' : Nat} {X : Blk} {cs : List Value} {ro : Bool} (hS : Array.setIfInBounds G q X = G3) (hb : Heap.blk G q = .row ro e' cs) (hne : e' ≠ e) : LxT e G G3 := by
  intro b ro' cs' hb'
  rw [← hS, blk_set_ne (by rintro rfl; rw [hb] at hb'; cases hb'; exact hne rfl)]; exact hb'
theorem RowsV.lx3 {l : List (List RawR)} (h : RowsV H v l) (h0 : LxT T_sl_api_Rat H G) (h1 : LxT T_api_Rat H G) (h2 : Lx H G) : RowsV G v l := by
  obtain ⟨cs, ⟨hl, hs⟩, hp⟩ := h
  refine ⟨cs, ⟨hl, ?_⟩, fun k hk => ?_⟩
  · rcases hs with hs | ⟨b, off, cap, ro, cells, rfl, hb, ho, hcs⟩
    · exact .inl hs
    · exact .inr ⟨b, off, cap, ro, cells, rfl, h0 _ _ _ hb, ho, hcs⟩
  · obtain ⟨w, q1, q2⟩ := hp k hk; exact ⟨w, q1, q2.lx2 h1 h2⟩
theorem probA_len : ∀ (rows : List (List RawR)) (d : List RawE), (probA rows d).length ≤ d.length
  | [], _ => by simp [probA]
  | _ :: _, [] => by simp [probA]
  | r :: rs, e :: es => by have := probA_len rs es; simp only [probA]; split <;> simp <;> omega
theorem probB_len : ∀ (rows : List (List RawR)) (d : List RawE), (probB rows d).length ≤ d.length
  | [], _ => by simp [probB]
  | _ :: _, [] => by simp [probB]
  | r :: rs, e :: es => by have := probB_len rs es; simp only [probB]; split <;> simp <;> omega
theorem Owns.imp {α : Type} {Q Q' : Heap → List Value → α → Prop} {fl e sz : Nat} {v : Value} {l : List α} (h : Owns Q fl G e sz v l) (hQ : ∀ cs x, Q G cs x → Q' G cs x) : Owns Q' fl G e sz v l := by
  obtain ⟨cs', h1, h2⟩ := h; exact ⟨cs', h1, fun k hk => hQ _ _ (h2 k hk)⟩

def ProbInv (H : Heap) (P m : Nat) (s w sC : Value) (rows : List (List RawR)) (d : List RawE) (i : Nat) (ρ : Nat → Value) (G : Heap) : Prop :=
  ρ 3 = .pointer (some ⟨H.size, 0, none⟩) ∧ ρ 6 = .pointer (some ⟨H.size + 1, 0, none⟩) ∧ ρ 8 = .pointer (some ⟨P, 0, none⟩) ∧ ρ 26 = w ∧ Ext H G ∧
    Heap.blk G H.size = .row false T_api_Template [s] ∧ Heap.blk G (H.size + 1) = .row false T_api_LP [.int .i64 0, .slice none 0 0, .slice none 0 0, .slice none 0 0] ∧
    ∃ sA sB, Heap.blk G P = .row false T_api_LP [.int .i64 (m : Int), sA, sB, sC] ∧ Owns (PSo (slB sB)) H.size G T_sl_api_Rat 1 sA (probA (rows.take i) (d.take i)) ∧
      Owns PR H.size G T_api_Rat 4 sB (probB (rows.take i) (d.take i)) ∧ RatsV G sC (List.replicate m (canonR 0)) ∧ (slB sC = none ∨ slB sC ≠ slB sB)

theorem dom_Problem_does {S : Nat} {rows : List (List RawR)} {n : Int} {d : List RawE} (h : TemplV H v rows) (hd : ExtsV H w d) (hf : fl ≤ H.size) (hS : S < 67108864) (hr : ∀ r ∈ rows, Few S r ∧ r.length < 1073741824) (hrl : rows.length < 1073741824) (hfd : FewE d) (hdl : d.length < 1073741824) :
    Does env fl f_20 [v, .int .i64 n, w] H (fun r H' => (if valuesT rows n d = true ∧ anyB (fun e => decide (e.1 < 0)) d = false then ∃ p, r = .tuple #[p, .bool true] ∧ LPV H' p ⟨n, probA rows d, probB rows d, List.replicate n.toNat (canonR 0)⟩ else ∃ p, r = .tuple #[p, .bool false] ∧ LPV H' p ⟨0, [], [], []⟩) ∧ Ext H H') R := by
  obtain ⟨s, rfl, hs⟩ := h
  refine does_ext e_20 hf (h := ?_)
  intro ρ h0
  simp [s_20, r_20_0, h0, hs.cells]
  generalize hG : Array.push (Array.push H _) _ = G
  have hx : Ext H G := by rw [← hG]; exact (Ext.refl H).push.push
  have b0 : Heap.blk G H.size = .row false T_api_Template [s] := by rw [← hG]; simp
  have b1 : Heap.blk G (H.size + 1) = .row false T_api_LP [.int .i64 0, .slice none 0 0, .slice none 0 0, .slice none 0 0] := by rw [← hG]; simp
  clear hG
  have kt : TemplV G (.agg #[s]) rows := ⟨s, rfl, hs.mono monoPS hx⟩
  simp [r_20_1, h0, b0]
  refine (dom_Right_does kt (hd.mono monoPE hx) hx.1 hS hr hrl hfd hdl).mono ?_
  rintro _ G2 ⟨rfl, hx2⟩
  (try replace b0:=hx2.blk b0);(try replace b1:=hx2.blk b1);(try replace b2:=hx2.blk b2);(try replace b3:=hx2.blk b3);(try replace b4:=hx2.blk b4);(try replace hx:=hx.trans hx2);(try replace k0:=k0.mono hx2);(try replace k1:=k1.mono hx2);(try replace k2:=k2.mono hx2);(try replace k3:=k3.mono hx2);(try replace k4 := k4.mono hx2)
  cases hv : valuesT rows n d
  · have hz := blk_lt b1
    simp [r_20_2, h0, b1, hz]
    exact fun _ => ⟨_, _, _, rfl, Sls.nil, Sls.nil, Sls.nil⟩
  simp [h0]
  refine (dom_none_does (hd.mono monoPE hx) hx.1 hfd hdl).mono ?_
  rintro _ G2 ⟨rfl, hx2⟩
  (try replace b0:=hx2.blk b0);(try replace b1:=hx2.blk b1);(try replace b2:=hx2.blk b2);(try replace b3:=hx2.blk b3);(try replace b4:=hx2.blk b4);(try replace hx:=hx.trans hx2);(try replace k0:=k0.mono hx2);(try replace k1:=k1.mono hx2);(try replace k2:=k2.mono hx2);(try replace k3:=k3.mono hx2);(try replace k4 := k4.mono hx2)
  cases hno : anyB (fun e : RawE => decide (e.1 < 0)) d
  case true =>
    have hz := blk_lt b1
    simp [r_20_2, h0, b1, hz]
    exact fun _ => ⟨_, _, _, rfl, Sls.nil, Sls.nil, Sls.nil⟩
  have hvv := hv
  unfold valuesT rightT at hvv
  simp at hvv
  obtain ⟨⟨⟨⟨⟨hn0, hn6⟩, _⟩, _⟩, hdr⟩, _⟩ := hvv
  obtain ⟨m, rfl⟩ : ∃ m : Nat, n = m := ⟨n.toNat, by omega⟩
  have hmk := mkV_int (bytes := 64) (k := .i64) (k' := .i64) (l := m) (c := m) (Nat.le_refl _) (by omega) (by omega)
  simp [r_20_3, h0, hmk]
  generalize hN : Array.push G2 _ = G3
  obtain ⟨hx2, b2⟩ := new0 hN
  clear hN
  (try replace b0:=hx2.blk b0);(try replace b1:=hx2.blk b1);(try replace b2:=hx2.blk b2);(try replace b3:=hx2.blk b3);(try replace b4:=hx2.blk b4);(try replace hx:=hx.trans hx2);(try replace k0:=k0.mono hx2);(try replace k1:=k1.mono hx2);(try replace k2:=k2.mono hx2);(try replace k3:=k3.mono hx2);(try replace k4 := k4.mono hx2)
  obtain ⟨hrl1, hrl2⟩ := repl_rat G3 m
  have kz : RatsV G3 (.slice (some ⟨G2.size, 0, none⟩) m m) (List.replicate m rawZ) := by
    refine ⟨_, (Own.mk (fl := 0) (cap := m) b2 hrl1 (Nat.zero_le _)).sl |> (fun h => by simpa using h), fun k hk => ?_⟩
    rw [List.getElem_replicate]; exact hrl2 k (by simpa using hk)
  refine (dom_own_does (S := 0) kz hx.1 (fun x hx => by rw [List.mem_replicate] at hx; rw [hx.2]; exact ⟨Nat.le_refl _, by intro y hy; simp [rawZ] at hy, by intro y hy; simp [rawZ] at hy⟩) (by omega) (by simp; omega)).mono ?_
  rintro sC G4 ⟨hC, hx2⟩
  (try replace b0:=hx2.blk b0);(try replace b1:=hx2.blk b1);(try replace b2:=hx2.blk b2);(try replace b3:=hx2.blk b3);(try replace b4:=hx2.blk b4);(try replace hx:=hx.trans hx2);(try replace k0:=k0.mono hx2);(try replace k1:=k1.mono hx2);(try replace k2:=k2.mono hx2);(try replace k3:=k3.mono hx2);(try replace k4 := k4.mono hx2)
  have hown : ownL (List.replicate m rawZ) = List.replicate m (canonR 0) := by unfold ownL; simp [valR_rawZ]
  rw [hown] at hC
  have kC := hC.sls
  have hsz := hx.1
  have hb1l := blk_lt b1
  simp [h0, kC.cells, kC.plain, hsz]
  generalize hN : Array.setIfInBounds (Array.push _ _) _ _ = G5
  obtain ⟨hx2, b3⟩ := new1 hN
  clear hN
  (try replace b0:=hx2.blk b0);(try replace b1:=hx2.blk b1);(try replace b2:=hx2.blk b2);(try replace b3:=hx2.blk b3);(try replace b4:=hx2.blk b4);(try replace hx:=hx.trans hx2);(try replace k0:=k0.mono hx2);(try replace k1:=k1.mono hx2);(try replace k2:=k2.mono hx2);(try replace k3:=k3.mono hx2);(try replace k4 := k4.mono hx2)
  replace kC := kC.mono monoPR hx2
  obtain ⟨P, hP⟩ : ∃ P, P = G4.size := ⟨_, rfl⟩
  rw [← hP] at b3 hsz ⊢
  have hPH := hsz
  have hPne : P ≠ H.size + 1 := by omega
  simp [r_20_4, h0, hd.slen]
  refine W_for (n := d.length) (ProbInv H P m s w sC rows d) rfl rfl (by decide) (by omega) (by simp) (by simp) ?_ ?_ ?_ ?_
  · exact ⟨by simp, by simp, by simp, by simp [h0], hx, b0, b1, _, _, b3, by simpa [probA] using Owns.nil, by simpa [probB] using Owns.nil, kC, by
      cases hsc : slB sC with
      | none => exact .inl rfl
      | some b => right; simp [slB]⟩
  · intro i ρ ρ' G h hI; simpa [ProbInv, h] using hI
  · clear h0 ρ hx b0 b1 b3 kC hC hx2
    rintro i ρ G hi gi gn ⟨g3, g6, g8, g26, hx, b0, b1, sA, sB, b3, hA, hB, kC, hCB⟩
    have hir : i < rows.length := by omega
    have kd := hd.mono monoPE hx
    have ks := hs.mono monoPS hx
    obtain ⟨we, hle, k0⟩ := ExtsV.load kd hi
    obtain ⟨s1, s2, rfl, k1, k2⟩ := id k0
    have hsz := hx.1
    simp [r_20_6, g26, gi, kd.ia hi, hle, k1.cells, k1.plain, k2.cells, k2.plain, hsz]
    generalize hN : Array.setIfInBounds (Array.push _ _) _ _ = G3
    obtain ⟨hx2, b4⟩ := new1 hN
    clear hN
    (try replace b0:=hx2.blk b0);(try replace b1:=hx2.blk b1);(try replace b2:=hx2.blk b2);(try replace b3:=hx2.blk b3);(try replace b4:=hx2.blk b4);(try replace hx:=hx.trans hx2);(try replace k0:=k0.mono hx2);(try replace k1:=k1.mono hx2);(try replace k2:=k2.mono hx2);(try replace k3:=k3.mono hx2);(try replace k4 := k4.mono hx2)
    replace ks := ks.mono monoPS hx2
    replace hA := hA.mono monoPSo hx2
    replace hB := hB.mono monoPR hx2
    replace kC := kC.mono monoPR hx2
    obtain ⟨P2, hP2⟩ : ∃ P2, P2 = G.size := ⟨_, rfl⟩
    rw [← hP2] at b4 hsz ⊢
    by_cases he : d[i].1 = 0
    · simp [r_20_7, b4, he]
      refine W_drawL ?_
      obtain ⟨wr, hlr, kr⟩ := RowsV.load ks hir
      simp [r_20_8, g3, g8, b3, b0, ks.ia hir, hlr]
      have hBlt : ∀ b, slB sB = some b → b < G3.size := fun b h => (hB.ge h).2
      have hlA := probA_len (rows.take i) (d.take i)
      have hlB := probB_len (rows.take i) (d.take i)
      simp only [List.length_take] at hlA hlB
      refine (dom_own_does kr (by have := hx.1; omega) (hr _ (List.getElem_mem hir)).1 hS (hr _ (List.getElem_mem hir)).2).mono ?_
      rintro r G2 ⟨kw, hx2⟩
      (try replace b0:=hx2.blk b0);(try replace b1:=hx2.blk b1);(try replace b2:=hx2.blk b2);(try replace b3:=hx2.blk b3);(try replace b4:=hx2.blk b4);(try replace hx:=hx.trans hx2);(try replace k0:=k0.mono hx2);(try replace k1:=k1.mono hx2);(try replace k2:=k2.mono hx2);(try replace k3:=k3.mono hx2);(try replace k4 := k4.mono hx2)
      replace ks := ks.mono monoPS hx2
      replace hA := hA.mono monoPSo hx2
      replace hB := hB.mono monoPR hx2
      replace kC := kC.mono monoPR hx2
      have hrB : slB r = none ∨ slB r ≠ slB sB := by
        cases hr1 : slB r with
        | none => exact .inl rfl
        | some b =>
          right; intro h
          have := (kw.ge hr1).1
          have := hBlt b h.symm
          omega
      obtain ⟨cr, pr⟩ := kw.cells
      obtain ⟨sA', G5, h1, h2, h3, h4⟩ := Owns.app (P := PSo (slB sB)) (sz := 1) (e := T_sl_api_Rat) (by decide)
        (fun G' cs x hxb hl ⟨w', q1, q2, q3⟩ => ⟨w', q1, q2.lx2 (hA.lxT (by decide) hxb) hl, q3⟩) hA (e2 := T_sl_api_Rat) (c := 1) (bytes := 24) (new := [r]) (x := ownL rows[i]) ⟨r, rfl, kw.sls, hrB⟩ rfl (by simp [pr]) (by omega) (by omega) (by omega) hx.1
      obtain ⟨_, _, hAe⟩ := app_fresh (by decide) h1
      have hlx := hA.lx (by decide) h3
      have hlr := hA.lxT (e' := T_api_Rat) (by decide) h3
      have nA0 := hA.ne b0 (by decide)
      have nA1 := hA.ne b1 (by decide)
      have nA3 := hA.ne b3 (by decide)
      have nA4 := hA.ne b4 (by decide)
      have hAo := hA.blkOf
      replace b0 := (h3.2 _ (blk_lt b0) nA0).trans b0
      replace b1 := (h3.2 _ (blk_lt b1) nA1).trans b1
      replace b3 := (h3.2 _ (blk_lt b3) nA3).trans b3
      replace b4 := (h3.2 _ (blk_lt b4) nA4).trans b4
      replace hx := h4 _ (Nat.le_refl _) hx
      replace k1 := k1.lx hlx
      replace k2 := k2.lx hlx
      replace kC := RatsV.lx2 kC hlr hlx
      replace hB := hB.lxm (Q' := PR) hlr (fun cs x h => RatV.lx h hlx)
      simp [g8, b3, b4, cr, h1]
      refine (rat_Add_does (a := d[i].2) ⟨s1, s2, rfl, k1, k2⟩ (b := rawZ) ratv_rawZ (by have := hx.1; omega) (hfd _ (List.getElem_mem hi)) (by decide)).mono ?_
      rintro _ G6 ⟨⟨s3, s4, rfl, k3, k4⟩, hx2⟩
      (try replace b0:=hx2.blk b0);(try replace b1:=hx2.blk b1);(try replace b2:=hx2.blk b2);(try replace b3:=hx2.blk b3);(try replace b4:=hx2.blk b4);(try replace hx:=hx.trans hx2);(try replace k0:=k0.mono hx2);(try replace k1:=k1.mono hx2);(try replace k2:=k2.mono hx2);(try replace k3:=k3.mono hx2);(try replace k4 := k4.mono hx2)
      replace hA := h2.mono monoPSo hx2
      replace hB := hB.mono monoPR hx2
      replace kC := kC.mono monoPR hx2
      rw [valR_rawZ, Rat.add_zero] at k3 k4 ⊢
      obtain ⟨sB', G7, p1, p2, p3, p4⟩ := Owns.app (P := PR) (sz := 4) (e := T_api_Rat) (by decide) (fun G' cs x _ hl h => RatV.lx h hl) hB (e2 := T_api_Rat) (c := 1) (bytes := 64) (new := [.bool (canonR (valR d[i].2)).1.1, s3, .bool (canonR (valR d[i].2)).2.1, s4]) (x := canonR (valR d[i].2)) ⟨s3, s4, rfl, k3, k4⟩ rfl (by simp [k3.plain, k4.plain]) (by omega) (by omega) (by omega) hx.1
      obtain ⟨_, _, hBe⟩ := app_fresh (by decide) p1
      have hlx := hB.lx (by decide) p3
      have nB0 := hB.ne b0 (by decide)
      have nB1 := hB.ne b1 (by decide)
      have nB3 := hB.ne b3 (by decide)
      have nB4 := hB.ne b4 (by decide)
      have hsBn : slB sB' = some (G6.size + 1) := by rw [hBe]; simp [slB]
      have hA' : Owns (PSo (slB sB')) H.size G7 T_sl_api_Rat 1 sA' (probA (rows.take (i + 1)) (d.take (i + 1))) := by
        rw [probA_succ hir hi, if_pos he]
        refine hA.lxm (hB.lxT (by decide) p3) (fun cs x ⟨w', q1, q2, q3⟩ => ⟨w', q1, q2.off p3 q3 hlx, ?_⟩)
        cases hw : slB w' with
        | none => exact .inl rfl
        | some b => right; rw [hsBn]; have := q2.lt hw; simp; omega
      have hCB' : slB sC = none ∨ slB sC ≠ slB sB' := by
        cases hw : slB sC with
        | none => exact .inl rfl
        | some b => right; rw [hsBn]; have := RatsV.lt kC hw; simp; omega
      replace kC := RatsV.off kC p3 hCB hlx
      replace b0 := (p3.2 _ (blk_lt b0) nB0).trans b0
      replace b1 := (p3.2 _ (blk_lt b1) nB1).trans b1
      replace b3 := (p3.2 _ (blk_lt b3) nB3).trans b3
      replace hx := p4 _ (Nat.le_refl _) hx
      have hB' : Owns PR H.size G7 T_api_Rat 4 sB' (probB (rows.take (i + 1)) (d.take (i + 1))) := by rw [probB_succ hir hi, if_pos he]; exact p2
      obtain ⟨cA, pA⟩ := hA'.cells
      obtain ⟨cB, pB⟩ := hB'.cells
      have hz := blk_lt b3
      simp [g8, b3, k3.cells, k4.cells, p1, cA, pA, cB, pB, hPH, hz]
      generalize hS1 : Array.setIfInBounds G7 P _ = G8
      have t1 : ∀ {e : Nat}, T_api_LP ≠ e → LxT e G7 G8 := fun hne => set_lxT hS1 b3 hne
      have n0 : P ≠ H.size := by intro h; rw [h, b0] at b3; cases b3
      have hbo : ∀ x, x ∈ blkW sA → slB sA = some x := by
        rcases hAo with h | ⟨b, h, h'⟩
        · rw [h]; simp
        · rw [h, h']; simp
      refine ⟨⟨fun x hx h => nA3 (by rw [hbo x hx, h]), fun x hx h => nA4 (by rw [hbo x hx, h])⟩, Rnd.mk (by simp [gi]) (by simp [gn]) ⟨by simp [g3], by simp [g6], by simp [g8], by simp [g26], set_ext hS1 hx hPH, set_keep hS1 b0 n0, set_keep hS1 b1 hPne, sA', sB', set_new hS1 b3, ?_, ?_, ?_, hCB'⟩⟩
      · exact hA'.lxm (t1 (by decide)) (fun cs x ⟨w', q1, q2, q3⟩ => ⟨w', q1, q2.lx2 (t1 (by decide)) (t1 (by decide)), q3⟩)
      · exact hB'.lxm (t1 (by decide)) (fun cs x h => RatV.lx h (t1 (by decide)))
      · exact RatsV.lx2 kC (t1 (by decide)) (t1 (by decide))
    · simp [r_20_7, b4, he]
      refine Rnd.mk (by simp [gi]) (by simp [gn]) ⟨by simp [g3], by simp [g6], by simp [g8], by simp [g26], hx, b0, b1, sA, sB, b3, ?_, ?_, kC, hCB⟩
      · rw [probA_succ hir hi, if_neg he, List.append_nil]; exact hA
      · rw [probB_succ hir hi, if_neg he, List.append_nil]; exact hB
  · clear h0 ρ hx b0 b1 b3 kC hC hx2
    rintro ρ G gi gn ⟨g3, g6, g8, g26, hx, b0, b1, sA, sB, b3, hA, hB, kC, hCB⟩
    rw [List.take_of_length_le (by omega), List.take_length] at hA hB
    have hz := blk_lt b1
    obtain ⟨cA, pA⟩ := hA.cells
    obtain ⟨cB, pB⟩ := hB.cells
    simp [r_20_10, g6, g8, b3, b1, cA, pA, cB, pB, kC.cells, kC.plain, hz]
    generalize hS : Array.setIfInBounds _ _ _ = G9
    have t1 : ∀ {e : Nat}, T_api_LP ≠ e → LxT e G G9 := fun hne => set_lxT hS b1 hne
    refine fun _ => ⟨sA, sB, sC, rfl, ?_, RatsV.lx2 hB.sls (t1 (by decide)) (t1 (by decide)), RatsV.lx2 kC (t1 (by decide)) (t1 (by decide))⟩
    exact RowsV.lx3 (hA.imp (fun cs x ⟨w', q1, q2, _⟩ => ⟨w', q1, q2⟩)).sls (t1 (by decide)) (t1 (by decide)) (t1 (by decide))
end Go.Proofs.YtjlohmnnldbjoaaGreat.AI

/- Loops of three parts. -/
namespace Go.Proofs.YtjlohmnnldbjoaaGreat.AI
open Go

def CNext (nt i : Nat) (Inv : Nat → (Nat → Value) → Heap → Prop) (t : Tmps) (H : Heap) : Prop := ∃ ρ2, t = T nt ρ2 ∧ Inv (i + 1) ρ2 H
theorem CNext.mk {nt i : Nat} {Inv : Nat → (Nat → Value) → Heap → Prop} {ρ : Nat → Value} {H : Heap} (h : Inv (i + 1) ρ H) : CNext nt i Inv (T nt ρ) H := ⟨ρ, rfl, h⟩
theorem wrap_succ {n : Nat} (h : n < 4611686018427387904) : IntKind.i64.wrap ((n : Int) + 1) = ((n + 1 : Nat) : Int) := by rw [wrap64 (by omega) (by omega)]; omega
def CEnd (E : Env) (fl nt : Nat) (rx : List SOper) (R : PostP) (i : Nat) (Inv : Nat → (Nat → Value) → Heap → Prop) (t : Tmps) (H : Heap) : Prop :=
  WR E fl rx t H (CNext nt i Inv) R
def CStep (E : Env) (fl nt tc b b2 n : Nat) (body : SCode) (rx : List SOper) (Z : Tmps → Heap → Prop) (Q : PostX) (R : PostP) (i : Nat) (Inv : Nat → (Nat → Value) → Heap → Prop) (t : Tmps) (H : Heap) : Prop :=
  ∃ ρ', t = T nt ρ' ∧ ρ' tc = .bool (decide (i < n)) ∧ (i < n → W E fl body (T nt ρ') H (forQ b2 b (CEnd E fl nt rx R i Inv) Z Q) R) ∧ (i = n → Z (T nt ρ') H)

section
variable {E : Env} {fl nt tc b b2 n i : Nat} {body : SCode} {rx rc : List SOper} {Z : Tmps → Heap → Prop} {Q : PostX} {R : PostP} {Inv : Nat → (Nat → Value) → Heap → Prop} {ρ : Nat → Value} {H : Heap}
theorem CStep.mk (h1 : ρ tc = .bool (decide (i < n))) (h2 : i < n → W E fl body (T nt ρ) H (forQ b2 b (CEnd E fl nt rx R i Inv) Z Q) R) (h3 : i = n → Z (T nt ρ) H) : CStep E fl nt tc b b2 n body rx Z Q R i Inv (T nt ρ) H := ⟨ρ, rfl, h1, h2, h3⟩

theorem W_cfor (Inv : Nat → (Nat → Value) → Heap → Prop) (n : Nat) (htc : tc < nt) (hI : Inv 0 ρ H)
    (step : ∀ i ρ G, i ≤ n → Inv i ρ G → WR E fl rc (T nt ρ) G (CStep E fl nt tc b b2 n body rx Z Q R i Inv) R) :
    W E fl (.loop (.seq (.seq (.reg rc) (.cond (.tmp tc) .skip (.exit b))) (.seq (.block b2 body) (.reg rx)))) (T nt ρ) H (blockW b (thenW Z Q)) R := by
  refine W_loopM (fun k t G => ∃ i ρ, i + k = n ∧ t = T nt ρ ∧ Inv i ρ G) Z n ⟨0, ρ, by omega, rfl, hI⟩ ?_ (fun _ _ h => h)
  clear hI
  rintro k t G ⟨i, ρ, hik, rfl, hI⟩
  refine W_seq (W_seq (W_reg ((step i ρ G (by omega) hI).mono ?_)))
  rintro t' G' ⟨ρ', rfl, h1, h2, h3⟩
  simp only [thenW_normal]
  by_cases hi : i < n
  · have hd : ρ' tc = .bool true := by rw [h1, decide_eq_true hi]
    refine W_cond true (by rw [ev_tmp, get_T htc, hd]) (fun _ => W_skip ?_) (by simp)
    simp only [thenW_normal]
    refine W_seq (W_block ((h2 hi).mono fun e t2 G2 hq => ?_))
    have fin : CEnd E fl nt rx R i Inv t2 G2 → thenW (fun t' H' => W E fl (.reg rx) t' H' (loopQ b (fun t' H' => ∃ k', k' < k ∧ ∃ i ρ, i + k' = n ∧ t' = T nt ρ ∧ Inv i ρ H') Z Q) R) (loopQ b (fun t' H' => ∃ k', k' < k ∧ ∃ i ρ, i + k' = n ∧ t' = T nt ρ ∧ Inv i ρ H') Z Q) .normal t2 G2 := by
      intro h
      refine W_reg (h.mono ?_)
      rintro t3 G3 ⟨ρ3, rfl, h4⟩
      exact ⟨k - 1, by omega, i + 1, ρ3, by omega, rfl, h4⟩
    cases e with
    | normal => exact fin hq
    | exit j =>
      simp only [forQ] at hq
      show (if j = b2 then _ else _)
      by_cases hj : j = b2
      · rw [if_pos hj] at hq ⊢; exact fin hq
      · rw [if_neg hj] at hq ⊢
        show (if j = b then _ else _)
        by_cases hj2 : j = b
        · rw [if_pos hj2] at hq ⊢; exact hq
        · rw [if_neg hj2] at hq ⊢; exact hq
    | ret => exact hq
  · have he : i = n := by omega
    have hd : ρ' tc = .bool false := by rw [h1, decide_eq_false hi]
    refine W_cond false (by rw [ev_tmp, get_T htc, hd]) (by simp) (fun _ => W_exit ?_)
    show (if b = b then _ else _)
    rw [if_pos rfl]
    exact h3 he
end

end Go.Proofs.YtjlohmnnldbjoaaGreat.AI

/- The references' own equality, limb by limb. -/
namespace Go.Proofs.YtjlohmnnldbjoaaGreat.AI
open Go
set_option maxHeartbeats 4000000

variable {fl : Nat} {H G : Heap} {R : PostP} {v w : Value}

theorem Same_does {i j : Bool × List Nat} (h : IntV H v i) (k : IntV H w j) (hf : fl ≤ H.size) (hn : i.2.length < 1073741824) : Does env fl f_128 [v, w] H (fun r H' => r = .bool (decide (i = j)) ∧ Ext H H') R := by
  obtain ⟨s, rfl, hs⟩ := h
  obtain ⟨u, rfl, hu⟩ := k
  obtain ⟨bi, li⟩ := i
  obtain ⟨bj, lj⟩ := j
  simp only at hs hu hn ⊢
  refine does_ext e_128 hf (h := ?_)
  intro ρ h0
  simp [s_128, r_128_0, h0]
  generalize hG : Array.push (Array.push H _) _ = G
  have hx2 : Ext H G := by rw [← hG]; exact (Ext.refl H).push.push
  have b0 : Heap.blk G H.size = .row false T_api_Int [.bool bi, s] := by rw [← hG]; simp
  have b1 : Heap.blk G (H.size + 1) = .row false T_api_Int [.bool bj, u] := by rw [← hG]; simp
  have hx := Ext.refl H
  clear hG
  (try replace b0:=hx2.blk b0);(try replace b1:=hx2.blk b1);(try replace hx := hx.trans hx2)
  have ks := hs.mono hx
  have ku := hu.mono hx
  by_cases hb : bi = bj
  · subst hb
    by_cases hl : li.length = lj.length
    · simp [r_128_1, r_128_3, h0, b0, b1, hs.slen, hu.slen, hl]
      refine W_cfor (fun n ρ G' => ρ 2 = .pointer (some ⟨H.size, 0, none⟩) ∧ ρ 3 = .pointer (some ⟨H.size + 1, 0, none⟩) ∧ ρ 5 = .int .i64 (n : Int) ∧ G' = G ∧ li.take n = lj.take n) li.length (by decide) (by simp) ?_
      rintro n ρ _ hn1 ⟨g2, g3, g5, rfl, hpre⟩
      simp [r_128_4, g2, g5, b0, ks.slen]
      refine CStep.mk (by simp) (fun hlt => ?_) (fun heq => ?_)
      · have hltj : n < lj.length := by omega
        simp
        refine W_draw ?_
        simp [r_128_5, g2, g3, g5, b0, b1, ks.ia hlt, ku.ia hltj, ks.load hlt (Ext.refl _), ku.load hltj (Ext.refl _)]
        have e1 : li.getD n 0 = li[n] := by simp [List.getD_eq_getElem?_getD, hlt]
        have e2 : lj.getD n 0 = lj[n] := by simp [List.getD_eq_getElem?_getD, hltj]
        refine ⟨fun hne => ?_, fun heq => ?_⟩
        · simp [r_128_6]
          exact fun _ he => hne (by subst he; rfl)
        · unfold CEnd
          simp [r_128_7, g5, wrap_succ (show n < 4611686018427387904 by omega)]
          refine CNext.mk ⟨by simp [g2], by simp [g3], by simp, rfl, ?_⟩
          rw [List.take_succ_eq_append_getElem hlt, List.take_succ_eq_append_getElem hltj, hpre, ← e1, ← e2, List.getD_eq_getElem?_getD, List.getD_eq_getElem?_getD, heq]
      · subst heq
        rw [List.take_length, hl, List.take_length] at hpre
        simp [r_128_8]
        exact fun _ => hpre
    · simp [r_128_1, r_128_2, h0, b0, b1, hs.slen, hu.slen, hl]
      exact fun _ he => hl (by rw [he])
  · simp [r_128_1, r_128_2, h0, b0, b1, hs.slen, hu.slen, hb]

theorem SameRat_does {a b : RawR} (h : RatV H v a) (k : RatV H w b) (hf : fl ≤ H.size) (hn : lenR a < 1073741824) : Does env fl f_94 [v, w] H (fun r H' => r = .bool (decide (a = b)) ∧ Ext H H') R := by
  obtain ⟨s, u, rfl, hs, hu⟩ := h
  obtain ⟨s', u', rfl, hs', hu'⟩ := k
  have hn1 : a.1.2.length < 1073741824 := by unfold lenR at hn; omega
  have hn2 : a.2.2.length < 1073741824 := by unfold lenR at hn; omega
  refine does_ext e_94 hf (h := ?_)
  intro ρ h0
  simp [s_94, r_94_0, h0]
  generalize hG : Array.push (Array.push H _) _ = G
  have hx2 : Ext H G := by rw [← hG]; exact (Ext.refl H).push.push
  have b0 : Heap.blk G H.size = .row false T_api_Rat [.bool a.1.1, s, .bool a.2.1, u] := by rw [← hG]; simp
  have b1 : Heap.blk G (H.size + 1) = .row false T_api_Rat [.bool b.1.1, s', .bool b.2.1, u'] := by rw [← hG]; simp
  have hx := Ext.refl H
  clear hG
  (try replace b0:=hx2.blk b0);(try replace b1:=hx2.blk b1);(try replace hx := hx.trans hx2)
  simp [r_94_1, h0, b0, b1]
  refine (Same_does (i := a.1) (j := b.1) ⟨s, rfl, hs.mono hx⟩ ⟨s', rfl, hs'.mono hx⟩ hx.1 hn1).mono ?_
  rintro _ G2 ⟨rfl, hx2⟩
  (try replace b0:=hx2.blk b0);(try replace b1:=hx2.blk b1);(try replace hx := hx.trans hx2)
  by_cases h1 : a.1 = b.1
  · simp [h1, b0, b1]
    refine (Same_does (i := a.2) (j := b.2) ⟨u, rfl, hu.mono hx⟩ ⟨u', rfl, hu'.mono hx⟩ hx.1 hn2).mono ?_
    rintro _ G2 ⟨rfl, hx2⟩
    have : (a = b) = (a.2 = b.2) := propext ⟨fun h => by rw [h], fun h => Prod.ext h1 h⟩
    simp [h1, this]
  · simp [h1]
    exact fun _ h => h1 (by rw [h])

end Go.Proofs.YtjlohmnnldbjoaaGreat.AI

/- Which numbers are too long for a law. -/
namespace Go.Proofs.YtjlohmnnldbjoaaGreat.AI
open Go
set_option maxHeartbeats 4000000

variable {fl : Nat} {H G : Heap} {R : PostP} {v w : Value}

theorem Sls.at_ {α : Type} {P : Heap → List Value → α → Prop} {e sz : Nat} {l : List α} (h : Sls P H e sz v l) {j : Nat} (hj : j < l.length) (hs : 0 < sz) :
    ∃ b o cs, adr sz v j = .pointer (some ⟨b, o, none⟩) ∧ cs.length = sz ∧ P H cs l[j] ∧ loadA H true sz (.pointer (some ⟨b, o, none⟩)) = some (.agg cs.toArray) ∧
      (∀ k n, k + n ≤ sz → 0 < n → loadA H true n (.pointer (some ⟨b, o + k, none⟩)) = some (.agg ((cs.drop k).take n).toArray)) ∧
      ∀ k, k < sz → loadA H false 1 (.pointer (some ⟨b, o + k, none⟩)) = some (cs.getD k undef) := by
  obtain ⟨cs, ⟨hl, h1⟩, h2⟩ := h
  have h3 := h2 j hj
  rcases h1 with ⟨rfl, h1⟩ | ⟨b, off, cap, ro, cells, rfl, hb, ho, rfl⟩
  · omega
  · have hj2 : (j + 1) * sz ≤ l.length * sz := Nat.mul_le_mul_right sz hj
    rw [Nat.add_mul, Nat.one_mul] at hj2
    have e1 : (((cells.drop off).take (l.length * sz)).drop (j * sz)).take sz = (cells.drop (off + j * sz)).take sz := by
      rw [List.drop_take, List.take_take, List.drop_drop, Nat.min_eq_left (by omega)]
    rw [e1] at h3
    have agg : ∀ k n, k + n ≤ sz → 0 < n → loadA H true n (.pointer (some ⟨b, off + j * sz + k, none⟩)) = some (.agg ((((cells.drop (off + j * sz)).take sz).drop k).take n).toArray) := by
      intro k n hk hn
      have hc := cells_of (off := off + j * sz + k) (n := n) hb (by omega)
      simp only [loadA]
      rw [if_neg (by omega), if_neg (by simp)]
      simp only [if_true, hc]
      rw [List.drop_take, List.take_take, List.drop_drop, Nat.min_eq_left (by omega)]
    refine ⟨b, off + j * sz, _, rfl, by simp; omega, h3, ?_, agg, ?_⟩
    · have := agg 0 sz (by omega) hs
      simpa [List.take_take] using this
    · intro k hk
      have hc := cells_of (off := off + j * sz + k) (n := 1) hb (by omega)
      simp only [loadA]
      rw [if_neg (by simp), if_neg (by simp)]
      simp only [hc, Bool.false_eq_true, if_false]
      rw [List.head?_take, if_neg (by simp), List.head?_drop, List.getD_eq_getElem?_getD, List.getElem?_take, if_pos (by omega), List.getElem?_drop]
      rw [List.getElem?_eq_getElem (by omega)]
      rfl

def longR (a : RawR) : Bool := decide (6 < a.1.2.length) || decide (6 < a.2.2.length)
def longE (e : RawE) : Bool := longR e.2

theorem Great2_does {l : List RawR} (h : RatsV H v l) (hf : fl ≤ H.size) (hl : l.length < 1073741824) : Does env fl f_48 [v] H (fun r H' => r = .bool (anyB longR l) ∧ Ext H H') R := by
  refine does_ext e_48 hf (h := ?_)
  intro ρ h0
  simp [s_48, r_48_0, r_48_1, h0]
  refine W_cfor (fun n ρ G => ρ 0 = v ∧ ρ 3 = .int .i64 (n : Int) ∧ Ext H G ∧ anyB longR (l.take n) = false) l.length (by decide) (by simp [h0, anyB_nil]) ?_
  clear h0 ρ
  rintro n ρ G hn1 ⟨g0, g3, hx, hpre⟩
  have k := h.mono monoPR hx
  simp [r_48_2, g0, g3, k.slen]
  refine CStep.mk (by simp) (fun hlt => ?_) (fun heq => ?_)
  · obtain ⟨b, o, cs, ha, hcl, hp, hall, hagg, hc⟩ := k.at_ hlt (by decide)
    obtain ⟨s, u, hcs, hs, hu⟩ := hp
    have hcs2 : cs = [.bool l[n].1.1, s, .bool l[n].2.1, u] := by simpa using congrArg (fun v => match v with | Value.agg a => a.toList | _ => []) hcs
    subst hcs2
    have c1 := hc 1 (by decide)
    have c3 := hc 3 (by decide)
    simp at c1 c3
    have hb : anyB longR (l.take (n + 1)) = longR l[n] := by rw [anyB_succ hlt, hpre, Bool.false_or]
    have yes : longR l[n] = true → anyB longR l = true := anyB_yes hlt
    by_cases h1 : 6 < l[n].1.2.length
    · have h1' : (6 : Int) < (l[n].1.2.length : Int) := by omega
      simp [r_48_3, g0, g3, k.ia hlt, ha, c1, c3, hs.slen, hu.slen, h1, h1', r_48_4]
      exact fun _ => yes (by simp [longR, h1])
    · have h1' : ¬ (6 : Int) < (l[n].1.2.length : Int) := by omega
      by_cases h2 : 6 < l[n].2.2.length
      · have h2' : (6 : Int) < (l[n].2.2.length : Int) := by omega
        simp [r_48_3, g0, g3, k.ia hlt, ha, c1, c3, hs.slen, hu.slen, h1, h1', h2, h2', r_48_4]
        exact fun _ => yes (by simp [longR, h2])
      · have h2' : ¬ (6 : Int) < (l[n].2.2.length : Int) := by omega
        simp [r_48_3, g0, g3, k.ia hlt, ha, c1, c3, hs.slen, hu.slen, h1, h1', h2, h2']
        unfold CEnd
        simp [r_48_5, g3, wrap_succ (show n < 4611686018427387904 by omega)]
        refine CNext.mk ⟨by simp [g0], by simp, hx, ?_⟩
        rw [hb]; simp [longR, h1, h2]
  · subst heq
    rw [List.take_length] at hpre
    simp [r_48_6]
    exact fun _ => hpre

theorem ratsv_one {a : RawR} {p : Nat} {ro : Bool} {cs : List Value} (hb : H.blk p = .row ro T_api_Rat cs) (h : RatV H (.agg cs.toArray) a) : RatsV H (.slice (some ⟨p, 0, none⟩) 1 1) [a] := by
  have hl : cs.length = 4 := by
    obtain ⟨s, u, hc, _⟩ := h
    have hc' : cs = [.bool a.1.1, s, .bool a.2.1, u] := by simpa using congrArg (fun v => match v with | Value.agg a => a.toList | _ => []) hc
    rw [hc']; rfl
  refine ⟨cs, ⟨by simp [hl], .inr ⟨p, 0, 1, ro, cs, rfl, hb, by simp [hl], by simp [← hl]⟩⟩, ?_⟩
  intro j hj
  have : j = 0 := by simpa using hj
  subst this
  simp only [Nat.zero_mul, List.drop_zero, List.getElem_cons_zero]
  rw [← hl, List.take_length]
  exact h

theorem Great18_any {l : List RawE} (h : ExtsV H v l) (hf : fl ≤ H.size) : Does env fl f_19 [v] H (fun r H' => r = .bool (decide (100 < l.length) || anyB longE l) ∧ Ext H H') R := by
  refine does_ext e_19 hf (h := ?_)
  intro ρ h0
  by_cases h1 : 100 < l.length
  · have h1' : (100 : Int) < (l.length : Int) := by omega
    simp [s_19, r_19_0, r_19_1, r_19_2, h0, h.slen, h1, h1']
  have h1' : ¬ (100 : Int) < (l.length : Int) := by omega
  have hl : l.length < 1073741824 := by omega
  simp [s_19, r_19_0, r_19_1, r_19_3, h0, h.slen, h1, h1']
  refine W_cfor (fun n ρ G => ρ 0 = v ∧ ρ 3 = .int .i64 (n : Int) ∧ Ext H G ∧ anyB longE (l.take n) = false) l.length (by decide) (by simp [h0, anyB_nil]) ?_
  clear h0 ρ
  rintro n ρ G hn1 ⟨g0, g3, hx, hpre⟩
  have k := h.mono monoPE hx
  simp [r_19_4, g0, g3, k.slen]
  refine CStep.mk (by simp) (fun hlt => ?_) (fun heq => ?_)
  · obtain ⟨b, o, cs, ha, hcl, hp, hall, hagg, hc⟩ := k.at_ hlt (by decide)
    obtain ⟨s, u, hcs, hs, hu⟩ := hp
    have hcs2 : cs = [.int .i64 l[n].1, .bool l[n].2.1.1, s, .bool l[n].2.2.1, u] := by simpa using congrArg (fun v => match v with | Value.agg a => a.toList | _ => []) hcs
    subst hcs2
    have c1 := hagg 1 4 (by decide) (by decide)
    simp at c1
    have hb : anyB longE (l.take (n + 1)) = longE l[n] := by rw [anyB_succ hlt, hpre, Bool.false_or]
    have yes : longE l[n] = true → anyB longE l = true := anyB_yes hlt
    simp [r_19_5, g0, g3, k.ia hlt, ha, c1]
    generalize hG : Array.push G _ = G1
    obtain ⟨hx2, b0⟩ := new0 hG
    clear hG
    replace hx := hx.trans hx2
    replace k := k.mono monoPE hx2
    have k0 : RatsV G1 (.slice (some ⟨G.size, 0, none⟩) 1 1) [l[n].2] := ratsv_one b0 ⟨s, u, rfl, hs.mono hx2, hu.mono hx2⟩
    refine (Great2_does k0 hx.1 (by simp)).mono ?_
    rintro _ G2 ⟨rfl, hx2⟩
    replace hx := hx.trans hx2
    have hone : anyB longR [l[n].2] = longE l[n] := by simp [anyB, longE]
    by_cases h2 : longE l[n] = true
    · simp [hone, h2, r_19_6]
      exact fun _ => yes h2
    · rw [Bool.not_eq_true] at h2
      simp [hone, h2]
      unfold CEnd
      simp [r_19_7, g3, wrap_succ (show n < 4611686018427387904 by omega)]
      refine CNext.mk ⟨by simp [g0], by simp, hx, ?_⟩
      rw [hb, h2]
  · subst heq
    rw [List.take_length] at hpre
    simp [r_19_8]
    exact fun _ => hpre

end Go.Proofs.YtjlohmnnldbjoaaGreat.AI

/- What a law is handed, as lists. -/
namespace Go.Proofs.YtjlohmnnldbjoaaGreat.AI
open Go

variable {H : Heap} {v : Value} {m : Nat} {cs : List Value}

theorem exists_list {α : Type} {Q : Nat → α → Prop} : ∀ n, (∀ i, i < n → ∃ x, Q i x) → ∃ l : List α, l.length = n ∧ ∀ i (h : i < l.length), Q i l[i]
  | 0, _ => ⟨[], rfl, fun i h => by simp at h⟩
  | n + 1, h => by
    obtain ⟨l, h1, h2⟩ := exists_list n (fun i hi => h i (by omega))
    obtain ⟨x, hx⟩ := h n (by omega)
    refine ⟨l ++ [x], by simp [h1], fun i hi => ?_⟩
    by_cases h3 : i < l.length
    · rw [List.getElem_append_left h3]; exact h2 i h3
    · have : i = n := by simp at hi; omega
      subst this
      rw [List.getElem_append_right (by omega)]
      simpa [h1] using hx

theorem isSls {α : Type} {Pr : Program} {P : Heap → List Value → α → Prop} {t e : TypeId} {sz : Nat} (hu : Pr.underlying t = some (.slice e)) (hc : Pr.cellsOf e = sz)
    (hel : ∀ cs, cs.length = sz → IsT Pr H m e cs → ∃ x, P H cs x) (h : IsT Pr H (m + 1) t [v]) : ∃ l, Sls P H e sz v l := by
  unfold IsT at h
  rw [hu] at h
  rcases h with h | ⟨b, len, cap, cells, h1, h2, h3, h4, h5, h6⟩
  · have : v = .slice none 0 0 := by simpa using h
    subst this
    exact ⟨[], Sls.nil⟩
  · have : v = .slice (some ⟨b, 0, none⟩) len cap := by simpa using h1
    subst this
    rw [hc] at h5 h6
    have hj : ∀ i, i < len → i * sz + sz ≤ cells.length := by
      intro i hi
      have : (i + 1) * sz ≤ len * sz := Nat.mul_le_mul_right _ hi
      rw [Nat.add_mul, Nat.one_mul] at this
      omega
    obtain ⟨l, hl, hk⟩ := exists_list (Q := fun i x => P H ((cells.drop (i * sz)).take sz) x) len (fun i hi => hel _ (by have := hj i hi; simp; omega) (h6 i hi))
    subst hl
    refine ⟨l, cells, ⟨h5, .inr ⟨b, 0, cap, true, cells, rfl, h4, by omega, ?_⟩⟩, hk⟩
    rw [List.drop_zero, ← h5, List.take_length]

structure Types (P : Program) : Prop where
  u3 : P.underlying 3 = some (.int .i64)
  u4 : P.underlying 4 = some .bool
  u103 : P.underlying 103 = some (.int .u32)
  u28 : P.underlying 28 = some (.slice 103)
  u30 : ∃ f g : Field, P.underlying 30 = some (.struct #[f, g]) ∧ f.type = 4 ∧ g.type = 28
  u32 : ∃ f g : Field, P.underlying 32 = some (.struct #[f, g]) ∧ f.type = 30 ∧ g.type = 30
  u34 : ∃ f g : Field, P.underlying 34 = some (.struct #[f, g]) ∧ f.type = 3 ∧ g.type = 32
  u37 : P.underlying 37 = some (.slice 32)
  u27 : P.underlying 27 = some (.slice 34)
  u23 : P.underlying 23 = some (.slice 37)
  u25 : ∃ f : Field, P.underlying 25 = some (.struct #[f]) ∧ f.type = 23
  c103 : P.cellsOf 103 = 1
  c37 : P.cellsOf 37 = 1
  c32 : P.cellsOf 32 = 4
  c34 : P.cellsOf 34 = 5
variable {P : Program}

theorem isLim (hP : Types P) (h : IsT P H (m + 2) 28 [v]) : ∃ l, Lim H v l := by
  obtain ⟨l, h⟩ := isSls (P := fun _ cs (x : Nat) => cs = [.int .u32 (x : Nat)] ∧ x < 4294967296) (sz := 1) hP.u28 hP.c103 (fun cs _ h => by
    unfold IsT at h
    rw [hP.u103] at h
    obtain ⟨n, rfl, hn⟩ := h
    simp only [Lit.wf, Bool.and_eq_true, decide_eq_true_eq] at hn
    have h0 : 0 ≤ n := hn.1
    have h1 : n ≤ 4294967295 := hn.2
    exact ⟨n.toNat, by rw [Int.toNat_of_nonneg h0], by omega⟩) h
  obtain ⟨cs, h1, h2⟩ := h
  refine ⟨l, ?_, fun x hx => ?_⟩
  · have : cs = u32s l := by
      apply List.ext_getElem
      · have := h1.1; simp [u32s]; omega
      · intro i h3 h4
        have h5 : i < l.length := by simpa using h4
        have h6 := (h2 i h5).1
        rw [Nat.mul_one, List.drop_eq_getElem_cons h3, List.take_succ_cons] at h6
        have h7 := (List.cons.inj h6).1
        rw [h7]; simp [u32s]
    rw [← this]; exact h1
  · obtain ⟨i, hi, rfl⟩ := List.getElem_of_mem hx
    exact (h2 i hi).2

theorem isBool (hP : Types P) (h : IsT P H (m + 1) 4 cs) : ∃ b, cs = [.bool b] := by
  unfold IsT at h
  rw [hP.u4] at h; exact h
theorem isWhole (hP : Types P) (h : IsT P H (m + 1) 3 cs) : ∃ n, cs = [.int .i64 n] := by
  unfold IsT at h
  rw [hP.u3] at h
  obtain ⟨n, h, _⟩ := h; exact ⟨n, h⟩
theorem isOne (hP : Types P) (h : IsT P H (m + 1) 28 cs) : ∃ v, cs = [v] := by
  unfold IsT at h
  rw [hP.u28] at h
  rcases h with h | ⟨b, len, cap, cells, h, _⟩ <;> exact ⟨_, h⟩

theorem isInt (hP : Types P) (h : IsT P H (m + 3) 30 cs) : ∃ b s l, cs = [.bool b, s] ∧ Lim H s l := by
  obtain ⟨f, g, hu, h1, h2⟩ := hP.u30
  unfold IsT at h
  rw [hu] at h
  obtain ⟨parts, rfl, hl, hp⟩ := h
  obtain ⟨p, q, rfl⟩ : ∃ p q, parts = [p, q] := by
    match parts, hl with
    | [p, q], _ => exact ⟨p, q, rfl⟩
  obtain ⟨b, rfl⟩ := isBool hP (by simpa [h1] using hp 0 _ rfl)
  have h1' : IsT P H (m + 2) 28 q := by simpa [h2] using hp 1 _ rfl
  obtain ⟨s, rfl⟩ := isOne hP h1'
  obtain ⟨l, hl⟩ := isLim hP h1'
  exact ⟨b, s, l, rfl, hl⟩

theorem isRat (hP : Types P) (h : IsT P H (m + 4) 32 cs) : ∃ a, RatV H (.agg cs.toArray) a := by
  obtain ⟨f, g, hu, h1, h2⟩ := hP.u32
  unfold IsT at h
  rw [hu] at h
  obtain ⟨parts, rfl, hl, hp⟩ := h
  obtain ⟨p, q, rfl⟩ : ∃ p q, parts = [p, q] := by
    match parts, hl with
    | [p, q], _ => exact ⟨p, q, rfl⟩
  obtain ⟨b, s, l, rfl, hs⟩ := isInt hP (by simpa [h1] using hp 0 _ rfl)
  obtain ⟨c, u, k, rfl, hu⟩ := isInt hP (by simpa [h2] using hp 1 _ rfl)
  exact ⟨((b, l), (c, k)), s, u, rfl, hs, hu⟩

theorem isExt (hP : Types P) (h : IsT P H (m + 5) 34 cs) : ∃ e, ExtV H (.agg cs.toArray) e := by
  obtain ⟨f, g, hu, h1, h2⟩ := hP.u34
  unfold IsT at h
  rw [hu] at h
  obtain ⟨parts, rfl, hl, hp⟩ := h
  obtain ⟨p, q, rfl⟩ : ∃ p q, parts = [p, q] := by
    match parts, hl with
    | [p, q], _ => exact ⟨p, q, rfl⟩
  obtain ⟨n, rfl⟩ := isWhole hP (by simpa [h1] using hp 0 _ rfl)
  obtain ⟨a, s, u, hc, hs, hu⟩ := isRat hP (by simpa [h2] using hp 1 _ rfl)
  have hc2 : q = [.bool a.1.1, s, .bool a.2.1, u] := by simpa using congrArg (fun v => match v with | Value.agg a => a.toList | _ => []) hc
  subst hc2
  exact ⟨(n, a), s, u, rfl, hs, hu⟩

theorem isRats (hP : Types P) (h : IsT P H (m + 5) 37 [v]) : ∃ l, RatsV H v l := isSls hP.u37 hP.c32 (fun _ _ h => isRat hP h) h
theorem isExts (hP : Types P) (h : IsT P H (m + 6) 27 [v]) : ∃ l, ExtsV H v l := isSls hP.u27 hP.c34 (fun _ _ h => isExt hP h) h
theorem isRows (hP : Types P) (h : IsT P H (m + 6) 23 [v]) : ∃ l, RowsV H v l := isSls hP.u23 hP.c37 (fun cs hc h => by
  obtain ⟨w, rfl⟩ : ∃ w, cs = [w] := by
    match cs, hc with
    | [w], _ => exact ⟨w, rfl⟩
  obtain ⟨l, hl⟩ := isRats hP h
  exact ⟨l, w, rfl, hl⟩) h

theorem argExts (hP : Types P) (h : IsV P H (m + 6) 27 v) : ∃ l, ExtsV H v l := by
  unfold IsV at h; rw [hP.u27] at h; exact isExts hP h
theorem argRats (hP : Types P) (h : IsV P H (m + 5) 37 v) : ∃ l, RatsV H v l := by
  unfold IsV at h; rw [hP.u37] at h; exact isRats hP h
theorem argWhole (hP : Types P) (h : IsV P H (m + 1) 3 v) : ∃ n, v = .int .i64 n := by
  unfold IsV at h; rw [hP.u3] at h
  obtain ⟨n, h⟩ := isWhole hP h; exact ⟨n, by simpa using h⟩
theorem argTempl (hP : Types P) (h : IsV P H (m + 7) 25 v) : ∃ rows, TemplV H v rows := by
  obtain ⟨f, hu, h1⟩ := hP.u25
  unfold IsV at h; rw [hu] at h
  obtain ⟨cs, rfl, h⟩ := h
  unfold IsT at h
  rw [hu] at h
  obtain ⟨parts, hc, hl, hp⟩ := h
  obtain ⟨p, rfl⟩ : ∃ p, parts = [p] := by
    match parts, hl with
    | [p], _ => exact ⟨p, rfl⟩
  have h1' : IsT P H (m + 6) 23 p := by simpa [h1] using hp 0 _ rfl
  obtain ⟨s, rfl⟩ : ∃ s, p = [s] := by
    unfold IsT at h1'
    rw [hP.u23] at h1'
    rcases h1' with h | ⟨b, len, cap, cells, h, _⟩ <;> exact ⟨_, h⟩
  obtain ⟨l, hl⟩ := isRows hP h1'
  have : cs = #[s] := by rw [← Array.toList_inj]; simpa using hc
  exact ⟨l, s, by rw [this], hl⟩

theorem Sls.first {α : Type} {P : Heap → List Value → α → Prop} {e sz : Nat} {l : List α} (h : Sls P H e sz v l) {n : Nat} (hn : n ≤ l.length) {k : IntKind} :
    ∃ v', sliceA sz v none (some (.int k n)) none = some v' ∧ Sls P H e sz v' (l.take n) ∧ elemOk H e v = true := by
  obtain ⟨cs, h1, h2⟩ := h
  obtain ⟨v', h3, h4⟩ := h1.slice (lo := 0) (hi := n) (x := none) (y := some (.int k n)) (Nat.zero_le _) hn rfl (by simp [bnd])
  refine ⟨v', h3, ⟨_, by rw [List.length_take, Nat.min_eq_left hn]; simpa using h4, ?_⟩, h1.elemOk (Ext.refl _)⟩
  intro j hj
  have hj2 : j < n := by simp at hj; omega
  have hj3 : (j + 1) * sz ≤ n * sz := Nat.mul_le_mul_right _ hj2
  rw [Nat.add_mul, Nat.one_mul] at hj3
  have := h2 j (by omega)
  simp only [List.getElem_take, Nat.sub_zero, Nat.zero_mul, List.drop_zero]
  rw [List.drop_take, List.take_take, Nat.min_eq_left (by omega)]
  exact this

theorem types : Types Tryz.prog where
  u3 := Tryz.underlying3
  u4 := by kernel_rfl
  u103 := Tryz.underlying103
  u28 := Tryz.underlying28
  u30 := ⟨_, _, Tryz.underlying30, rfl, rfl⟩
  u32 := ⟨_, _, Tryz.underlying32, rfl, rfl⟩
  u34 := ⟨_, _, Tryz.underlying34, rfl, rfl⟩
  u37 := Tryz.underlying37
  u27 := Tryz.underlying27
  u23 := Tryz.underlying23
  u25 := ⟨_, Tryz.underlying25, rfl⟩
  c103 := by kernel_rfl
  c37 := by kernel_rfl
  c32 := by kernel_rfl
  c34 := by kernel_rfl

end Go.Proofs.YtjlohmnnldbjoaaGreat.AI

/- The abstract machine's operations as effects on a heap that is only asked: the same machine can then run over another kind of heap. -/
namespace Go.Proofs.YtjlohmnnldbjoaaGreat.AI
open Go

inductive Eff where
  | same
  | push (b : Blk)
  | set (k : Nat) (b : Blk)
  | mv (k : Nat) (b : Blk)

def Eff.app (H : Heap) : Eff → Heap
  | .same => H
  | .push b => H.push b
  | .set k b => H.setIfInBounds k b
  | .mv k b => (H.setIfInBounds k .dead).push b

inductive OpResE where
  | bad
  | val (v : Value) (e : Eff)
  | pan (v : Value)
  | call (f : FuncId) (args : List Value) (lone : Bool)

def OpResE.on (H : Heap) : OpResE → OpRes
  | .bad => .bad
  | .val v e => .val v (e.app H)
  | .pan v => .pan v
  | .call f args lone => .call f args lone

def evG (g : Nat → Value) : Opd → Value
  | .tmp i => g i
  | .const v => v
  | .fn f => .func (.func f) #[] #[]
theorem evG_get (t : Tmps) : evG (get t) = ev t := by funext x; cases x <;> rfl

def partsG (g : Nat → Value) (ps : List (Nat × Nat × Opd)) : List (Nat × Nat × Value) := ps.map fun p => (p.1, p.2.1, evG g p.2.2)

section
variable (blk : Nat → Blk) (size : Nat)

def cellsG (b off n : Nat) : Option (List Value) :=
  match blk b with
  | .row _ _ cs => if off + n ≤ cs.length then some ((cs.drop off).take n) else none
  | .dead => none

def writeG (fl b off : Nat) (vs : List Value) : Option Eff :=
  match blk b with
  | .row false e cs => if fl ≤ b ∧ off + vs.length ≤ cs.length ∧ vs.all plainCell = true then some (.set b (.row false e (writeL cs off vs))) else none
  | _ => none

def elemG (e : TypeId) : Value → Bool
  | .slice (some p) _ cap => if cap = 0 then true else match blk p.block with | .row true _ _ => true | .row false e' _ => e' == e | .dead => false
  | _ => true

def loadG (agg : Bool) (n : Nat) (a : Value) : Option Value :=
  match a with
  | .pointer (some p) =>
    if agg = true ∧ n = 0 then some (.agg #[]) else
    if p.spot.isSome = true then none else
    match cellsG blk p.block p.off (if agg then n else 1) with
    | some cs => if agg then some (.agg cs.toArray) else cs.head?
    | none => none
  | _ => none

def appG (fl : Nat) (elem : TypeId) (sz bytes : Nat) (s x : Value) : Option (Value × Eff) :=
  match s, x with
  | .slice base len cap, .slice xb n _ =>
    if n = 0 then some (.slice base len cap, .same) else
    if len + n ≤ 1073741824 ∧ bytes ≤ 1024 ∧ 0 < sz then
      match xb with
      | none => none
      | some xp =>
        match cellsG blk xp.block xp.off (n * sz) with
        | none => none
        | some new =>
          if new.all plainCell = false then none else
          match base with
          | none => if len = 0 ∧ cap = 0 then some (.slice (some ⟨size, 0, none⟩) n unk, .push (.row false elem new)) else none
          | some sp =>
            if len = 0 ∧ cap = 0 then some (.slice (some ⟨size, 0, none⟩) n unk, .push (.row false elem new)) else
            match cellsG blk sp.block sp.off (len * sz) with
            | none => none
            | some old =>
              if cap ≠ unk ∧ cap < len + n then some (.slice (some ⟨size, 0, none⟩) (len + n) unk, .push (.row false elem (old ++ new)))
              else
                match blk sp.block with
                | .row false e _ =>
                  if e = elem ∧ fl ≤ sp.block then some (.slice (some ⟨size, 0, none⟩) (len + n) unk, .mv sp.block (.row false elem (old ++ new)))
                  else none
                | _ => none
    else none
  | _, _ => none

def optE : Option Value → OpResE
  | some v => .val v .same
  | none => .bad

def optE2 : Option (Value × Eff) → OpResE
  | some (v, e) => .val v e
  | none => .bad

def opE (fl : Nat) (g : Nat → Value) : SOp → OpResE
  | .mv x => .val (evG g x) .same
  | .pick c a b => match evG g c with | .bool true => .val (evG g a) .same | .bool false => .val (evG g b) .same | _ => .bad
  | .alloc e z => .val (.pointer (some ⟨size, 0, none⟩)) (.push (.row false e z))
  | .box e x => .val (.pointer (some ⟨size, 0, none⟩)) (.push (.row false e (cellsL (evG g x))))
  | .build z ps => optE ((fillL z (partsG g ps)).map fun cs => .agg cs.toArray)
  | .lit e z n ps =>
    match fillL (repl z n) (partsG g ps) with
    | some cs => .val (.slice (some ⟨size, 0, none⟩) n n) (.push (.row false e cs))
    | none => .bad
  | .load agg n a => optE (loadG blk agg n (evG g a))
  | .store n a x =>
    match evG g a with
    | .pointer (some p) =>
      if p.spot.isSome = true ∨ (cellsL (evG g x)).length ≠ n then .bad else
      match writeG blk fl p.block p.off (cellsL (evG g x)) with
      | some e => .val undef e
      | none => .bad
    | _ => .bad
  | .chk x =>
    match evG g x with
    | .pointer (some a) => .val (.pointer (some a)) .same
    | .func (.func f) a b => .val (.func (.func f) a b) .same
    | .iface a b => .val (.iface a b) .same
    | _ => .bad
  | .bin tag b x y => optE (binA tag b (evG g x) (evG g y))
  | .un u x => optE (unA u (evG g x))
  | .conv k x => match evG g x with | .int _ n => .val (.int k (k.wrap n)) .same | _ => .bad
  | .iface ty x => .val (.iface ty (evG g x)) .same
  | .mkfn f a b => .val (.func f (a.map (evG g)).toArray (b.map (evG g)).toArray) .same
  | .mk e bytes z len cap =>
    match evG g len, evG g cap with
    | .int _ l, .int _ c =>
      if 0 ≤ l ∧ l ≤ c ∧ c ≤ 1073741824 ∧ bytes ≤ 1024 then .val (.slice (some ⟨size, 0, none⟩) l.toNat c.toNat) (.push (.row false e (repl z l.toNat))) else .bad
    | _, _ => .bad
  | .sl e sz x lo hi mx => if elemG blk e (evG g x) = false then .bad else optE (sliceA sz (evG g x) (lo.map (evG g)) (hi.map (evG g)) (mx.map (evG g)))
  | .fa off a => match evG g a with | .pointer (some p) => if p.spot.isSome = true then .bad else .val (.pointer (some ⟨p.block, p.off + off, none⟩)) .same | _ => .bad
  | .fa0 e a =>
    match evG g a with
    | .pointer (some p) =>
      match blk p.block with
      | .row false e' _ => if p.spot.isSome = false ∧ e' = e ∧ p.off = 0 then .val (.pointer (some ⟨p.block, 0, none⟩)) .same else .bad
      | _ => .bad
    | _ => .bad
  | .fld agg off n x => optE (fldA agg off n (evG g x))
  | .ia sz x i =>
    match evG g x, evG g i with
    | .slice (some p) n _, .int _ j => if 0 ≤ j ∧ j < n then .val (.pointer (some ⟨p.block, p.off + j.toNat * sz, none⟩)) .same else .bad
    | _, _ => .bad
  | .ext x i => match evG g x with | .tuple vs => optE vs[i]? | _ => .bad
  | .call f args lone => .call f (args.map (evG g)) lone
  | .callv x args lone => match evG g x with | .func (.func f) first captured => .call f (first.toList ++ args.map (evG g) ++ captured.toList) lone | _ => .bad
  | .inv x tbl args lone =>
    match evG g x with
    | .iface ty v => match tbl.lookup ty with | some f => .call f (v :: args.map (evG g)) lone | none => .bad
    | _ => .bad
  | .len x => match evG g x with | .slice _ n _ => .val (.int .i64 n) .same | _ => .bad
  | .mnx big x ys => optE (mnxA big (evG g x) (ys.map (evG g)))
  | .app e sz bytes s x => optE2 (appG blk size fl e sz bytes (evG g s) (evG g x))
  | .pan x => match evG g x with | .iface a b => .pan (.iface a b) | _ => .bad
end

variable {H : Heap} {fl : Nat} {t : Tmps}

theorem cellsG_eq (b off n : Nat) : cellsG H.blk b off n = H.cells? b off n := rfl
theorem loadG_eq (agg : Bool) (n : Nat) (a : Value) : loadG H.blk agg n a = loadA H agg n a := rfl
theorem elemG_eq (e : TypeId) (v : Value) : elemG H.blk e v = elemOk H e v := rfl
theorem writeG_eq (b off : Nat) (vs : List Value) : H.write? fl b off vs = (writeG H.blk fl b off vs).map (·.app H) := by
  unfold writeG Heap.write?
  cases H.blk b with
  | dead => rfl
  | row ro e cs =>
    cases ro with
    | true => rfl
    | false => simp only; split <;> rfl
theorem appG_eq (e sz bytes : Nat) (s x : Value) : appA fl H e sz bytes s x = (appG H.blk H.size fl e sz bytes s x).map fun p => (p.1, p.2.app H) := by
  unfold appG appA
  simp only [cellsG_eq]
  split
  · rename_i base len cap xb n xc
    simp only
    by_cases h1 : n = 0
    · rw [if_pos h1, if_pos h1]; rfl
    rw [if_neg h1, if_neg h1]
    by_cases h2 : len + n ≤ 1073741824 ∧ bytes ≤ 1024 ∧ 0 < sz
    · rw [if_pos h2, if_pos h2]
      cases xb with
      | none => rfl
      | some xp =>
        simp only
        cases H.cells? xp.block xp.off (n * sz) with
        | none => rfl
        | some new =>
          simp only
          by_cases h3 : new.all plainCell = false
          · rw [if_pos h3, if_pos h3]; rfl
          rw [if_neg h3, if_neg h3]
          cases base with
          | none => simp only; split <;> rfl
          | some sp =>
            simp only
            by_cases h4 : len = 0 ∧ cap = 0
            · rw [if_pos h4, if_pos h4]; rfl
            rw [if_neg h4, if_neg h4]
            cases H.cells? sp.block sp.off (len * sz) with
            | none => rfl
            | some old =>
              simp only
              by_cases h5 : cap ≠ unk ∧ cap < len + n
              · rw [if_pos h5, if_pos h5]; rfl
              rw [if_neg h5, if_neg h5]
              cases H.blk sp.block with
              | dead => rfl
              | row ro e' cs =>
                cases ro with
                | true => rfl
                | false => simp only; split <;> rfl
    · rw [if_neg h2, if_neg h2]; rfl
  · rename_i h
    split
    · exact absurd rfl (h _ _ _ _ _ _ rfl)
    · rfl

theorem optE_on (o : Option Value) : (optE o).on H = ofOpt H o := by cases o <;> rfl

theorem opA_E (op : SOp) : opA fl t H op = (opE H.blk H.size fl (get t) op).on H := by
  cases op <;> simp only [opA, opE, evG_get, partsG, evParts, loadG_eq, elemG_eq]
  case mv => rfl
  case pick c a b =>
    generalize ev t c = v
    cases v <;> try rfl
    rename_i b; cases b <;> rfl
  case alloc => rfl
  case box => rfl
  case build => exact (optE_on _).symm
  case lit e z n ps =>
    cases fillL (repl z n) (ps.map fun p => (p.1, p.2.1, ev t p.2.2)) <;> rfl
  case load => exact (optE_on _).symm
  case store n a x =>
    generalize ev t a = v
    cases v <;> try rfl
    rename_i p; cases p with
    | none => rfl
    | some p =>
      simp only
      split
      · rfl
      · rw [writeG_eq]; cases writeG H.blk fl p.block p.off (cellsL (ev t x)) <;> rfl
  case chk x =>
    generalize ev t x = v
    cases v <;> try rfl
    · rename_i p; cases p <;> rfl
    · rename_i f _ _; cases f <;> rfl
  case bin => exact (optE_on _).symm
  case un => exact (optE_on _).symm
  case conv k x => generalize ev t x = v; cases v <;> rfl
  case iface => rfl
  case mkfn => rfl
  case mk e bytes z len cap =>
    generalize ev t len = v; generalize ev t cap = u
    cases v <;> try rfl
    cases u <;> try rfl
    simp only; split <;> rfl
  case sl e sz x lo hi mx =>
    cases elemOk H e (ev t x)
    · rfl
    · exact (optE_on _).symm
  case fa off a =>
    generalize ev t a = v
    cases v <;> try rfl
    rename_i p; cases p with
    | none => rfl
    | some p => simp only; split <;> rfl
  case fa0 e a =>
    generalize ev t a = v
    cases v <;> try rfl
    rename_i p; cases p with
    | none => rfl
    | some p =>
      simp only
      cases H.blk p.block with
      | dead => rfl
      | row ro e' cs =>
        cases ro with
        | true => rfl
        | false => simp only; split <;> rfl
  case fld => exact (optE_on _).symm
  case ia sz x i =>
    generalize ev t x = v; generalize ev t i = u
    cases v <;> try rfl
    rename_i p n _; cases p with
    | none => rfl
    | some p => cases u <;> try rfl
                simp only; split <;> rfl
  case ext x i =>
    generalize ev t x = v
    cases v <;> try rfl
    exact (optE_on _).symm
  case call => rfl
  case callv x args lone =>
    generalize ev t x = v
    cases v <;> try rfl
    rename_i f _ _; cases f <;> rfl
  case inv x tbl args lone =>
    generalize ev t x = v
    cases v <;> try rfl
    rename_i ty v
    simp only
    cases tbl.lookup ty <;> rfl
  case len x => generalize ev t x = v; cases v <;> rfl
  case mnx => exact (optE_on _).symm
  case app e sz bytes s x =>
    rw [appG_eq]
    cases appG H.blk H.size fl e sz bytes (ev t s) (ev t x) <;> rfl
  case pan x => generalize ev t x = v; cases v <;> rfl

section
def e_chk (blk : Nat → Blk) (size fl : Nat) (g : Nat → Value) (x : Opd) : OpResE :=
    match evG g x with
    | .pointer (some a) => .val (.pointer (some a)) .same
    | .func (.func f) a b => .val (.func (.func f) a b) .same
    | .iface a b => .val (.iface a b) .same
    | _ => .bad

def e_un (blk : Nat → Blk) (size fl : Nat) (g : Nat → Value) (u : UnOp) (x : Opd) : OpResE := optE (unA u (evG g x))

def e_iface (blk : Nat → Blk) (size fl : Nat) (g : Nat → Value) (ty : TypeId) (x : Opd) : OpResE := .val (.iface ty (evG g x)) .same

def e_mkfn (blk : Nat → Blk) (size fl : Nat) (g : Nat → Value) (f : Fn) (a : List Opd) (b : List Opd) : OpResE := .val (.func f (a.map (evG g)).toArray (b.map (evG g)).toArray) .same

def e_mk (blk : Nat → Blk) (size fl : Nat) (g : Nat → Value) (e : TypeId) (bytes : Nat) (z : List Value) (len : Opd) (cap : Opd) : OpResE :=
    match evG g len, evG g cap with
    | .int _ l, .int _ c =>
      if 0 ≤ l ∧ l ≤ c ∧ c ≤ 1073741824 ∧ bytes ≤ 1024 then .val (.slice (some ⟨size, 0, none⟩) l.toNat c.toNat) (.push (.row false e (repl z l.toNat))) else .bad
    | _, _ => .bad

def e_sl (blk : Nat → Blk) (size fl : Nat) (g : Nat → Value) (e : TypeId) (sz : Nat) (x : Opd) (lo : Option Opd) (hi : Option Opd) (mx : Option Opd) : OpResE := if elemG blk e (evG g x) = false then .bad else optE (sliceA sz (evG g x) (lo.map (evG g)) (hi.map (evG g)) (mx.map (evG g)))

def e_fa0 (blk : Nat → Blk) (size fl : Nat) (g : Nat → Value) (e : TypeId) (a : Opd) : OpResE :=
    match evG g a with
    | .pointer (some p) =>
      match blk p.block with
      | .row false e' _ => if p.spot.isSome = false ∧ e' = e ∧ p.off = 0 then .val (.pointer (some ⟨p.block, 0, none⟩)) .same else .bad
      | _ => .bad
    | _ => .bad

def e_callv (blk : Nat → Blk) (size fl : Nat) (g : Nat → Value) (x : Opd) (args : List Opd) (lone : Bool) : OpResE := match evG g x with | .func (.func f) first captured => .call f (first.toList ++ args.map (evG g) ++ captured.toList) lone | _ => .bad

def e_inv (blk : Nat → Blk) (size fl : Nat) (g : Nat → Value) (x : Opd) (tbl : List (TypeId × FuncId)) (args : List Opd) (lone : Bool) : OpResE :=
    match evG g x with
    | .iface ty v => match tbl.lookup ty with | some f => .call f (v :: args.map (evG g)) lone | none => .bad
    | _ => .bad

def e_mnx (blk : Nat → Blk) (size fl : Nat) (g : Nat → Value) (big : Bool) (x : Opd) (ys : List Opd) : OpResE := optE (mnxA big (evG g x) (ys.map (evG g)))

def e_pan (blk : Nat → Blk) (size fl : Nat) (g : Nat → Value) (x : Opd) : OpResE := match evG g x with | .iface a b => .pan (.iface a b) | _ => .bad
end

end Go.Proofs.YtjlohmnnldbjoaaGreat.AI
