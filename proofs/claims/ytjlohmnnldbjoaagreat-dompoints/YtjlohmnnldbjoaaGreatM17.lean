/- Part 18 of the proof: AiSim11, AiRow4, AiLat, AiGreat4, AiLaw1, AiLaw2, AiRefA1, AiRefA2, AiRefA3, AiRefA4, AiRefA5, AiRefA6, AiRefA7, AiRefA8, AiRefA9, AiRefB1, AiRefB2, AiRefB3, AiRefB4. -/
import Derived.Test.YtjlohmnnldbjoaaGreatM07
import Derived.Test.YtjlohmnnldbjoaaGreatM10
import Derived.Test.YtjlohmnnldbjoaaGreatM11
import Derived.Test.YtjlohmnnldbjoaaGreatM16
set_option linter.unusedVariables false
set_option linter.unusedSimpArgs false
set_option linter.unusedSectionVars false

/- The simulation, for this program: what the abstract machine answers the model's calls do. -/
namespace Go.Proofs.YtjlohmnnldbjoaaGreat.AI
open Go

noncomputable abbrev Xb (base : Nat) : Cx := ⟨Tryz.prog, base⟩
variable {base : Nat}

theorem mixed : Tryz.prog.follows .mixedOrders = true := by kernel_rfl
theorem tab_ok : ∀ p ∈ awakeTab ++ codeTab, cFun Tryz.prog p.1 = some p.2 := fun p hp => by
  rcases List.mem_append.1 hp with h | h
  · exact awakeTab_ok p h
  · exact codeTab_ok p h
theorem tab_small : ((awakeTab ++ codeTab).all fun p => Nat.blt p.1 1024) = true := by kernel_rfl
theorem qf_np : qf.nL ≠ 0 := by show (4 : Nat) ≠ 0; omega
theorem qf_ns : qf.nS ≠ 0 := by show (8 : Nat) ≠ 0; omega
theorem code_mk (c : FuncId → Option SFun) (q : Option Quick) (k : List (FuncId × Value)) (f : FuncId) : (Env.mk c q k).code f = c f := rfl
theorem envF_mem (f : FuncId) (sf : SFun) (h : envF.code f = some sf) : (f, sf) ∈ awakeTab ++ codeTab := by
  unfold envF at h
  rw [code_mk] at h
  exact tabO_mem (awakeTab ++ codeTab) f sf tab_small h
theorem envF_ok : EnvOk (Xb base) envF where
  code f sf h := tab_ok (f, sf) (envF_mem f sf h)
  mixed := mixed
theorem env_ok : EnvOk (Xb base) env where
  code f sf h := codeTab_ok (f, sf) (tab_lookup h)
  mixed := mixed
theorem quick_okE {E : Env} (hE : E.quick = env.quick) : QuickOk (Xb base) E := by
  intro q hq call hcall hkeep
  rw [hE] at hq
  have e : q = (match env.quick with | some q => q | none => default) := by rw [hq]
  subst e
  exact quick_call (X := Xb base) qf hcall (draw_ok hcall hkeep mixed) qf_np qf_ns
theorem simF (n : Nat) : CallOk (Xb base) (callA envF n) :=
  call_sim envF envF_ok (fun f v h => by simp [envF] at h) (quick_okE rfl) (fun call h1 h2 => draw_ok h1 h2 mixed) n
theorem known_ok : KnownOk (Xb base) env := by
  intro f v h
  obtain ⟨H1, h1⟩ := awake_run
  have e : f = f_17 ∧ v = .bool true := by
    simp only [env, List.lookup] at h
    split at h
    · rename_i hb
      simp only [Option.some.injEq] at h
      exact ⟨by simpa using hb, h.symm⟩
    · cases h
  obtain ⟨rfl, rfl⟩ := e
  exact known_of_run (simF 50) h1
theorem sim (n : Nat) : CallOk (Xb base) (callA env n) :=
  call_sim env env_ok known_ok (quick_okE rfl) (fun call h1 h2 => draw_ok h1 h2 mixed) n

end Go.Proofs.YtjlohmnnldbjoaaGreat.AI

/- What the rows of the laws need of the program. -/
namespace Go.Proofs.YtjlohmnnldbjoaaGreat
open Go Go.Proofs Go.ChangeShapes Go.WideShapes Go.ChangeAt Go.RowKit Go.Proofs.YtjlohmnnldbjoaaGreat.AI

theorem own_knob : ownKnob Tryz.prog.godebug = none := by kernel_rfl
theorem laid_out : laidOutB Tryz.prog = true := by kernel_rfl
theorem under4 : Tryz.prog.underlying 4 = some .bool := by kernel_rfl
abbrev fit (t : TypeId) : Prop := plainT Tryz.prog 12 t = true ∧ Tryz.prog.readableRec t = true ∧ t < Tryz.prog.types.size
theorem fit3 : fit 3 := ⟨by kernel_rfl, by kernel_rfl, of_decide_eq_true (by kernel_rfl)⟩
theorem fit25 : fit 25 := ⟨by kernel_rfl, by kernel_rfl, of_decide_eq_true (by kernel_rfl)⟩
theorem fit27 : fit 27 := ⟨by kernel_rfl, by kernel_rfl, of_decide_eq_true (by kernel_rfl)⟩
theorem fit37 : fit 37 := ⟨by kernel_rfl, by kernel_rfl, of_decide_eq_true (by kernel_rfl)⟩

end Go.Proofs.YtjlohmnnldbjoaaGreat

/- Join is the least above, Meet the greatest below, and Le is told by Join: of quotients with two ends. -/
namespace Go.Proofs.YtjlohmnnldbjoaaGreat.AI
open Go

variable {e f g : RawE}
/-! ### row by row -/
variable {a b c : List RawE}
/-! ### how long -/
def LimE (l : List RawE) : Prop := ∀ x ∈ l, LimOk x.2.1.2 ∧ LimOk x.2.2.2
theorem ExtsV.limE {H : Heap} {v : Value} (h : ExtsV H v a) : LimE a := by
  intro x hx
  obtain ⟨i, hi, rfl⟩ := List.getElem_of_mem hx
  obtain ⟨w, _, k⟩ := ExtsV.load h hi
  exact k.ok
theorem few_of (h : anyB longE a = false) : FewE a := by
  intro x hx
  have : longE x = false := by
    cases hl : longE x with
    | false => rfl
    | true => exact absurd (List.any_eq_true.2 ⟨x, hx, hl⟩) (by unfold anyB at h; rw [h]; decide)
  unfold longE longR at this
  simp at this
  unfold lenR; omega

end Go.Proofs.YtjlohmnnldbjoaaGreat.AI

/- Which tables are too great for a law. -/
namespace Go.Proofs.YtjlohmnnldbjoaaGreat.AI
open Go
set_option maxHeartbeats 4000000

def CTest (E : Env) (fl nt tc b b2 : Nat) (body : SCode) (rx : List SOper) (Z : Tmps → Heap → Prop) (Q : PostX) (R : PostP) (n i : Nat) (Inv : Nat → (Nat → Value) → Heap → Prop) (t : Tmps) (H : Heap) : Prop :=
  ∃ ρ' c, t = T nt ρ' ∧ ρ' tc = .bool c ∧ (c = true → i < n ∧ W E fl body (T nt ρ') H (forQ b2 b (CEnd E fl nt rx R i Inv) Z Q) R) ∧ (c = false → Z (T nt ρ') H)
section
variable {E : Env} {fl nt tc b b2 n i : Nat} {body : SCode} {rx rc : List SOper} {Z : Tmps → Heap → Prop} {Q : PostX} {R : PostP} {Inv : Nat → (Nat → Value) → Heap → Prop} {ρ : Nat → Value} {H : Heap}
theorem CTest.mk (c : Bool) (h1 : ρ tc = .bool c) (h2 : c = true → i < n ∧ W E fl body (T nt ρ) H (forQ b2 b (CEnd E fl nt rx R i Inv) Z Q) R) (h3 : c = false → Z (T nt ρ) H) : CTest E fl nt tc b b2 body rx Z Q R n i Inv (T nt ρ) H := ⟨ρ, c, rfl, h1, h2, h3⟩

theorem W_tfor (Inv : Nat → (Nat → Value) → Heap → Prop) (n : Nat) (htc : tc < nt) (hI : Inv 0 ρ H)
    (step : ∀ i ρ G, i ≤ n → Inv i ρ G → WR E fl rc (T nt ρ) G (CTest E fl nt tc b b2 body rx Z Q R n i Inv) R) :
    W E fl (.loop (.seq (.seq (.reg rc) (.cond (.tmp tc) .skip (.exit b))) (.seq (.block b2 body) (.reg rx)))) (T nt ρ) H (blockW b (thenW Z Q)) R := by
  refine W_loopM (fun k t G => ∃ i ρ, i + k = n ∧ t = T nt ρ ∧ Inv i ρ G) Z n ⟨0, ρ, by omega, rfl, hI⟩ ?_ (fun _ _ h => h)
  clear hI
  rintro k t G ⟨i, ρ, hik, rfl, hI⟩
  refine W_seq (W_seq (W_reg ((step i ρ G (by omega) hI).mono ?_)))
  rintro t' G' ⟨ρ', c, rfl, h1, h2, h3⟩
  simp only [thenW_normal]
  cases c with
  | true =>
    obtain ⟨hi, h2⟩ := h2 rfl
    refine W_cond true (by rw [ev_tmp, get_T htc, h1]) (fun _ => W_skip ?_) (by simp)
    simp only [thenW_normal]
    refine W_seq (W_block (h2.mono fun e t2 G2 hq => ?_))
    have fin : CEnd E fl nt rx R i Inv t2 G2 → thenW (fun t' H' => W E fl (.reg rx) t' H' (loopQ b (fun t' H' => ∃ k', k' < k ∧ ∃ i ρ, i + k' = n ∧ t' = T nt ρ ∧ Inv i ρ H') Z Q) R) (loopQ b (fun t' H' => ∃ k', k' < k ∧ ∃ i ρ, i + k' = n ∧ t' = T nt ρ ∧ Inv i ρ H') Z Q) .normal t2 G2 := by
      intro h
      refine W_reg (h.mono ?_)
      rintro t3 G3 ⟨ρ3, rfl, h4⟩
      exact ⟨k - 1, by omega, i + 1, ρ3, by omega, rfl, h4⟩
    cases e with
    | normal => exact fin hq
    | exit j =>
      simp only [forQ] at hq
      show (if j = b2 then _ else _)
      by_cases hj : j = b2
      · rw [if_pos hj] at hq ⊢; exact fin hq
      · rw [if_neg hj] at hq ⊢
        show (if j = b then _ else _)
        by_cases hj2 : j = b
        · rw [if_pos hj2] at hq ⊢; exact hq
        · rw [if_neg hj2] at hq ⊢; exact hq
    | ret => exact hq
  | false =>
    refine W_cond false (by rw [ev_tmp, get_T htc, h1]) (by simp) (fun _ => W_exit ?_)
    show (if b = b then _ else _)
    rw [if_pos rfl]
    exact h3 rfl
end

variable {fl : Nat} {H G : Heap} {R : PostP} {v w : Value}

def rowsN : List (List RawR) → Nat
  | [] => 0
  | r :: l => rowsN l + (1 + min r.length 201)
theorem rowsN_snoc (l : List (List RawR)) (r : List RawR) : rowsN (l ++ [r]) = rowsN l + (1 + min r.length 201) := by
  induction l with
  | nil => simp [rowsN]
  | cons x l ih => simp only [List.cons_append, rowsN, ih]; omega
theorem rowsN_succ {l : List (List RawR)} {i : Nat} (h : i < l.length) : rowsN (l.take (i + 1)) = rowsN (l.take i) + (1 + min l[i].length 201) := by
  rw [List.take_succ_eq_append_getElem h, rowsN_snoc]
def longL (r : List RawR) : Bool := decide (r.length ≤ 200) && anyB longR r
theorem le_rowsN (l : List (List RawR)) : l.length ≤ rowsN l := by
  induction l with
  | nil => simp [rowsN]
  | cons x l ih => simp only [List.length_cons, rowsN]; omega
theorem mem_rowsN {l : List (List RawR)} {r : List RawR} (h : r ∈ l) : min r.length 201 < rowsN l := by
  induction l with
  | nil => simp at h
  | cons x l ih =>
    simp only [rowsN]
    rcases List.mem_cons.1 h with rfl | h
    · omega
    · have := ih h; omega
def goodL (l : List (List RawR)) : Prop := l.length ≤ 200 ∧ ∀ r ∈ l, r.length ≤ 200 ∧ anyB longR r = false
theorem good_of {l : List (List RawR)} (h : rowsN l ≤ 200) (k : anyB longL l = false) : goodL l := by
  refine ⟨Nat.le_trans (le_rowsN l) h, fun r hr => ?_⟩
  have h1 := mem_rowsN hr
  have h2 : r.length ≤ 200 := by omega
  refine ⟨h2, ?_⟩
  cases ha : anyB longR r with
  | false => rfl
  | true => exact absurd (List.any_eq_true.2 ⟨r, hr, show longL r = true by unfold longL; rw [ha]; simp [h2]⟩) (by unfold anyB at k; rw [k]; decide)

theorem Great4_does {l : List (List RawR)} (h : RowsV H v l) (hf : fl ≤ H.size) : Does env fl f_18 [v] H (fun r H' => (∃ c, r = .bool c ∧ (c = false → goodL l)) ∧ Ext H H') R := by
  refine does_ext e_18 hf (h := ?_)
  intro ρ h0
  simp [s_18, r_18_0, r_18_1, r_18_2, h0]
  refine W_tfor (fun n ρ G => ρ 0 = v ∧ ρ 4 = .int .i64 (n : Int) ∧ ρ 3 = .int .i64 ((rowsN (l.take n) : Nat) : Int) ∧ rowsN (l.take n) ≤ 402 ∧ n ≤ 403 ∧ Ext H G ∧ anyB longL (l.take n) = false) l.length (by decide) (by simp [h0, anyB_nil, rowsN]) ?_
  clear h0 ρ
  rintro n ρ G hn1 ⟨g0, g4, g3, hb, hn2, hx, hpre⟩
  have k := h.mono monoPS hx
  have hn3 : n ≤ rowsN (l.take n) := by have := le_rowsN (l.take n); rw [List.length_take] at this; omega
  by_cases hlt : n < l.length
  · have hlt' : (n : Int) < (l.length : Int) := by omega
    by_cases h2 : rowsN (l.take n) ≤ 200
    · have h2' : ((rowsN (l.take n) : Nat) : Int) ≤ 200 := by omega
      simp [r_18_3, g0, g4, g3, k.slen, hlt, h2, h2']
      refine CTest.mk true (by simp [h2']) (fun _ => ⟨hlt, ?_⟩) (by simp)
      obtain ⟨w, hlw, kr⟩ := RowsV.load k hlt
      have hmn : mnxA false (.int .i64 (l[n].length : Int)) [.int .i64 201] = some (.int .i64 ((min l[n].length 201 : Nat) : Int)) := by
        simp only [mnxA, mn2, Bool.false_eq_true, if_false, Option.some.injEq, Value.int.injEq, true_and]
        split <;> omega
      have hw1 : IntKind.i64.wrap (((rowsN (l.take n) : Nat) : Int) + 1) = ((rowsN (l.take n) + 1 : Nat) : Int) := wrap_succ (by omega)
      have hs := rowsN_succ hlt
      have hw2 : IntKind.i64.wrap (((rowsN (l.take n) + 1 : Nat) : Int) + ((min l[n].length 201 : Nat) : Int)) = ((rowsN (l.take (n + 1)) : Nat) : Int) := by
        rw [wrap64 (by omega) (by omega), hs]; omega
      simp only [Int.natCast_add, Int.cast_ofNat_Int] at hw1 hw2
      simp [r_18_4, g0, g4, g3, k.ia hlt, hlw, kr.slen, hmn]
      simp [hw1]
      rw [hw2]
      have hyes : longL l[n] = true → anyB longL l = true := anyB_yes hlt
      have hb1 : anyB longL (l.take (n + 1)) = longL l[n] := by rw [anyB_succ hlt, hpre, Bool.false_or]
      have hwn := wrap_succ (show n < 4611686018427387904 by omega)
      by_cases hl2 : l[n].length ≤ 200
      · have hl2' : (l[n].length : Int) ≤ 200 := by omega
        simp [r_18_5, g0, g4, k.ia hlt, hlw, kr.slen, hl2, hl2']
        refine (Great2_does kr hx.1 (by omega)).mono ?_
        rintro _ G2 ⟨rfl, hx2⟩
        replace hx := hx.trans hx2
        cases hlo : anyB longR l[n] with
        | true => simp [r_18_6]
        | false =>
          simp
          unfold CEnd
          simp [r_18_7, g4, hwn]
          refine CNext.mk ⟨by simp [g0], by simp, by simp, by omega, by omega, hx, ?_⟩
          rw [hb1]; unfold longL; simp [hlo]
      · have hl2' : ¬ (l[n].length : Int) ≤ 200 := by omega
        simp [r_18_5, g0, g4, k.ia hlt, hlw, kr.slen, hl2, hl2']
        unfold CEnd
        simp [r_18_7, g4, hwn]
        refine CNext.mk ⟨by simp [g0], by simp, by simp, by omega, by omega, hx, ?_⟩
        rw [hb1]; unfold longL; simp [hl2]
    · have h2' : ¬ ((rowsN (l.take n) : Nat) : Int) ≤ 200 := by omega
      simp [r_18_3, g0, g4, g3, k.slen, hlt, h2, h2']
      refine CTest.mk false (by simp [h2']) (by simp) (fun _ => ?_)
      have h3 : (200 : Int) < ((rowsN (l.take n) : Nat) : Int) := by omega
      simp [r_18_8, g3, h3]
  · have he : n = l.length := by omega
    subst he
    simp [r_18_3, g0, g4, g3, k.slen]
    refine CTest.mk false (by simp) (by simp) (fun _ => ?_)
    rw [List.take_length] at hpre g3
    simp [r_18_8, g3]
    intro _
    by_cases h3 : rowsN l ≤ 200
    · exact .inl ⟨by omega, good_of h3 hpre⟩
    · exact .inr (by omega)

end Go.Proofs.YtjlohmnnldbjoaaGreat.AI

/- DomLattice: the law's walk. -/
namespace Go.Proofs.YtjlohmnnldbjoaaGreat.AI
open Go
set_option maxHeartbeats 4000000

variable {fl : Nat} {H G : Heap} {R : PostP} {u v w : Value}

theorem awake_none : env.code f_17 = none := by rfl
theorem awake_know : env.know f_17 [] = some (.bool true) := by rfl
theorem awake_does : Does env fl f_17 [] H (fun r H' => r = .bool true ∧ H' = H) R := ⟨1, by simp only [callA, awake_none, awake_know]; exact ⟨rfl, rfl⟩⟩

end Go.Proofs.YtjlohmnnldbjoaaGreat.AI

/- DomWithin: the law's walk. -/
namespace Go.Proofs.YtjlohmnnldbjoaaGreat.AI
open Go
set_option maxHeartbeats 4000000

variable {rows : List (List RawR)} {a b : List RawE} {x : List RawR} {r : List RawR} {e f : RawE} {q : Int × Rat}

variable {fl : Nat} {H G : Heap} {R : PostP} {u v w z : Value}

theorem RatsV.limR {l : List RawR} (h : RatsV H v l) (k : anyB longR l = false) : Few 6 l := by
  intro y hy
  obtain ⟨i, hi, rfl⟩ := List.getElem_of_mem hy
  obtain ⟨w, _, s, t, _, h1, h2⟩ := RatsV.load h hi
  have : longR l[i] = false := by
    cases hl : longR l[i] with
    | false => rfl
    | true => exact absurd (List.any_eq_true.2 ⟨_, hy, hl⟩) (by unfold anyB at k; rw [k]; decide)
  unfold longR at this
  simp at this
  exact ⟨by unfold lenR; omega, h1.ok, h2.ok⟩
theorem RowsV.few {l : List (List RawR)} (h : RowsV H v l) (k : goodL l) : ∀ r ∈ l, Few 6 r := by
  intro r hr
  obtain ⟨i, hi, rfl⟩ := List.getElem_of_mem hr
  obtain ⟨w, _, h1⟩ := RowsV.load h hi
  exact RatsV.limR h1 (k.2 _ hr).2
theorem rowsv_one {l : List RawR} {p : Nat} {ro : Bool} (hb : H.blk p = .row ro T_sl_api_Rat [v]) (h : RatsV H v l) : RowsV H (.slice (some ⟨p, 0, none⟩) 1 1) [l] := by
  refine ⟨[v], ⟨rfl, .inr ⟨p, 0, 1, ro, [v], rfl, hb, by simp, rfl⟩⟩, ?_⟩
  intro j hj
  have : j = 0 := by simpa using hj
  subst this
  exact ⟨v, rfl, h⟩
theorem TemplV.mono (h : TemplV H v rows) (hx : Ext H G) : TemplV G v rows := by
  obtain ⟨s, h1, h2⟩ := h; exact ⟨s, h1, h2.mono monoPS hx⟩

end Go.Proofs.YtjlohmnnldbjoaaGreat.AI

/- The reference's numbers: trim, May, norm, mk. -/
namespace Go.Proofs.YtjlohmnnldbjoaaGreat.AI
open Go
set_option maxHeartbeats 4000000

@[simp] theorem wantB_undef {w : Bool} : wantB w undef = false := nr rfl

variable {fl : Nat} {H G : Heap} {R : PostP} {v w : Value} {l : List Nat} {i : Bool × List Nat}

def newB (H : Heap) (r : Value) : Prop := ∀ q, slB r = some q → H.size ≤ q
theorem Own.newB {e sz n : Nat} {cs : List Value} (h : Own H.size G e sz v n cs) : AI.newB H v := by
  obtain ⟨_, ⟨rfl, _⟩ | ⟨b, cap, rfl, _, hb⟩⟩ := h
  · intro q hq; cases hq
  · intro q hq
    simp only [slB, Option.some.injEq] at hq
    omega
theorem newB.of {u : Value} (h : newB H v) (he : slB u = slB v) : newB H u := fun q hq => h q (by rw [← he]; exact hq)
theorem newB.ne {p : Nat} (h : newB H v) (hp : p < H.size) : slB v ≠ some p := fun he => by have := h p he; omega
theorem slB_slice {x y z : Option Value} {n : Nat} {u : Value} (h : sliceA n v x y z = some u) : slB u = slB v := by
  unfold sliceA at h
  split at h
  · rename_i p len cap
    split at h
    · split at h
      · split at h
        · simp only [Option.some.injEq] at h
          subst h
          cases p <;> rfl
        · split at h
          · split at h
            · simp only [Option.some.injEq] at h
              subst h
              cases p <;> rfl
            · cases h
          · cases h
      · cases h
    · cases h
  · cases h
theorem r1_trimB_does (h : Lim H v l) (hf : fl ≤ H.size) (hn : l.length < 4611686018427387904) : Does env fl f_107 [v] H (fun r H' => (Lim H' r (trimL l) ∧ slB r = slB v) ∧ Ext H H') R := by
  refine does_ext e_107 hf (h := ?_)
  intro ρ h0
  simp [s_107, r_107_0, r_107_1, h0, h.slen]
  refine W_loopM (fun k t G => G = H ∧ t.length = 21 ∧ get t 0 = v ∧ get t 3 = .int .i64 k ∧ k ≤ l.length ∧ trimL (l.take k) = trimL l)
    (fun t G => ∃ k : Nat, G = H ∧ t.length = 21 ∧ get t 0 = v ∧ get t 3 = .int .i64 k ∧ k ≤ l.length ∧ trimL l = l.take k) l.length (by simp [h0]) ?_ ?_
  · rintro k t G ⟨rfl, ht, g0, g3, hk, htr⟩
    obtain ⟨ρ, rfl⟩ := toT ht
    simp only [get_T, Nat.reduceLT] at g0 g3
    by_cases hk0 : k = 0
    · subst hk0
      simp [r_107_2, g0, g3]
      exact ⟨0, by simp, by simp, by rw [← htr]; rfl⟩
    · have hp : 0 < k := by omega
      have w1 : IntKind.i64.wrap ((k : Int) - 1) = ((k - 1 : Nat) : Int) := by rw [wrap64 (by omega) (by omega)]; omega
      simp [r_107_2, r_107_3, g0, g3, hp, w1, h.ia (show k - 1 < l.length by omega), h.load (show k - 1 < l.length by omega)]
      have hk1 : l.take k = l.take (k - 1) ++ [l.getD (k - 1) 0] := by rw [← take_succ_getD (by omega)]; congr 1; omega
      rw [List.getD_eq_getElem?_getD] at hk1
      refine ⟨fun hz => ⟨k - 1, by omega, rfl, by omega, ?_⟩, fun hz => ⟨k, rfl, hk, ?_⟩⟩
      · rw [← htr, hk1, hz, trimL_snoc0]
      · rw [← htr, hk1, trimL_snoc hz]
  · rintro t G ⟨k, rfl, ht, g0, g3, hk, htr⟩
    obtain ⟨ρ, rfl⟩ := toT ht
    simp only [get_T, Nat.reduceLT] at g0 g3
    obtain ⟨v', h1, h2⟩ := h.take hk (x := none) rfl (y := some (.int .i64 (k : Int))) (by simp)
    simp [r_107_4, g0, g3, h.elemOk, h1]
    rw [htr]; exact ⟨h2, slB_slice h1⟩
theorem r1_trim_does (h : Lim H v l) (hf : fl ≤ H.size) (hn : l.length < 4611686018427387904) : Does env fl f_107 [v] H (fun r H' => Lim H' r (trimL l) ∧ Ext H H') R := (r1_trimB_does h hf hn).mono fun _ _ h => ⟨h.1.1, h.2⟩

theorem r1_May_does (h : IntV H v i) (hf : fl ≤ H.size) (hn : i.2.length < 4611686018427387904) : Does env fl f_130 [v] H (fun r H' => r = .bool (mayB i) ∧ Ext H H') R := by
  obtain ⟨s, rfl, hs⟩ := h
  obtain ⟨bi, li⟩ := i
  simp only at hs hn ⊢
  refine does_ext e_130 hf (h := ?_)
  intro ρ h0
  simp [s_130, r_130_0, h0]
  generalize hG : Array.push H _ = G
  obtain ⟨hx2, b0⟩ := new0 hG
  have hx := Ext.refl H
  clear hG
  (try replace b0:=hx2.blk b0);(try replace hx := hx.trans hx2)
  have ks := hs.mono hx
  unfold mayB
  simp [r_130_1, h0, b0, ks.slen]
  by_cases hl : li.length = 0
  · have hnil : li = [] := by simpa using hl
    subst hnil
    cases bi <;> simp [r_130_2, b0]
  · have hp : 0 < li.length := by omega
    have hne : li ≠ [] := fun h => hl (by rw [h]; rfl)
    have w1 : IntKind.i64.wrap ((li.length : Int) - 1) = ((li.length - 1 : Nat) : Int) := by rw [wrap64 (by omega) (by omega)]; omega
    have hlt : li.length - 1 < li.length := by omega
    have h1 := ks.ia hlt (k := .i64)
    have h2 := ks.load hlt (Ext.refl _)
    have e1 : ((li.length : Int) = 0) = False := by simp; omega
    have e2 : ((0 : Int) < (li.length : Int)) = True := by simp; omega
    rw [List.getD_eq_getElem?_getD] at h2
    simp [hne, hp, r_130_2, b0, e1, e2, w1, h1, h2]

theorem set_b {G G3 : Heap} {q : Nat} {r : Blk} {ro : Bool} {cs : List Value} {s : Value} (hS : Array.setIfInBounds G q r = G3) (hx : Ext H G) (hs : Lim G s l) (hb : Heap.blk G q = .row ro T_api_Int cs) (hq : H.size ≤ q) :
    Lim G3 s l ∧ Ext H G3 ∧ Heap.blk G3 q = r := ⟨by rw [← hS]; exact hs.setT hb (by decide), set_ext hS hx hq, set_new hS hb⟩

theorem norm_eq (h : LimOk i.2) : (if mayB i then i else (false, [])) = canonI (valI i) := by
  cases hm : mayB i with
  | false => simp [valI, hm, canonI, digits_zero]
  | true =>
    have h1 := limbsL_eq h
    unfold limbsL at h1
    rw [hm] at h1
    have h2 := negB_eq i
    unfold negB at h2
    rw [hm] at h2
    simp at h1 h2
    simp only [if_true]
    exact Prod.ext (by rw [h2]; rfl) h1

theorem r1_norm_does (h : IntV H v i) (hf : fl ≤ H.size) (hn : i.2.length < 4611686018427387904) : Does env fl f_105 [v] H (fun r H' => IntV H' r (canonI (valI i)) ∧ Ext H H') R := by
  rw [← norm_eq h.ok]
  have k0 := h
  obtain ⟨s, rfl, hs⟩ := h
  refine does_ext e_105 hf (h := ?_)
  intro ρ h0
  simp [s_105, r_105_0, h0, hs.cells]
  generalize hG : Array.push (Array.push H _) _ = G
  have hx2 : Ext H G := by rw [← hG]; exact (Ext.refl H).push.push
  have b0 : Heap.blk G H.size = .row false T_api_Int [.bool i.1, s] := by rw [← hG]; simp
  have b1 : Heap.blk G (H.size + 1) = .row false T_api_Int [.bool false, .slice none 0 0] := by rw [← hG]; simp
  have hx := Ext.refl H
  clear hG
  (try replace b0:=hx2.blk b0);(try replace b1:=hx2.blk b1);(try replace b3:=hx2.blk b3);(try replace hx:=hx.trans hx2);(try replace k0 := k0.mono hx2)
  simp [r_105_1, b0]
  refine (r1_May_does k0 hx.1 hn).mono ?_
  rintro _ G2 ⟨rfl, hx2⟩
  (try replace b0:=hx2.blk b0);(try replace b1:=hx2.blk b1);(try replace b3:=hx2.blk b3);(try replace hx:=hx.trans hx2);(try replace k0 := k0.mono hx2)
  have hsz := hx.1
  have hlt := blk_lt b1
  cases hm : mayB i with
  | true =>
    obtain ⟨s', he, hs'⟩ := k0
    have : s' = s := by simpa using he.symm
    subst this
    simp [r_105_3, b0, b1, hs'.cells, hs'.plain, hsz]
    generalize hS : Array.setIfInBounds G2 _ _ = G3
    obtain ⟨kS, hx3, b3⟩ := set_b hS hx hs' b1 (by omega)
    simp [b3]
    exact fun _ => ⟨s', rfl, kS⟩
  | false =>
    simp [r_105_2, b0, b1, hsz]
    generalize hS : Array.setIfInBounds G2 _ _ = G3
    have b3 := set_new hS b1
    simp [b3]
    exact fun _ => ⟨.slice none 0 0, rfl, Lim.nil⟩

theorem r1_mk_does {b : Bool} (z : Int) (h : Lim H v l) (hf : fl ≤ H.size) (hn : l.length ≤ 1073741824) (hz : (if b then -(natL l : Int) else natL l) = z) :
    Does env fl f_76 [.bool b, v] H (fun r H' => IntV H' r (canonI z) ∧ Ext H H') R := by
  rw [← hz, ← mkI_eq h.ok]
  refine does_ext e_76 hf (h := ?_)
  intro ρ h0
  simp [s_76, r_76_0, r_76_1, h0]
  generalize hG : Array.push H _ = G
  obtain ⟨hx2, b0⟩ := new0 hG
  have hx := Ext.refl H
  clear hG
  (try replace b0:=hx2.blk b0);(try replace b3:=hx2.blk b3);(try replace b4:=hx2.blk b4);(try replace hx := hx.trans hx2)
  replace h := h.mono hx
  refine (r1_trim_does h hx.1 (by omega)).mono ?_
  rintro u G2 ⟨ht, hx2⟩
  (try replace b0:=hx2.blk b0);(try replace b3:=hx2.blk b3);(try replace b4:=hx2.blk b4);(try replace hx := hx.trans hx2)
  have hsz := hx.1
  simp
  by_cases hl : trimL l = []
  · have hk : mkI b l = (false, []) := by simp [mkI, hl]
    rw [hk]
    rw [hl] at ht
    simp [r_76_2, r_76_3, ht.slen, b0, hsz]
    generalize hS : Array.setIfInBounds G2 _ _ = G3
    have b3 := set_new hS b0
    simp [b3]
    exact fun _ => ⟨.slice none 0 0, rfl, Lim.nil⟩
  · have hk : mkI b l = (b, trimL l) := by simp [mkI, hl]
    rw [hk]
    have hl' : ¬ (trimL l).length = 0 := by simpa using hl
    have hle : (trimL l).length ≤ l.length := by
      rw [trimL_digits l h.ok]; exact digits_len (natL_lt l h.ok)
    simp [r_76_2, r_76_4, ht.slen, b0, hsz, hl, h0]
    have hx4 : Ext G2 (G2.push (.row false T_uint32 [])) := (Ext.refl G2).push
    have hlt := blk_lt b0
    obtain ⟨v', G', h1, h2, h3, h4⟩ := app_own (fl := H.size) (G := G2.push (.row false T_uint32 [])) (s := .slice (some ⟨G2.size, 0, none⟩) 0 0) (e := T_uint32) (cs := []) (sz := 1) (n := 0) (bytes := 4) (e2 := T_uint32)
      (Own.mk blk_push_self rfl hsz) (ht.mono hx4).1 plain_u32s (by omega) (by omega) (by omega) (by simp; omega)
    rw [Nat.zero_add, List.nil_append] at h2
    have b4 : G'.blk H.size = .row false T_api_Int [.bool false, .slice none 0 0] := by
      rw [h3.2 _ (by simp; omega) (by simp [slB]; omega)]
      exact hx4.blk b0
    have kL : Lim G' v' (trimL l) := ⟨h2.sl, ht.2⟩
    have hx5 : Ext H G' := h4 H (Nat.le_refl _) (hx.trans hx4)
    simp [h1, kL.cells, kL.plain, b4, writeL]
    generalize hS : Array.setIfInBounds G' _ _ = G3
    obtain ⟨kS, hx3, b3⟩ := set_b hS hx5 kL b4 (by omega)
    simp [b3]
    exact fun _ => ⟨v', rfl, kS⟩

end Go.Proofs.YtjlohmnnldbjoaaGreat.AI

/- The reference's limbs: cmp, add. -/
namespace Go.Proofs.YtjlohmnnldbjoaaGreat.AI
open Go
set_option maxHeartbeats 4000000

variable {fl : Nat} {H G : Heap} {R : PostP} {v w : Value} {a b : List Nat}

theorem r1_cmp_does (ha : Lim H v a) (hb : Lim H w b) (hf : fl ≤ H.size) (hna : a.length < 4611686018427387904) :
    Does env fl f_149 [v, w] H (fun r H' => r = .int .i64 (cmpL a b) ∧ Ext H H') R := by
  refine does_ext e_149 hf (h := ?_)
  intro ρ h0
  have w1 : IntKind.i64.wrap ((a.length : Int) - 1) = (a.length : Int) - 1 := wrap64 (by omega) (by omega)
  by_cases hab : a.length = b.length
  · have hab' : (a.length : Int) = (b.length : Int) := by omega
    simp [s_149, r_149_0, r_149_1, r_149_5, h0, ha.slen, hb.slen, hab]
    rw [← hab, w1]
    have hcl : cmpL a b = cmpZ (natL a) (natL b) := by simp [cmpL, hab]
    rw [hcl]
    refine W_loopM (fun k t G' => t.length = 41 ∧ get t 0 = v ∧ get t 1 = w ∧ get t 5 = .int .i64 ((k : Int) - 1) ∧ G' = H ∧ k ≤ a.length ∧ a.drop k = b.drop k)
      (fun t G' => t.length = 41 ∧ G' = H ∧ a = b) a.length (by simp [h0, hab]) ?_ ?_
    · clear h0 ρ
      rintro k t G' ⟨ht, g0, g1, g5, rfl, hk, hd⟩
      obtain ⟨ρ, rfl⟩ := toT ht
      simp only [get_T, Nat.reduceLT] at g0 g1 g5
      by_cases hk0 : k = 0
      · subst hk0
        simp [r_149_6, g0, g1, g5]
        simpa using hd
      · have e0 : (k : Int) - 1 = ((k - 1 : Nat) : Int) := by omega
        have hka : k - 1 < a.length := by omega
        have hkb : k - 1 < b.length := by omega
        have hla := ha.load hka (Ext.refl _)
        have hlb := hb.load hkb (Ext.refl _)
        have w2 : IntKind.i64.wrap (((k - 1 : Nat) : Int) - 1) = ((k - 1 : Nat) : Int) - 1 := wrap64 (by omega) (by omega)
        rw [e0] at g5
        have hla' := ha.ia (k := .i64) hka
        have hlb' := hb.ia (k := .i64) hkb
        have hh := natL_high hab ha.ok hb.ok hka (by rw [show k - 1 + 1 = k by omega]; exact hd)
        have hfin : a.getD (k - 1) 0 = b.getD (k - 1) 0 → a.drop (k - 1) = b.drop (k - 1) := by
          intro he
          rw [List.drop_eq_getElem_cons hka, List.drop_eq_getElem_cons hkb, show k - 1 + 1 = k by omega, hd]
          rw [List.getD_eq_getElem?_getD, List.getElem?_eq_getElem hka, List.getD_eq_getElem?_getD, List.getElem?_eq_getElem hkb] at he
          congr 1
        generalize a.getD (k - 1) 0 = A at hla hh hfin
        generalize b.getD (k - 1) 0 = B at hlb hh hfin
        simp [r_149_6, g0, g1, g5]
        refine W_draw ?_
        simp [r_149_7, g0, g1, g5, hla, hla', hlb, hlb']
        refine ⟨fun hlt => ?_, fun hnlt => ?_⟩
        · simp [r_149_8]
          rw [hh (by omega), cmpZ_cast, if_pos hlt]
        · refine W_draw ?_
          simp [r_149_9, g0, g1, g5, hla, hla', hlb, hlb']
          refine ⟨fun hlt => ?_, fun hge => ?_⟩
          · simp [r_149_10]
            rw [hh (by omega), cmpZ_cast, if_neg (by omega), if_pos hlt]
          · simp [r_149_11, g5, w2]
            exact ⟨k - 1, by omega, g0, g1, rfl, by omega, hfin (by omega)⟩
    · rintro t G' ⟨ht, rfl, hab2⟩
      obtain ⟨ρ, rfl⟩ := toT ht
      simp [r_149_12]
      rw [hab2]; simp [cmpZ]
  · have hab' : ¬ (a.length : Int) = (b.length : Int) := by omega
    have hcl : cmpL a b = cmpZ a.length b.length := by simp [cmpL, hab]
    rw [hcl, cmpZ_cast]
    by_cases hlt : a.length < b.length
    · have hlt' : (a.length : Int) < (b.length : Int) := by omega
      simp [s_149, r_149_0, r_149_1, r_149_2, r_149_3, h0, ha.slen, hb.slen, hab, hlt]
    · have hlt' : ¬ (a.length : Int) < (b.length : Int) := by omega
      have hgt : b.length < a.length := by omega
      simp [s_149, r_149_0, r_149_1, r_149_2, r_149_4, h0, ha.slen, hb.slen, hab, hlt, hgt]

theorem natL_take_any {l : List Nat} {n : Nat} : natL (l.take (n + 1)) = natL (l.take n) + 4294967296 ^ n * l.getD n 0 := by
  by_cases h : n < l.length
  · exact natL_take_succ h
  · rw [List.take_of_length_le (by omega), List.take_of_length_le (by omega), List.getD_eq_getElem?_getD, List.getElem?_eq_none (by omega)]; simp
theorem r1_add_does (ha : Lim H v a) (hb : Lim H w b) (hf : fl ≤ H.size) (hna : a.length < 1073741823) (hnb : b.length < 1073741823) :
    Does env fl f_148 [v, w] H (fun r H' => Lim H' r (digits (natL a + natL b)) ∧ Ext H H') R := by
  refine does_ext e_148 hf (h := ?_)
  intro ρ h0
  simp [s_148, r_148_0, r_148_1, r_148_2, r_148_3, h0]
  obtain ⟨N, hN⟩ : ∃ N, N = max a.length b.length := ⟨_, rfl⟩
  refine W_tfor (fun n ρ G => ρ 0 = v ∧ ρ 1 = w ∧ ρ 7 = .int .i64 (n : Int) ∧ ∃ c out, ρ 6 = .int .u64 ((c : Nat) : Int) ∧ Ext H G ∧ Own H.size G T_uint32 1 (ρ 5) n (u32s out) ∧ LimOk out ∧ out.length = n ∧ c ≤ 1 ∧ (n = N + 1 → c = 0) ∧
      natL out + 4294967296 ^ n * c = natL (a.take n) + natL (b.take n)) (N + 1) (by decide) ⟨by simp [h0], by simp [h0], by simp, 0, [], by simp, Ext.refl H, by simp; exact Own.nil, by intro x hx; simp at hx, rfl, by omega, by omega, by simp [natL]⟩ ?_
  clear h0 ρ
  rintro n ρ G hn1 ⟨g0, g1, g7, c, out, g6, hx, ho, hok, hol, hc, hc0, hs⟩
  have ka := ha.mono hx
  have kb := hb.mono hx
  have hA2 := natL_take_any (l := a) (n := n)
  have hB2 := natL_take_any (l := b) (n := n)
  have hA3 := getD_lt ha.ok n
  have hB3 := getD_lt hb.ok n
  have e9 := wrap_succ (show n < 4611686018427387904 by omega)
  by_cases hgo : n < a.length ∨ n < b.length ∨ 0 < c
  · have hnN : n < N + 1 := by
      rcases hgo with h | h | h
      · omega
      · omega
      · by_cases hz : n = N + 1
        · have := hc0 hz; omega
        · omega
    have htop : n = N → c + a.getD n 0 + b.getD n 0 < 4294967296 := by
      intro hz
      have h1 : a.getD n 0 = 0 := by rw [List.getD_eq_getElem?_getD, List.getElem?_eq_none (by omega)]; rfl
      have h2 : b.getD n 0 = 0 := by rw [List.getD_eq_getElem?_getD, List.getElem?_eq_none (by omega)]; rfl
      omega
    obtain ⟨s, g5⟩ : ∃ s, ρ 5 = s := ⟨_, rfl⟩
    rw [g5] at ho
    have hA : n < a.length → iaV 1 v (.int .i64 (n : Int)) = some (adr 1 v n) ∧ loadA G false 1 (adr 1 v n) = some (.int .u32 ((a.getD n 0 : Nat) : Int)) := fun h => ⟨ka.ia h, ka.load h (Ext.refl _)⟩
    have hB : n < b.length → iaV 1 w (.int .i64 (n : Int)) = some (adr 1 w n) ∧ loadA G false 1 (adr 1 w n) = some (.int .u32 ((b.getD n 0 : Nat) : Int)) := fun h => ⟨kb.ia h, kb.load h (Ext.refl _)⟩
    have hAz : ¬ n < a.length → a.getD n 0 = 0 := fun h => by rw [List.getD_eq_getElem?_getD, List.getElem?_eq_none (by omega)]; rfl
    have hBz : ¬ n < b.length → b.getD n 0 = 0 := fun h => by rw [List.getD_eq_getElem?_getD, List.getElem?_eq_none (by omega)]; rfl
    generalize a.getD n 0 = A at hA2 hA3 htop hA hAz
    generalize b.getD n 0 = B at hB2 hB3 htop hB hBz
    obtain ⟨c2, hc2⟩ : ∃ c2, c + A + B = c2 := ⟨_, rfl⟩
    have e3 : IntKind.u32.wrap ((c2 : Int)) = ((c2 % 4294967296 : Nat) : Int) := by rw [wrapu32]; omega
    rw [hc2] at htop
    obtain ⟨s', G3, h1, h2, h3, h4⟩ := app_lit (e2 := T_uint32) (new := [.int .u32 ((c2 % 4294967296 : Nat) : Int)]) (c := 1) (bytes := 4) ho rfl rfl (by omega) (by omega) (by omega) hx.1
    have hfin : natL (out ++ [c2 % 4294967296]) + 4294967296 ^ (n + 1) * (c2 / 4294967296) = natL (a.take (n + 1)) + natL (b.take (n + 1)) := by
      rw [natL_snoc, hol, hA2, hB2, Nat.pow_succ]
      have e3 : 4294967296 ^ n * 4294967296 * (c2 / 4294967296) = 4294967296 ^ n * (4294967296 * (c2 / 4294967296)) := Nat.mul_assoc ..
      have e4 : 4294967296 ^ n * (c2 % 4294967296) + 4294967296 ^ n * (4294967296 * (c2 / 4294967296)) = 4294967296 ^ n * c2 := by rw [← Nat.mul_add, Nat.mod_add_div]
      have e5 : 4294967296 ^ n * c2 = 4294967296 ^ n * c + 4294967296 ^ n * A + 4294967296 ^ n * B := by rw [← hc2, Nat.mul_add, Nat.mul_add]
      omega
    by_cases ia : n < a.length
    · obtain ⟨a1, a2⟩ := hA ia
      by_cases ib : n < b.length
      · obtain ⟨b1, b2⟩ := hB ib
        have hcp : True := trivial
        have e1 : IntKind.u64.wrap ((c : Int) + IntKind.u64.wrap (A : Int)) = ((c + A : Nat) : Int) := by rw [wrapu64, wrapu64]; omega
        have e2 : IntKind.u64.wrap (((c + A : Nat) : Int) + IntKind.u64.wrap (B : Int)) = (c2 : Int) := by rw [wrapu64, wrapu64]; omega
        simp [r_148_4, g0, g1, g7, g6, ka.slen, kb.slen, ia, ib]
        refine CTest.mk true (by simp [hcp]) (fun _ => ⟨hnN, ?_⟩) (by simp)
        simp [-Int.natCast_emod, -Int.natCast_add, r_148_5, r_148_6, r_148_7, r_148_8, r_148_9, r_148_10, r_148_11, g0, g1, g6, g7, ka.slen, kb.slen, ia,ib,a1,a2,b1,b2,e1,e2, e3, g5, h1]
        unfold CEnd
        simp [-Int.natCast_emod, -Int.natCast_add, r_148_12, g7, e9]
        refine CNext.mk ⟨by simp [g0], by simp [g1], by simp, c2 / 4294967296, by simp, h4 _ (Nat.le_refl _) hx, out ++ [c2 % 4294967296], by simpa [u32s] using h2, ?_, by simp [hol], by omega, fun hz => by have := htop (by omega); omega, hfin⟩
        intro x hx
        rcases List.mem_append.1 hx with hx | hx
        · exact hok x hx
        · simp at hx; omega
      · have hBn := hBz ib
        subst hBn
        have hcp : True := trivial
        have e1 : IntKind.u64.wrap ((c : Int) + IntKind.u64.wrap (A : Int)) = (c2 : Int) := by rw [wrapu64, wrapu64]; omega
        simp [r_148_4, g0, g1, g7, g6, ka.slen, kb.slen, ia, ib]
        refine CTest.mk true (by simp [hcp]) (fun _ => ⟨hnN, ?_⟩) (by simp)
        simp [-Int.natCast_emod, -Int.natCast_add, r_148_5, r_148_6, r_148_7, r_148_8, r_148_9, r_148_10, r_148_11, g0, g1, g6, g7, ka.slen, kb.slen, ia,ib,a1,a2,e1, e3, g5, h1]
        unfold CEnd
        simp [-Int.natCast_emod, -Int.natCast_add, r_148_12, g7, e9]
        refine CNext.mk ⟨by simp [g0], by simp [g1], by simp, c2 / 4294967296, by simp, h4 _ (Nat.le_refl _) hx, out ++ [c2 % 4294967296], by simpa [u32s] using h2, ?_, by simp [hol], by omega, fun hz => by have := htop (by omega); omega, hfin⟩
        intro x hx
        rcases List.mem_append.1 hx with hx | hx
        · exact hok x hx
        · simp at hx; omega
    · have hAn := hAz ia
      subst hAn
      by_cases ib : n < b.length
      · obtain ⟨b1, b2⟩ := hB ib
        have hcp : True := trivial
        have e2 : IntKind.u64.wrap ((c : Int) + IntKind.u64.wrap (B : Int)) = (c2 : Int) := by rw [wrapu64, wrapu64]; omega
        simp [r_148_4, g0, g1, g7, g6, ka.slen, kb.slen, ia, ib]
        refine CTest.mk true (by simp [hcp]) (fun _ => ⟨hnN, ?_⟩) (by simp)
        simp [-Int.natCast_emod, -Int.natCast_add, r_148_5, r_148_6, r_148_7, r_148_8, r_148_9, r_148_10, r_148_11, g0, g1, g6, g7, ka.slen, kb.slen, ia,ib,b1,b2,e2, e3, g5, h1]
        unfold CEnd
        simp [-Int.natCast_emod, -Int.natCast_add, r_148_12, g7, e9]
        refine CNext.mk ⟨by simp [g0], by simp [g1], by simp, c2 / 4294967296, by simp, h4 _ (Nat.le_refl _) hx, out ++ [c2 % 4294967296], by simpa [u32s] using h2, ?_, by simp [hol], by omega, fun hz => by have := htop (by omega); omega, hfin⟩
        intro x hx
        rcases List.mem_append.1 hx with hx | hx
        · exact hok x hx
        · simp at hx; omega
      · have hBn := hBz ib
        subst hBn
        have hcc : c = c2 := by omega
        have hcp : 0 < c2 := by omega
        rw [hcc] at g6
        simp [r_148_4, g0, g1, g7, g6, ka.slen, kb.slen, ia, ib, hcp]
        refine CTest.mk true (by simp [hcp]) (fun _ => ⟨hnN, ?_⟩) (by simp)
        simp [-Int.natCast_emod, -Int.natCast_add, r_148_5, r_148_6, r_148_7, r_148_8, r_148_9, r_148_10, r_148_11, g0, g1, g6, g7, ka.slen, kb.slen, ia,ib, e3, g5, h1]
        unfold CEnd
        simp [-Int.natCast_emod, -Int.natCast_add, r_148_12, g7, e9]
        refine CNext.mk ⟨by simp [g0], by simp [g1], by simp, c2 / 4294967296, by simp, h4 _ (Nat.le_refl _) hx, out ++ [c2 % 4294967296], by simpa [u32s] using h2, ?_, by simp [hol], by omega, fun hz => by have := htop (by omega); omega, hfin⟩
        intro x hx
        rcases List.mem_append.1 hx with hx | hx
        · exact hok x hx
        · simp at hx; omega
  · have h1 : ¬ n < a.length := by omega
    have h2 : ¬ n < b.length := by omega
    have h3 : c = 0 := by omega
    subst h3
    simp [r_148_4, g0, g1, g7, g6, ka.slen, kb.slen, h1, h2]
    refine CTest.mk false (by simp) (by simp) (fun _ => ?_)
    rw [List.take_of_length_le (by omega), List.take_of_length_le (by omega), Nat.mul_zero, Nat.add_zero] at hs
    obtain ⟨s, g5⟩ : ∃ s, ρ 5 = s := ⟨_, rfl⟩
    rw [g5] at ho
    simp [r_148_13, g5]
    refine (r1_trim_does (l := out) ⟨by rw [hol]; exact ho.sl, hok⟩ hx.1 (by omega)).mono ?_
    rintro r G2 ⟨ht, hx2⟩
    simp
    intro _
    rw [← hs, ← trimL_digits out hok]
    exact ht

end Go.Proofs.YtjlohmnnldbjoaaGreat.AI

/- The reference's limbs: twice. -/
namespace Go.Proofs.YtjlohmnnldbjoaaGreat.AI
open Go
set_option maxHeartbeats 4000000

variable {fl : Nat} {H G : Heap} {R : PostP} {v w : Value} {a b : List Nat}

theorem or_low {x c : Nat} (hx : x < 4294967296) (h2 : x % 2 = 0) (hc : c ≤ 1) : binA 0 .or (.int .u32 (x : Int)) (.int .u32 (c : Int)) = some (.int .u32 ((x + c : Nat) : Int)) := by
  rw [binA_or]
  have e1 : (BitVec.ofInt IntKind.u32.bits (x : Int) ||| BitVec.ofInt IntKind.u32.bits (c : Int)).toNat = x + c := by
    show (BitVec.ofInt 32 (x : Int) ||| BitVec.ofInt 32 (c : Int)).toNat = x + c
    rw [BitVec.toNat_or, BitVec.toNat_ofInt, BitVec.toNat_ofInt]
    have e2 : ((x : Int) % (2 ^ 32 : Nat)).toNat = x := by omega
    have e3 : ((c : Int) % (2 ^ 32 : Nat)).toNat = c := by omega
    rw [e2, e3]
    have := Nat.two_pow_add_eq_or_of_lt (i := 1) (b := c) (by omega) (x / 2)
    have e4 : 2 ^ 1 * (x / 2) = x := by omega
    rw [e4] at this
    exact this.symm
  rw [e1, wrapN32]
  congr 3
  omega

theorem r1_twiceB_does {o : Bool} (ha : Lim H v a) (hf : fl ≤ H.size) (hna : a.length < 1073741822) :
    Does env fl f_174 [v, .bool o] H (fun r H' => (Lim H' r (digits (2 * natL a + o.toNat)) ∧ newB H r) ∧ Ext H H') R := by
  refine does_ext e_174 hf (h := ?_)
  intro ρ h0
  simp [s_174, r_174_0, r_174_1, r_174_2, r_174_3, h0]
  cases o with
  | true =>
    simp [r_174_4, r_174_5]
    refine W_cfor (fun n ρ G => ρ 0 = v ∧ ρ 7 = .int .i64 (n : Int) ∧ ∃ c, ρ 6 = .int .u32 ((c : Nat) : Int) ∧ Ext H G ∧ ∃ out, Own H.size G T_uint32 1 (ρ 5) n (u32s out) ∧ LimOk out ∧ out.length = n ∧ c ≤ 1 ∧
        natL out + 4294967296 ^ n * c = 2 * natL (a.take n) + 1) a.length (by decide) ⟨by simp [h0], by simp, 1, by simp, Ext.refl H, [], by simp; exact Own.nil, by intro x hx; simp at hx, rfl, by omega, by simp [natL]⟩ ?_
    clear h0 ρ
    rintro n ρ G hn1 ⟨g0, g7, c, g6, hx, out, ho, hok, hol, hc, hs⟩
    have ka := ha.mono hx
    have e9 := wrap_succ (show n < 4611686018427387904 by omega)
    obtain ⟨s, g5⟩ : ∃ s, ρ 5 = s := ⟨_, rfl⟩
    rw [g5] at ho
    simp [r_174_6, g0, g7, ka.slen]
    refine CStep.mk (by simp) (fun hlt => ?_) (fun heq => ?_)
    · have hA2 := natL_take_succ hlt
      have hA3 := getD_lt ha.ok n
      have a1 := ka.ia hlt (k := .i64)
      have a2 := ka.load hlt (Ext.refl _)
      generalize a.getD n 0 = A at hA2 hA3 a2
      have q1 : binA 0 .shl (.int .u32 (A : Int)) (.int .u64 1) = some (.int .u32 ((A * 2 ^ 1 % 4294967296 : Nat) : Int)) := shl_u32 (s := 1) (by omega)
      have q2 := or_low (x := A * 2 ^ 1 % 4294967296) (c := c) (by omega) (by omega) hc
      have q3 : binA 0 .shr (.int .u32 (A : Int)) (.int .u64 31) = some (.int .u32 ((A / 2 ^ 31 : Nat) : Int)) := shr_u32 (s := 31) (by omega)
      obtain ⟨y, hy⟩ : ∃ y, A * 2 ^ 1 % 4294967296 + c = y := ⟨_, rfl⟩
      obtain ⟨y0, hy0⟩ : ∃ y0, A * 2 ^ 1 % 4294967296 = y0 := ⟨_, rfl⟩
      obtain ⟨c', hc'⟩ : ∃ c', A / 2 ^ 31 = c' := ⟨_, rfl⟩
      rw [hy] at q2
      rw [hy0] at q1 q2
      rw [hc'] at q3
      obtain ⟨s', G3, h1, h2, h3, h4⟩ := app_lit (e2 := T_uint32) (new := [.int .u32 (y : Int)]) (c := 1) (bytes := 4) ho rfl rfl (by omega) (by omega) (by omega) hx.1
      have hx3 := h4 _ (Nat.le_refl _) hx
      have kb := ha.mono hx3
      have b1 := kb.ia hlt (k := .i64)
      have b2 := kb.load hlt (Ext.refl _)
      have hfin : natL (out ++ [y]) + 4294967296 ^ (n + 1) * c' = 2 * natL (a.take (n + 1)) + 1 := by
        rw [natL_snoc, hol, hA2, Nat.pow_succ]
        have e3 : 4294967296 ^ n * 4294967296 * c' = 4294967296 ^ n * (4294967296 * c') := Nat.mul_assoc ..
        have e4 : y + 4294967296 * c' = c + 2 * A := by omega
        have e5 : 4294967296 ^ n * y + 4294967296 ^ n * (4294967296 * c') = 4294967296 ^ n * c + 4294967296 ^ n * (2 * A) := by rw [← Nat.mul_add, e4, Nat.mul_add]
        have e6 : 4294967296 ^ n * (2 * A) = 2 * (4294967296 ^ n * A) := by rw [Nat.mul_left_comm]
        omega
      have b2' : loadA G3 false 1 (adr 1 v n) = some (.int .u32 (A : Int)) := by
        rw [ka.load hlt (Ext.refl _)] at a2
        rw [b2]; exact a2
      simp [-Int.natCast_emod, -Int.natCast_add, -binA_or, r_174_7, r_174_8, g0, g5, g6, g7, a1, a2, q1, q2, q3, h1, b2']
      unfold CEnd
      simp [-Int.natCast_add, r_174_9, g7, e9]
      refine CNext.mk ⟨by simp [g0], by simp, c', by simp, hx3, out ++ [y], by simpa [u32s] using h2, ?_, by simp [hol], by omega, hfin⟩
      intro x hx
      rcases List.mem_append.1 hx with hx | hx
      · exact hok x hx
      · simp at hx; omega
    · subst heq
      rw [List.take_length] at hs
      obtain ⟨s', G3, h1, h2, h3, h4⟩ := app_lit (e2 := T_uint32) (new := [.int .u32 (c : Int)]) (c := 1) (bytes := 4) ho rfl rfl (by omega) (by omega) (by omega) hx.1
      have hx3 := h4 _ (Nat.le_refl _) hx
      simp [-Int.natCast_add, r_174_10, r_174_11, g5, g6, h1]
      have hok2 : LimOk (out ++ [c]) := by
        intro x hx
        rcases List.mem_append.1 hx with hx | hx
        · exact hok x hx
        · simp at hx; omega
      refine (r1_trimB_does (l := out ++ [c]) ⟨by have := h2.sl; simpa [hol, u32s] using this, hok2⟩ hx3.1 (by simp; omega)).mono ?_
      rintro r G2 ⟨⟨ht, hsb⟩, hx2⟩
      simp
      intro _
      rw [trimL_digits _ hok2, natL_snoc, hol, hs] at ht
      exact ⟨ht, (Own.newB h2).of hsb⟩
  | false =>
    simp [r_174_5]
    refine W_cfor (fun n ρ G => ρ 0 = v ∧ ρ 7 = .int .i64 (n : Int) ∧ ∃ c, ρ 6 = .int .u32 ((c : Nat) : Int) ∧ Ext H G ∧ ∃ out, Own H.size G T_uint32 1 (ρ 5) n (u32s out) ∧ LimOk out ∧ out.length = n ∧ c ≤ 1 ∧
        natL out + 4294967296 ^ n * c = 2 * natL (a.take n) + 0) a.length (by decide) ⟨by simp [h0], by simp, 0, by simp, Ext.refl H, [], by simp; exact Own.nil, by intro x hx; simp at hx, rfl, by omega, by simp [natL]⟩ ?_
    clear h0 ρ
    rintro n ρ G hn1 ⟨g0, g7, c, g6, hx, out, ho, hok, hol, hc, hs⟩
    have ka := ha.mono hx
    have e9 := wrap_succ (show n < 4611686018427387904 by omega)
    obtain ⟨s, g5⟩ : ∃ s, ρ 5 = s := ⟨_, rfl⟩
    rw [g5] at ho
    simp [r_174_6, g0, g7, ka.slen]
    refine CStep.mk (by simp) (fun hlt => ?_) (fun heq => ?_)
    · have hA2 := natL_take_succ hlt
      have hA3 := getD_lt ha.ok n
      have a1 := ka.ia hlt (k := .i64)
      have a2 := ka.load hlt (Ext.refl _)
      generalize a.getD n 0 = A at hA2 hA3 a2
      have q1 : binA 0 .shl (.int .u32 (A : Int)) (.int .u64 1) = some (.int .u32 ((A * 2 ^ 1 % 4294967296 : Nat) : Int)) := shl_u32 (s := 1) (by omega)
      have q2 := or_low (x := A * 2 ^ 1 % 4294967296) (c := c) (by omega) (by omega) hc
      have q3 : binA 0 .shr (.int .u32 (A : Int)) (.int .u64 31) = some (.int .u32 ((A / 2 ^ 31 : Nat) : Int)) := shr_u32 (s := 31) (by omega)
      obtain ⟨y, hy⟩ : ∃ y, A * 2 ^ 1 % 4294967296 + c = y := ⟨_, rfl⟩
      obtain ⟨y0, hy0⟩ : ∃ y0, A * 2 ^ 1 % 4294967296 = y0 := ⟨_, rfl⟩
      obtain ⟨c', hc'⟩ : ∃ c', A / 2 ^ 31 = c' := ⟨_, rfl⟩
      rw [hy] at q2
      rw [hy0] at q1 q2
      rw [hc'] at q3
      obtain ⟨s', G3, h1, h2, h3, h4⟩ := app_lit (e2 := T_uint32) (new := [.int .u32 (y : Int)]) (c := 1) (bytes := 4) ho rfl rfl (by omega) (by omega) (by omega) hx.1
      have hx3 := h4 _ (Nat.le_refl _) hx
      have kb := ha.mono hx3
      have b1 := kb.ia hlt (k := .i64)
      have b2 := kb.load hlt (Ext.refl _)
      have hfin : natL (out ++ [y]) + 4294967296 ^ (n + 1) * c' = 2 * natL (a.take (n + 1)) + 0 := by
        rw [natL_snoc, hol, hA2, Nat.pow_succ]
        have e3 : 4294967296 ^ n * 4294967296 * c' = 4294967296 ^ n * (4294967296 * c') := Nat.mul_assoc ..
        have e4 : y + 4294967296 * c' = c + 2 * A := by omega
        have e5 : 4294967296 ^ n * y + 4294967296 ^ n * (4294967296 * c') = 4294967296 ^ n * c + 4294967296 ^ n * (2 * A) := by rw [← Nat.mul_add, e4, Nat.mul_add]
        have e6 : 4294967296 ^ n * (2 * A) = 2 * (4294967296 ^ n * A) := by rw [Nat.mul_left_comm]
        omega
      have b2' : loadA G3 false 1 (adr 1 v n) = some (.int .u32 (A : Int)) := by
        rw [ka.load hlt (Ext.refl _)] at a2
        rw [b2]; exact a2
      simp [-Int.natCast_emod, -Int.natCast_add, -binA_or, r_174_7, r_174_8, g0, g5, g6, g7, a1, a2, q1, q2, q3, h1, b2']
      unfold CEnd
      simp [-Int.natCast_add, r_174_9, g7, e9]
      refine CNext.mk ⟨by simp [g0], by simp, c', by simp, hx3, out ++ [y], by simpa [u32s] using h2, ?_, by simp [hol], by omega, hfin⟩
      intro x hx
      rcases List.mem_append.1 hx with hx | hx
      · exact hok x hx
      · simp at hx; omega
    · subst heq
      rw [List.take_length] at hs
      obtain ⟨s', G3, h1, h2, h3, h4⟩ := app_lit (e2 := T_uint32) (new := [.int .u32 (c : Int)]) (c := 1) (bytes := 4) ho rfl rfl (by omega) (by omega) (by omega) hx.1
      have hx3 := h4 _ (Nat.le_refl _) hx
      simp [-Int.natCast_add, r_174_10, r_174_11, g5, g6, h1]
      have hok2 : LimOk (out ++ [c]) := by
        intro x hx
        rcases List.mem_append.1 hx with hx | hx
        · exact hok x hx
        · simp at hx; omega
      refine (r1_trimB_does (l := out ++ [c]) ⟨by have := h2.sl; simpa [hol, u32s] using this, hok2⟩ hx3.1 (by simp; omega)).mono ?_
      rintro r G2 ⟨⟨ht, hsb⟩, hx2⟩
      simp
      intro _
      rw [trimL_digits _ hok2, natL_snoc, hol, hs] at ht
      exact ⟨ht, (Own.newB h2).of hsb⟩

end Go.Proofs.YtjlohmnnldbjoaaGreat.AI

/- The reference's limbs: sub. -/
namespace Go.Proofs.YtjlohmnnldbjoaaGreat.AI
open Go
set_option maxHeartbeats 4000000

variable {fl : Nat} {H G : Heap} {R : PostP} {v w : Value} {a b : List Nat}

theorem limb_store {p z x : Nat} {L : List Nat} (hb : G.blk p = .row false T_uint32 (u32s L)) (hf : fl ≤ p) (hz : z < L.length) :
    storeV fl G 1 (.pointer (some ⟨p, z, none⟩)) (.int .u32 (x : Int)) = some (G.setIfInBounds p (.row false T_uint32 (u32s (L.set z x)))) := by
  have h1 : cellsL (.int .u32 (x : Int)) = [.int .u32 (x : Int)] := rfl
  rw [store_cells hb hf (by rw [h1]; rfl) (by simp; omega) (by rw [h1]; rfl), h1, u32s_set]
  simp [writeL]

theorem copy_own {n : Nat} {s : Value} (h : Own fl G T_uint32 1 s n (u32s a)) (hn : n = a.length) (h0 : 0 < a.length) : ∃ p cap, s = .slice (some ⟨p, 0, none⟩) a.length cap ∧ G.blk p = .row false T_uint32 (u32s a) ∧ fl ≤ p := by
  obtain ⟨hl, ⟨_, h1⟩ | ⟨b, cap, h1, h2, h3⟩⟩ := h
  · omega
  · exact ⟨b, cap, by rw [← hn]; exact h1, h2, h3⟩

theorem r1_subB_does (ha : Lim H v a) (hb : Lim H w b) (hf : fl ≤ H.size) (hna : a.length < 1073741824) (hle : b.length ≤ a.length) (hnat : natL b ≤ natL a) (h0a : 0 < a.length) :
    Does env fl f_150 [v, w] H (fun r H' => (Lim H' r (digits (natL a - natL b)) ∧ newB H r) ∧ Ext H H') R := by
  refine does_ext e_150 hf (h := ?_)
  intro ρ h0
  have hx4 : Ext H (H.push (.row false T_uint32 [])) := (Ext.refl H).push
  obtain ⟨v', G', h1, h2, h3, h4⟩ := app_own (fl := H.size) (G := H.push (.row false T_uint32 [])) (s := .slice (some ⟨H.size, 0, none⟩) 0 0) (e := T_uint32) (cs := []) (sz := 1) (n := 0) (bytes := 4) (e2 := T_uint32)
    (Own.mk blk_push_self rfl (Nat.le_refl _)) (ha.mono hx4).1 plain_u32s (by omega) (by omega) (by omega) (by simp)
  rw [Nat.zero_add, List.nil_append] at h2
  obtain ⟨p, cap, rfl, hbp, hp⟩ := copy_own h2 rfl h0a
  have hx5 : Ext H G' := h4 H (Nat.le_refl _) hx4
  simp [s_150, r_150_0, r_150_1, r_150_2, r_150_3, h0, h1]
  refine W_cfor (fun n ρ G => ρ 1 = w ∧ ρ 5 = .slice (some ⟨p, 0, none⟩) a.length cap ∧ ρ 7 = .int .i64 (n : Int) ∧ ∃ c, ρ 6 = .int .u64 ((c : Nat) : Int) ∧ Ext H G ∧ ∃ L, Heap.blk G p = .row false T_uint32 (u32s L) ∧ L.length = a.length ∧ LimOk L ∧ (∀ j, n ≤ j → L.getD j 0 = a.getD j 0) ∧ c ≤ 1 ∧
      natL (L.take n) + natL (b.take n) = natL (a.take n) + 4294967296 ^ n * c) a.length (by decide) ⟨by simp [h0], by simp, by simp, 0, by simp, hx5, a, hbp, rfl, ha.ok, fun _ _ => rfl, by omega, by simp [natL]⟩ ?_
  clear h0 ρ h1 h2 h3 h4 hbp hx5 hx4 G'
  rintro n ρ G hn1 ⟨g1, g5, g7, c, g6, hx, L, hbp, hL, hok, hrest, hc, hs⟩
  have e9 := wrap_succ (show n < 4611686018427387904 by omega)
  have hsl : slenV (.slice (some ⟨p, 0, none⟩) a.length cap) = some (.int .i64 (a.length : Int)) := rfl
  simp [r_150_4, g5, g7, hsl]
  refine CStep.mk (by simp) (fun hlt => ?_) (fun heq => ?_)
  · have kb := hb.mono hx
    have hnL : n < L.length := by omega
    obtain ⟨o1, o2⟩ := own_load (k := .i64) (cap := cap) hbp hnL hL
    have hA2 := natL_take_succ hlt
    have hB2 := natL_take_any (l := b) (n := n)
    have hA3 := getD_lt ha.ok n
    have hB3 := getD_lt hb.ok n
    rw [hrest n (Nat.le_refl _)] at o2
    have hB : n < b.length → iaV 1 w (.int .i64 (n : Int)) = some (adr 1 w n) ∧ loadA G false 1 (adr 1 w n) = some (.int .u32 ((b.getD n 0 : Nat) : Int)) := fun h => ⟨kb.ia h, kb.load h (Ext.refl _)⟩
    have hBz : ¬ n < b.length → b.getD n 0 = 0 := fun h => by rw [List.getD_eq_getElem?_getD, List.getElem?_eq_none (by omega)]; rfl
    generalize a.getD n 0 = A at hA2 hA3 o2
    generalize b.getD n 0 = B at hB2 hB3 hB hBz
    obtain ⟨S, hS⟩ : ∃ S, c + B = S := ⟨_, rfl⟩
    have eA : IntKind.u64.wrap (A : Int) = (A : Int) := by rw [wrapu64]; omega
    by_cases ib : n < b.length
    · obtain ⟨b1, b2⟩ := hB ib
      have e2 : IntKind.u64.wrap ((c : Int) + IntKind.u64.wrap (B : Int)) = (S : Int) := by rw [wrapu64, wrapu64]; omega
      simp [-Int.natCast_add, r_150_5, r_150_6, r_150_7, g1, g6, g7, kb.slen, ib, b1, b2, e2]
      by_cases hge : S ≤ A
      · have q1 : IntKind.u64.wrap ((A : Int) - (S : Int)) = ((A - S : Nat) : Int) := by rw [wrapu64]; omega
        have q2 : IntKind.u32.wrap (((A - S : Nat) : Int)) = ((A - S : Nat) : Int) := by rw [wrapu32]; omega
        have hst := limb_store (fl := H.size) (x := A - S) hbp hp hnL
        simp [-Int.natCast_add, r_150_8, r_150_9, r_150_10, g1, g5, g6, g7, o1, o2, eA, hge, q1, q2, hst]
        have hfin : natL ((L.set n (A-S)).take (n + 1)) + natL (b.take (n + 1)) = natL (a.take (n + 1)) + 4294967296 ^ (n + 1) * 0 := by
          rw [natL_take_set hnL, hA2, hB2, Nat.pow_succ]
          have e3 : 4294967296 ^ n * 4294967296 * 0 = 4294967296 ^ n * (4294967296 * 0) := Nat.mul_assoc ..
          have e4 : (A-S) + c + B = A + 4294967296 * 0 := by omega
          have e5 : 4294967296 ^ n * (A-S) + 4294967296 ^ n * c + 4294967296 ^ n * B = 4294967296 ^ n * A + 4294967296 ^ n * (4294967296 * 0) := by rw [← Nat.mul_add, ← Nat.mul_add, e4, Nat.mul_add]
          omega
        unfold CEnd
        simp [-Int.natCast_add, r_150_13, g7, e9]
        exact CNext.mk ⟨by simp [g1], by simp [g5], by simp, 0, by simp, hx.set hp, L.set n (A-S), blk_set_self (blk_lt hbp), by simp [hL], LimOk_set hok (by omega), fun j hj => by have h := (getD_set_ne' (l := L) (z := A-S) (show n ≠ j by omega)).trans (hrest j (by omega)); rw [List.getD_eq_getElem?_getD, List.getD_eq_getElem?_getD] at h; exact h, by omega, hfin⟩
      · have hge' : A < S := by omega
        have q0 : IntKind.u64.wrap ((A : Int) + 4294967296) = ((A + 4294967296 : Nat) : Int) := by rw [wrapu64]; omega
        have q1 : IntKind.u64.wrap (((A + 4294967296 : Nat) : Int) - (S : Int)) = ((A + 4294967296 - S : Nat) : Int) := by rw [wrapu64]; omega
        have q2 : IntKind.u32.wrap (((A + 4294967296 - S : Nat) : Int)) = ((A + 4294967296 - S : Nat) : Int) := by rw [wrapu32]; omega
        have hst := limb_store (fl := H.size) (x := A + 4294967296 - S) hbp hp hnL
        simp [-Int.natCast_add, r_150_8, r_150_11, r_150_12, g1, g5, g6, g7, o1, o2, eA, hge, hge', q0, q1, q2, hst]
        have hfin : natL ((L.set n (A+4294967296-S)).take (n + 1)) + natL (b.take (n + 1)) = natL (a.take (n + 1)) + 4294967296 ^ (n + 1) * 1 := by
          rw [natL_take_set hnL, hA2, hB2, Nat.pow_succ]
          have e3 : 4294967296 ^ n * 4294967296 * 1 = 4294967296 ^ n * (4294967296 * 1) := Nat.mul_assoc ..
          have e4 : (A+4294967296-S) + c + B = A + 4294967296 * 1 := by omega
          have e5 : 4294967296 ^ n * (A+4294967296-S) + 4294967296 ^ n * c + 4294967296 ^ n * B = 4294967296 ^ n * A + 4294967296 ^ n * (4294967296 * 1) := by rw [← Nat.mul_add, ← Nat.mul_add, e4, Nat.mul_add]
          omega
        unfold CEnd
        simp [-Int.natCast_add, r_150_13, g7, e9]
        exact CNext.mk ⟨by simp [g1], by simp [g5], by simp, 1, by simp, hx.set hp, L.set n (A+4294967296-S), blk_set_self (blk_lt hbp), by simp [hL], LimOk_set hok (by omega), fun j hj => by have h := (getD_set_ne' (l := L) (z := A+4294967296-S) (show n ≠ j by omega)).trans (hrest j (by omega)); rw [List.getD_eq_getElem?_getD, List.getD_eq_getElem?_getD] at h; exact h, by omega, hfin⟩
    · have hBn := hBz ib
      have hcS : c = S := by omega
      rw [hcS] at g6
      simp [-Int.natCast_add, r_150_5, r_150_6, g1, g6, g7, kb.slen, ib]
      by_cases hge : S ≤ A
      · have q1 : IntKind.u64.wrap ((A : Int) - (S : Int)) = ((A - S : Nat) : Int) := by rw [wrapu64]; omega
        have q2 : IntKind.u32.wrap (((A - S : Nat) : Int)) = ((A - S : Nat) : Int) := by rw [wrapu32]; omega
        have hst := limb_store (fl := H.size) (x := A - S) hbp hp hnL
        simp [-Int.natCast_add, r_150_8, r_150_9, r_150_10, g1, g5, g6, g7, o1, o2, eA, hge, q1, q2, hst]
        have hfin : natL ((L.set n (A-S)).take (n + 1)) + natL (b.take (n + 1)) = natL (a.take (n + 1)) + 4294967296 ^ (n + 1) * 0 := by
          rw [natL_take_set hnL, hA2, hB2, Nat.pow_succ]
          have e3 : 4294967296 ^ n * 4294967296 * 0 = 4294967296 ^ n * (4294967296 * 0) := Nat.mul_assoc ..
          have e4 : (A-S) + c + B = A + 4294967296 * 0 := by omega
          have e5 : 4294967296 ^ n * (A-S) + 4294967296 ^ n * c + 4294967296 ^ n * B = 4294967296 ^ n * A + 4294967296 ^ n * (4294967296 * 0) := by rw [← Nat.mul_add, ← Nat.mul_add, e4, Nat.mul_add]
          omega
        unfold CEnd
        simp [-Int.natCast_add, r_150_13, g7, e9]
        exact CNext.mk ⟨by simp [g1], by simp [g5], by simp, 0, by simp, hx.set hp, L.set n (A-S), blk_set_self (blk_lt hbp), by simp [hL], LimOk_set hok (by omega), fun j hj => by have h := (getD_set_ne' (l := L) (z := A-S) (show n ≠ j by omega)).trans (hrest j (by omega)); rw [List.getD_eq_getElem?_getD, List.getD_eq_getElem?_getD] at h; exact h, by omega, hfin⟩
      · have hge' : A < S := by omega
        have q0 : IntKind.u64.wrap ((A : Int) + 4294967296) = ((A + 4294967296 : Nat) : Int) := by rw [wrapu64]; omega
        have q1 : IntKind.u64.wrap (((A + 4294967296 : Nat) : Int) - (S : Int)) = ((A + 4294967296 - S : Nat) : Int) := by rw [wrapu64]; omega
        have q2 : IntKind.u32.wrap (((A + 4294967296 - S : Nat) : Int)) = ((A + 4294967296 - S : Nat) : Int) := by rw [wrapu32]; omega
        have hst := limb_store (fl := H.size) (x := A + 4294967296 - S) hbp hp hnL
        simp [-Int.natCast_add, r_150_8, r_150_11, r_150_12, g1, g5, g6, g7, o1, o2, eA, hge, hge', q0, q1, q2, hst]
        have hfin : natL ((L.set n (A+4294967296-S)).take (n + 1)) + natL (b.take (n + 1)) = natL (a.take (n + 1)) + 4294967296 ^ (n + 1) * 1 := by
          rw [natL_take_set hnL, hA2, hB2, Nat.pow_succ]
          have e3 : 4294967296 ^ n * 4294967296 * 1 = 4294967296 ^ n * (4294967296 * 1) := Nat.mul_assoc ..
          have e4 : (A+4294967296-S) + c + B = A + 4294967296 * 1 := by omega
          have e5 : 4294967296 ^ n * (A+4294967296-S) + 4294967296 ^ n * c + 4294967296 ^ n * B = 4294967296 ^ n * A + 4294967296 ^ n * (4294967296 * 1) := by rw [← Nat.mul_add, ← Nat.mul_add, e4, Nat.mul_add]
          omega
        unfold CEnd
        simp [-Int.natCast_add, r_150_13, g7, e9]
        exact CNext.mk ⟨by simp [g1], by simp [g5], by simp, 1, by simp, hx.set hp, L.set n (A+4294967296-S), blk_set_self (blk_lt hbp), by simp [hL], LimOk_set hok (by omega), fun j hj => by have h := (getD_set_ne' (l := L) (z := A+4294967296-S) (show n ≠ j by omega)).trans (hrest j (by omega)); rw [List.getD_eq_getElem?_getD, List.getD_eq_getElem?_getD] at h; exact h, by omega, hfin⟩
  · subst heq
    rw [List.take_of_length_le (by omega), List.take_of_length_le hle, List.take_length] at hs
    have hLlt := natL_lt L hok
    rw [hL] at hLlt
    have hc0 : c = 0 := by
      rcases Nat.eq_zero_or_pos c with h | h
      · exact h
      · have : c = 1 := by omega
        subst this
        omega
    subst hc0
    simp [r_150_14, g5]
    refine (r1_trimB_does (l := L) ⟨⟨by simp, .inr ⟨p, 0, cap, false, u32s L, by rw [hL], hbp, by simp, by rw [List.drop_zero, Nat.mul_one, ← length_u32s (l := L), List.take_length]⟩⟩, hok⟩ hx.1 (by omega)).mono ?_
    rintro r G2 ⟨⟨ht, hsb⟩, hx2⟩
    simp
    intro _
    rw [trimL_digits _ hok, show natL L = natL a - natL b by omega] at ht
    refine ⟨ht, fun q hq => ?_⟩
    rw [hsb] at hq
    simp only [slB, Option.some.injEq] at hq
    omega

theorem r1_sub_does (ha : Lim H v a) (hb : Lim H w b) (hf : fl ≤ H.size) (hna : a.length < 1073741824) (hle : b.length ≤ a.length) (hnat : natL b ≤ natL a) (h0a : 0 < a.length) :
    Does env fl f_150 [v, w] H (fun r H' => Lim H' r (digits (natL a - natL b)) ∧ Ext H H') R := (r1_subB_does ha hb hf hna hle hnat h0a).mono fun _ _ h => ⟨h.1.1, h.2⟩

end Go.Proofs.YtjlohmnnldbjoaaGreat.AI

/- The reference's limbs: mul. -/
namespace Go.Proofs.YtjlohmnnldbjoaaGreat.AI
open Go
set_option maxHeartbeats 4000000

variable {fl : Nat} {H G : Heap} {R : PostP} {v w : Value} {a b : List Nat}

theorem natL_zeros : ∀ n, natL (List.replicate n 0) = 0
  | 0 => rfl
  | n + 1 => by rw [List.replicate_succ, natL, natL_zeros n]
theorem u32s_zeros (n : Nat) : u32s (List.replicate n 0) = repl [.int .u32 0] n := by
  unfold u32s
  induction n with
  | zero => rfl
  | succ n ih => simp only [List.replicate_succ, List.map_cons, ih]; rfl

theorem r1_mul_does (ha : Lim H v a) (hb : Lim H w b) (hf : fl ≤ H.size) (hna : a.length < 536870912) (hnb : b.length < 536870912) :
    Does env fl f_106 [v, w] H (fun r H' => Lim H' r (digits (natL a * natL b)) ∧ Ext H H') R := by
  refine does_ext e_106 hf (h := ?_)
  intro ρ h0
  have w1 : IntKind.i64.wrap ((a.length : Int) + (b.length : Int)) = ((a.length + b.length : Nat) : Int) := by rw [wrap64 (by omega) (by omega)]; omega
  have hm := mkVZ (bytes := 4) (k := .i64) (k' := .i64) (l := ((a.length + b.length : Nat) : Int)) (c := ((a.length + b.length : Nat) : Int)) (by omega) (by omega) (by omega) (by omega)
  simp [-Int.natCast_add, s_106, r_106_0, r_106_1, r_106_2, h0, ha.slen, hb.slen, w1, hm]
  rw [← u32s_zeros]
  generalize hN : a.length + b.length = N
  generalize hG : Array.push H _ = G0
  obtain ⟨hx0, b0⟩ := new0 hG
  clear hG
  refine W_cfor (fun n ρ G => ρ 0 = v ∧ ρ 1 = w ∧ ρ 5 = .slice (some ⟨H.size, 0, none⟩) N N ∧ ρ 6 = .int .i64 (n : Int) ∧ Ext H G ∧ ∃ o, Heap.blk G H.size = .row false T_uint32 (u32s o) ∧ o.length = N ∧ LimOk o ∧ natL o = natL (a.take n) * natL b ∧ ∀ q, n + b.length ≤ q → o.getD q 0 = 0)
    a.length (by decide) ⟨by simp [h0], by simp [h0], by simp, by simp, hx0, List.replicate N 0, b0, by simp, by intro x hx; simp at hx; omega, by simp [natL, natL_zeros], fun q _ => by simp [List.getD_eq_getElem?_getD, List.getElem?_replicate]; split <;> rfl⟩ ?_
  clear h0 ρ w1 hm b0 hx0 G0
  rintro i ρ G hn1 ⟨g0, g1, g5, g6, hx, o, hbo, hol, hok, hs, hz⟩
  have ka := ha.mono hx
  have e8 := wrap_succ (show i < 4611686018427387904 by omega)
  simp [r_106_3, g0, g6, ka.slen]
  refine CStep.mk (by simp) (fun hlt => ?_) (fun heq => ?_)
  · have hA2 := natL_take_succ hlt
    have hA3 := getD_lt ha.ok i
    have a1 := ka.ia hlt (k := .i64)
    have aL : ∀ G2, Ext H G2 → loadA G2 false 1 (adr 1 v i) = some (.int .u32 ((a.getD i 0 : Nat) : Int)) := fun G2 h => ha.load hlt h
    generalize a.getD i 0 = U at hA2 hA3 aL
    simp [r_106_4, r_106_5]
    refine W_cfor (fun q ρ G => ρ 0 = v ∧ ρ 1 = w ∧ ρ 5 = .slice (some ⟨H.size, 0, none⟩) N N ∧ ρ 6 = .int .i64 (i : Int) ∧ ρ 8 = .int .i64 (q : Int) ∧ ∃ c, ρ 7 = .int .u64 ((c : Nat) : Int) ∧ Ext H G ∧ ∃ o, Heap.blk G H.size = .row false T_uint32 (u32s o) ∧ o.length = N ∧ LimOk o ∧ c < 4294967296 ∧
        natL o + 4294967296 ^ (i + q) * c = natL (a.take i) * natL b + 4294967296 ^ i * (U * natL (b.take q)) ∧ ∀ q, i + b.length ≤ q → o.getD q 0 = 0)
      b.length (by decide) ⟨by simp [g0], by simp [g1], by simp [g5], by simp [g6], by simp, 0, by simp, hx, o, hbo, hol, hok, by omega, by simp [hs, natL], hz⟩ ?_
    clear g0 g1 g5 g6 hx hbo hol hok hs hz ka o G ρ
    rintro q ρ G hq1 ⟨g0, g1, g5, g6, g8, c, g7, hx, o, hbo, hol, hok, hc, hs, hz⟩
    have kb := hb.mono hx
    have ka := ha.mono hx
    have e9 := wrap_succ (show q < 4611686018427387904 by omega)
    simp [r_106_6, g1, g8, kb.slen]
    refine CStep.mk (by simp) (fun hq => ?_) (fun heq => ?_)
    · have hB2 := natL_take_succ hq
      have hB3 := getD_lt hb.ok q
      have b1 := kb.ia hq (k := .i64)
      have b2 := kb.load hq (Ext.refl _)
      have a2 := aL G hx
      generalize b.getD q 0 = V at hB2 hB3 b2
      have hlo : i + q < o.length := by omega
      obtain ⟨hio, hro⟩ := own_load (k := .i64) (cap := N) hbo hlo hol
      have hset := natL_set o (i + q) ((c + (U * V + o.getD (i + q) 0)) % 4294967296) hlo
      have hW3 := getD_lt hok (i + q)
      generalize o.getD (i + q) 0 = Wd at hro hset hW3
      have hUV : U * V ≤ 4294967295 * 4294967295 := Nat.mul_le_mul (by omega) (by omega)
      have e1 : IntKind.u64.wrap (U : Int) = (U : Int) := by rw [wrapu64]; omega
      have e2 : IntKind.u64.wrap (V : Int) = (V : Int) := by rw [wrapu64]; omega
      have e3 : IntKind.u64.wrap (Wd : Int) = (Wd : Int) := by rw [wrapu64]; omega
      have e4 : IntKind.u64.wrap ((U : Int) * (V : Int)) = ((U * V : Nat) : Int) := by rw [wrapu64, ← Int.natCast_mul]; omega
      have e5 : IntKind.u64.wrap (((U * V : Nat) : Int) + (Wd : Int)) = ((U * V + Wd : Nat) : Int) := by rw [wrapu64]; omega
      have e7 : IntKind.i64.wrap ((i : Int) + (q : Int)) = ((i + q : Nat) : Int) := by rw [wrap64 (by omega) (by omega)]; omega
      obtain ⟨c1, hc1⟩ : ∃ c1, c + (U * V + Wd) = c1 := ⟨_, rfl⟩
      have e6 : IntKind.u64.wrap (((U * V + Wd : Nat) : Int) + (c : Int)) = (c1 : Int) := by rw [wrapu64]; omega
      rw [hc1] at hset
      have q2 : IntKind.u32.wrap ((c1 : Int)) = ((c1 % 4294967296 : Nat) : Int) := by rw [wrapu32]; omega
      have hst := limb_store (fl := H.size) (x := c1 % 4294967296) hbo (Nat.le_refl _) hlo
      simp
      refine W_draw ?_
      simp [-Int.natCast_add, -Int.natCast_mul, -Int.natCast_emod, -Int.natCast_ediv, r_106_7, r_106_8, r_106_9, g0, g1, g5, g6, g7, g8, a1, a2, b1, b2, e1, e2, e3, e4, e5, e6, e7, hio, hro, q2, hst]
      unfold CEnd
      simp [-Int.natCast_add, r_106_10, g8, e9]
      refine CNext.mk ⟨by simp [g0], by simp [g1], by simp [g5], by simp [g6], by simp, c1 / 4294967296, by simp, hx.set (Nat.le_refl _), o.set (i + q) (c1 % 4294967296), blk_set_self (blk_lt hbo), by simp [hol], LimOk_set hok (by omega), by omega, ?_, ?_⟩
      · have f1 : 4294967296 ^ (i + (q + 1)) * (c1 / 4294967296) = 4294967296 ^ (i + q) * (4294967296 * (c1 / 4294967296)) := by
          rw [show i + (q + 1) = i + q + 1 by omega, Nat.pow_succ, Nat.mul_assoc]
        have f2 : 4294967296 ^ (i + q) * (c1 % 4294967296) + 4294967296 ^ (i + q) * (4294967296 * (c1 / 4294967296)) = 4294967296 ^ (i + q) * c1 := by rw [← Nat.mul_add, Nat.mod_add_div]
        have f3 : 4294967296 ^ (i + q) * c1 = 4294967296 ^ (i + q) * c + (4294967296 ^ (i + q) * (U * V) + 4294967296 ^ (i + q) * Wd) := by rw [← hc1, Nat.mul_add, Nat.mul_add]
        have f4 : 4294967296 ^ i * (U * (natL (List.take q b) + 4294967296 ^ q * V)) = 4294967296 ^ i * (U * natL (List.take q b)) + 4294967296 ^ (i + q) * (U * V) := by
          rw [Nat.mul_add, Nat.mul_add, Nat.pow_add]
          congr 1
          rw [Nat.mul_assoc, Nat.mul_left_comm U]
        rw [hB2, f4, f1]
        omega
      · intro r hr
        have := hz r hr
        have h := (getD_set_ne' (l := o) (z := c1 % 4294967296) (show i + q ≠ r by omega)).trans this
        rw [List.getD_eq_getElem?_getD] at h; exact h
    · subst heq
      have hlo : i + b.length < o.length := by omega
      obtain ⟨hio, hro⟩ := own_load (k := .i64) (cap := N) hbo hlo hol
      have hset := natL_set o (i + b.length) (c % 4294967296) hlo
      rw [hz _ (Nat.le_refl _)] at hset
      have e7 : IntKind.i64.wrap ((i : Int) + (b.length : Int)) = ((i + b.length : Nat) : Int) := by rw [wrap64 (by omega) (by omega)]; omega
      have q2 : IntKind.u32.wrap ((c : Int)) = (c : Int) := by rw [wrapu32]; omega
      have hst := limb_store (fl := H.size) (x := c) hbo (Nat.le_refl _) hlo
      simp [-Int.natCast_add, r_106_11, g1, g5, g6, g7, kb.slen, e7, q2, hio, hst]
      unfold CEnd
      simp [-Int.natCast_add, r_106_12, g6, e8]
      refine CNext.mk ⟨by simp [g0], by simp [g1], by simp [g5], by simp, hx.set (Nat.le_refl _), o.set (i + b.length) c, blk_set_self (blk_lt hbo), by simp [hol], LimOk_set hok (by omega), ?_, ?_⟩
      · rw [Nat.mod_eq_of_lt hc] at hset
        rw [hA2, Nat.add_mul, Nat.mul_assoc]
        rw [List.take_length] at hs
        omega
      · intro r hr
        have := hz r (by omega)
        have h := (getD_set_ne' (l := o) (z := c) (show i + b.length ≠ r by omega)).trans this
        rw [List.getD_eq_getElem?_getD] at h; exact h
  · subst heq
    rw [List.take_length] at hs
    simp [r_106_13, g5]
    refine (r1_trim_does (l := o) ⟨⟨by simp, .inr ⟨H.size, 0, N, false, u32s o, by rw [hol], hbo, by simp, by rw [List.drop_zero, Nat.mul_one, ← length_u32s (l := o), List.take_length]⟩⟩, hok⟩ hx.1 (by omega)).mono ?_
    rintro r G2 ⟨ht, hx2⟩
    simp
    intro _
    rw [trimL_digits _ hok, hs] at ht
    exact ht

end Go.Proofs.YtjlohmnnldbjoaaGreat.AI

/- The reference's limbs: divmod, bit by bit. -/
namespace Go.Proofs.YtjlohmnnldbjoaaGreat.AI
open Go
set_option maxHeartbeats 4000000

variable {fl : Nat} {H G : Heap} {R : PostP} {v w : Value} {a b : List Nat}

theorem W_tforE {E : Env} {nt tc b b2 : Nat} {body : SCode} {rx rc : List SOper} {Q : PostX} {ρ : Nat → Value} (Inv : Nat → (Nat → Value) → Heap → Prop) (n : Nat) (htc : tc < nt) (hI : Inv 0 ρ H)
    (step : ∀ i ρ G, i ≤ n → Inv i ρ G → WR E fl rc (T nt ρ) G (CTest E fl nt tc b b2 body rx (fun t H => Q .normal t H) Q R n i Inv) R) :
    W E fl (.loop (.seq (.seq (.reg rc) (.cond (.tmp tc) .skip (.exit b))) (.seq (.block b2 body) (.reg rx)))) (T nt ρ) H (blockW b Q) R := by
  have h := W_tfor (Z := fun t H => Q .normal t H) (Q := Q) Inv n htc hI step
  rwa [thenW_same] at h

theorem and_one {x : Nat} (hx : x < 4294967296) : binA 0 .and (.int .u32 (x : Int)) (.int .u32 1) = some (.int .u32 ((x % 2 : Nat) : Int)) := by
  have h0 : binA 0 .and (.int .u32 (x : Int)) (.int .u32 1) = some (.int .u32 (IntKind.u32.wrap (BitVec.ofInt IntKind.u32.bits (x : Int) &&& BitVec.ofInt IntKind.u32.bits 1).toNat)) := by unfold binA; simp
  rw [h0]
  have e1 : (BitVec.ofInt IntKind.u32.bits (x : Int) &&& BitVec.ofInt IntKind.u32.bits 1).toNat = x % 2 := by
    show (BitVec.ofInt 32 (x : Int) &&& BitVec.ofInt 32 1).toNat = x % 2
    rw [BitVec.toNat_and, BitVec.toNat_ofInt, BitVec.toNat_ofInt]
    have e2 : ((x : Int) % (2 ^ 32 : Nat)).toNat = x := by omega
    have e3 : ((1 : Int) % (2 ^ 32 : Nat)).toNat = 1 := by decide
    rw [e2, e3, Nat.and_one_is_mod]
  rw [e1, wrapN32]
  congr 3
  omega

theorem or_bit {x k : Nat} (hk : k < 32) (hx : x < 4294967296) (h2 : x % 2 ^ (k + 1) = 0) : x + 2 ^ k < 4294967296 ∧ binA 0 .or (.int .u32 (x : Int)) (.int .u32 ((2 ^ k : Nat) : Int)) = some (.int .u32 ((x + 2 ^ k : Nat) : Int)) := by
  have hp : 2 ^ k < 2 ^ (k + 1) := Nat.pow_lt_pow_right (by omega) (by omega)
  obtain ⟨y, rfl⟩ := Nat.dvd_of_mod_eq_zero h2
  have hle : 2 ^ (k + 1) * (y + 1) ≤ 4294967296 := by
    have e : (4294967296 : Nat) = 2 ^ (k + 1) * 2 ^ (31 - k) := by rw [← Nat.pow_add, show k + 1 + (31 - k) = 32 by omega]
    rw [e] at hx ⊢
    exact Nat.mul_le_mul_left _ (Nat.lt_of_mul_lt_mul_left hx)
  have hlt : 2 ^ (k + 1) * y + 2 ^ k < 4294967296 := by rw [Nat.mul_add] at hle; omega
  refine ⟨hlt, ?_⟩
  have hor := Nat.two_pow_add_eq_or_of_lt hp y
  rw [binA_or]
  have e1 : (BitVec.ofInt IntKind.u32.bits ((2 ^ (k + 1) * y : Nat) : Int) ||| BitVec.ofInt IntKind.u32.bits ((2 ^ k : Nat) : Int)).toNat = 2 ^ (k + 1) * y + 2 ^ k := by
    show (BitVec.ofInt 32 ((2 ^ (k + 1) * y : Nat) : Int) ||| BitVec.ofInt 32 ((2 ^ k : Nat) : Int)).toNat = _
    rw [BitVec.toNat_or, BitVec.toNat_ofInt, BitVec.toNat_ofInt]
    rw [hor]
    generalize 2 ^ (k + 1) * y = x at *
    generalize 2 ^ k = z at *
    have e2 : ((x : Int) % (2 ^ 32 : Nat)).toNat = x := by omega
    have e3 : ((z : Int) % (2 ^ 32 : Nat)).toNat = z := by omega
    rw [e2, e3]
  rw [e1, wrapN32, Nat.mod_eq_of_lt hlt]

theorem bit_step {X B R t : Nat} (hB : 0 < B) (hR : X % B = R) (ht : t < 2) : (2 * R + t < B → (2 * X + t) / B = 2 * (X / B) ∧ (2 * X + t) % B = 2 * R + t) ∧ (B ≤ 2 * R + t → (2 * X + t) / B = 2 * (X / B) + 1 ∧ (2 * X + t) % B = 2 * R + t - B) := by
  have h1 := Nat.div_add_mod X B
  rw [hR] at h1
  have hRB : R < B := by rw [← hR]; exact Nat.mod_lt _ hB
  have e : 2 * X + t = B * (2 * (X / B)) + (2 * R + t) := by rw [Nat.mul_left_comm]; omega
  constructor
  · intro h
    rw [e, Nat.mul_add_div hB, Nat.mul_add_mod, Nat.div_eq_of_lt h, Nat.mod_eq_of_lt h]
    exact ⟨rfl, rfl⟩
  · intro h
    have hlt2 : 2 * R + t - B < B := by omega
    have e2 : 2 * X + t = B * (2 * (X / B)) + B + (2 * R + t - B) := by omega
    rw [← Nat.mul_succ] at e2
    rw [e2, Nat.mul_add_div hB, Nat.mul_add_mod, Nat.div_eq_of_lt hlt2, Nat.mod_eq_of_lt hlt2]
    exact ⟨rfl, rfl⟩
theorem half_bits (A k : Nat) : A / 2 ^ k = 2 * (A / 2 ^ (k + 1)) + A / 2 ^ k % 2 := by
  rw [Nat.pow_succ, ← Nat.div_div_eq_div_mul]; omega

theorem r1_divmod_does {A B : Nat} (ha : Lim H v (digits A)) (hb : Lim H w (digits B)) (hB : 0 < B) (hf : fl ≤ H.size) (hna : (digits A).length < 536870912) (hnb : (digits B).length < 536870912) :
    Does env fl f_156 [v, w] H (fun r H' => (∃ x y, r = .tuple #[x, y] ∧ Lim H' x (digits (A / B)) ∧ Lim H' y (digits (A % B))) ∧ Ext H H') R := by
  refine does_ext e_156 hf (h := ?_)
  intro ρ h0
  simp [s_156, r_156_0, r_156_1, h0]
  refine (r1_cmp_does ha hb (Nat.le_refl _) (by omega)).mono ?_
  rintro _ G ⟨rfl, hx⟩
  rw [cmpL_digits, cmpZ_cast]
  by_cases hlt : A < B
  · simp [hlt, r_156_2, h0]
    refine fun _ => ⟨.slice none 0 0, v, ⟨rfl, rfl⟩, ?_, ?_⟩
    · rw [Nat.div_eq_of_lt hlt, digits_zero]; exact Lim.nil
    · rw [Nat.mod_eq_of_lt hlt]; exact ha.mono hx
  have hnn : ¬ (if B < A then (1 : Int) else 0) < 0 := by split <;> decide
  obtain ⟨a, hA⟩ : ∃ a, a = digits A := ⟨_, rfl⟩
  rw [← hA] at ha hna
  have hAn : natL a = A := by rw [hA, natL_digits]
  have hm := mkVZ (bytes := 4) (k := .i64) (k' := .i64) (l := (a.length : Int)) (c := (a.length : Int)) (by omega) (by omega) (by omega) (by omega)
  have w1 : IntKind.i64.wrap ((a.length : Int) - 1) = (a.length : Int) - 1 := wrap64 (by omega) (by omega)
  have ka := ha.mono hx
  simp [hlt, hnn, h0, r_156_3, r_156_4, r_156_5, ka.slen, hm, w1]
  rw [← u32s_zeros]
  generalize hG : Array.push G _ = G0
  obtain ⟨hx2, b0⟩ := new0 hG
  clear hG
  have hx0 := hx.trans hx2
  have hP := hx.1
  generalize Array.size G = p at b0 hP
  refine W_tfor (fun n ρ G => ρ 0 = v ∧ ρ 1 = w ∧ ρ 6 = .slice (some ⟨p, 0, none⟩) a.length a.length ∧ ρ 8 = .int .i64 ((a.length : Int) - 1 - n) ∧ n ≤ a.length ∧ Ext H G ∧ Lim G (ρ 7) (digits (natL (a.drop (a.length - n)) % B)) ∧
      ∃ o, Heap.blk G p = .row false T_uint32 (u32s o) ∧ o.length = a.length ∧ LimOk o ∧ natL o = 4294967296 ^ (a.length - n) * (natL (a.drop (a.length - n)) / B) ∧ ∀ t, t < a.length - n → o.getD t 0 = 0)
    a.length (by decide) ⟨by simp [h0], by simp [h0], by simp, by simp, by omega, hx0, by simp [natL, digits_zero]; exact Lim.nil, List.replicate a.length 0, b0, by simp, by intro x hx; simp at hx; omega, by simp [natL, natL_zeros], fun t _ => by simp [List.getD_eq_getElem?_getD, List.getElem?_replicate]; split <;> rfl⟩ ?_
  clear h0 ρ hm b0 hx0 hx2 hx ka w1 G G0 hnn
  rintro n ρ G hn1 ⟨g0, g1, g6, g8, hn, hx, hr, o, hbo, hol, hok, hs, hz⟩
  by_cases hnl : n < a.length
  · obtain ⟨i, hi⟩ : ∃ i, a.length - n = i + 1 := ⟨a.length - n - 1, by omega⟩
    have hil : i < a.length := by omega
    have g8' : ρ 8 = .int .i64 (i : Int) := by rw [g8]; congr 1; omega
    have e8 : IntKind.i64.wrap ((i : Int) - 1) = (a.length : Int) - 1 - ((n + 1 : Nat) : Int) := by rw [wrap64 (by omega) (by omega)]; omega
    rw [hi] at hr hs hz
    have hdr := natL_drop hil
    have hA3 := getD_lt ha.ok i
    have aL : ∀ G2, Ext H G2 → loadA G2 false 1 (adr 1 v i) = some (.int .u32 ((a.getD i 0 : Nat) : Int)) := fun G2 h => ha.load hil h
    generalize a.getD i 0 = U at hdr hA3 aL
    generalize natL (a.drop (i + 1)) = D at hdr hr hs
    simp [r_156_6, g8']
    refine CTest.mk true (by simp) (fun _ => ⟨hnl, ?_⟩) (by simp)
    simp [r_156_7]
    refine W_tforE (fun q ρ G => ρ 0 = v ∧ ρ 1 = w ∧ ρ 6 = .slice (some ⟨p, 0, none⟩) a.length a.length ∧ ρ 8 = .int .i64 (i : Int) ∧ ρ 9 = .int .i64 ((31 : Int) - q) ∧ q ≤ 32 ∧ Ext H G ∧ Lim G (ρ 7) (digits ((D * 2 ^ q + U / 2 ^ (32 - q)) % B)) ∧
        ∃ o, Heap.blk G p = .row false T_uint32 (u32s o) ∧ o.length = a.length ∧ LimOk o ∧ natL o = 4294967296 ^ i * (2 ^ (32 - q) * ((D * 2 ^ q + U / 2 ^ (32 - q)) / B)) ∧ (∀ t, t < i → o.getD t 0 = 0) ∧ o.getD i 0 % 2 ^ (32 - q) = 0)
      32 (by decide) ?_ ?_
    · have hU : U / 2 ^ 32 = 0 := Nat.div_eq_of_lt (by omega)
      refine ⟨by simp [g0], by simp [g1], by simp [g6], by simp [g8'], by simp, by omega, hx, ?_, o, hbo, hol, hok, ?_, fun t ht => hz t (by omega), ?_⟩
      · rw [Nat.sub_zero, hU, Nat.pow_zero, Nat.mul_one, Nat.add_zero]; simpa using hr
      · rw [Nat.sub_zero, hU, Nat.pow_zero, Nat.mul_one, Nat.add_zero, hs, Nat.pow_succ, Nat.mul_assoc]
      · rw [hz i (by omega)]
    clear g0 g1 g6 g8 g8' hx hr hbo hol hok hs hz o G ρ
    rintro q ρ G hq1 ⟨g0, g1, g6, g8, g9, hq2, hx, hr, o, hbo, hol, hok, hs, hz, hbit⟩
    by_cases hq : q < 32
    · obtain ⟨k, hk⟩ : ∃ k, 32 - q = k + 1 := ⟨31 - q, by omega⟩
      have g9' : ρ 9 = .int .i64 (k : Int) := by rw [g9]; congr 1; omega
      have e9 : IntKind.i64.wrap ((k : Int) - 1) = (31 : Int) - ((q + 1 : Nat) : Int) := by rw [wrap64 (by omega) (by omega)]; omega
      have hk2 : 32 - (q + 1) = k := by omega
      have ek : IntKind.u64.wrap (k : Int) = (k : Int) := by rw [wrapu64]; omega
      have ka := ha.mono hx
      have a1 := ka.ia hil (k := .i64)
      have a2 := aL G hx
      have hsh : binA 0 .shr (.int .u32 (U : Int)) (.int .u64 (k : Int)) = some (.int .u32 ((U / 2 ^ k : Nat) : Int)) := shr_u32 (by omega)
      have hUk : U / 2 ^ k < 4294967296 := Nat.lt_of_le_of_lt (Nat.div_le_self _ _) hA3
      have han := and_one hUk
      have hhb := half_bits U k
      rw [hk] at hr hs hbit
      obtain ⟨X, hX⟩ : ∃ X, D * 2 ^ q + U / 2 ^ (k + 1) = X := ⟨_, rfl⟩
      have hXs : D * 2 ^ (q + 1) + U / 2 ^ k = 2 * X + U / 2 ^ k % 2 := by
        have : D * 2 ^ (q + 1) = 2 * (D * 2 ^ q) := by rw [Nat.pow_succ, ← Nat.mul_assoc, Nat.mul_comm]
        omega
      rw [hX] at hr hs
      obtain ⟨bt, hbt⟩ : ∃ bt, U / 2 ^ k % 2 = bt := ⟨_, rfl⟩
      rw [hbt] at han hXs
      have hbt2 : bt < 2 := by omega
      obtain ⟨Uk, hUK⟩ : ∃ Uk, U / 2 ^ k = Uk := ⟨_, rfl⟩
      rw [hUK] at hsh han hXs hUk hhb hbt
      have hst := bit_step (X := X) hB rfl hbt2
      have hRB : X % B < B := Nat.mod_lt _ hB
      obtain ⟨r0, g7⟩ : ∃ r0, ρ 7 = r0 := ⟨_, rfl⟩
      rw [g7] at hr
      have hlenR : (digits (X % B)).length ≤ (digits B).length := digits_mono (Nat.le_of_lt hRB)
      have hbn : ((bt : Int) == 1).toNat = bt := by
        have : bt = 0 ∨ bt = 1 := by omega
        rcases this with h | h <;> rw [h] <;> rfl
      simp [r_156_8, g9']
      refine CTest.mk true (by simp) (fun _ => ⟨hq, ?_⟩) (by simp)
      simp [r_156_9, g0, g7, g8, g9', a1, a2, ek, hsh, han]
      refine (r1_twiceB_does hr hx.1 (by omega)).mono ?_
      rintro r1 G1 ⟨⟨hr1, hn1'⟩, hx2⟩
      have hnp1 := hn1'.ne (blk_lt hbo)
      rw [natL_digits, hbn] at hr1
      replace hx := hx.trans hx2
      replace hbo := hx2.blk hbo
      have kb := hb.mono hx
      obtain ⟨R', hR'⟩ : ∃ R', 2 * (X % B) + bt = R' := ⟨_, rfl⟩
      rw [hR'] at hr1
      have hlen : (digits R').length ≤ (digits B).length + 1 := by
        refine digits_len ?_
        have := lt_digits B
        rw [Nat.pow_succ]
        omega
      rw [hR'] at hst
      simp [r_156_10, g1]
      refine (r1_cmp_does hr1 kb hx.1 (by omega)).mono ?_
      rintro _ G2 ⟨rfl, hx2⟩
      rw [cmpL_digits, cmpZ_cast]
      replace hx := hx.trans hx2
      replace hbo := hx2.blk hbo
      replace kb := kb.mono hx2
      replace hr1 := hr1.mono hx2
      have hiL : i < o.length := by omega
      by_cases hge : B ≤ R'
      · have hc1 : ¬ R' < B := by omega
        have hc2 : ((0 : Int) ≤ if B < R' then 1 else 0) := by split <;> decide
        obtain ⟨d1, d2⟩ := hst.2 hge
        simp [hc1, hc2, r_156_11, g1]
        refine (r1_subB_does hr1 kb hx.1 (by omega) (digits_mono hge) (by rw [natL_digits, natL_digits]; exact hge) (by
          rcases Nat.eq_zero_or_pos (digits R').length with h | h
          · have := digits_eq_nil.1 (List.length_eq_zero_iff.1 h); omega
          · exact h)).mono ?_
        rintro r2 G3 ⟨⟨hr2, hn2'⟩, hx2⟩
        have hnp2 := hn2'.ne (blk_lt hbo)
        rw [natL_digits, natL_digits] at hr2
        replace hx := hx.trans hx2
        replace hbo := hx2.blk hbo
        obtain ⟨o1, o2⟩ := own_load (k := .i64) (cap := a.length) hbo hiL hol
        have hol3 := getD_lt hok i
        have hset := natL_set o i (o.getD i 0 + 2 ^ k) hiL
        generalize hy : o.getD i 0 = y at o2 hol3 hset hbit
        obtain ⟨hy1, hor⟩ := or_bit (by omega) hol3 hbit
        have hsl : binA 0 .shl (.int .u32 1) (.int .u64 (k : Int)) = some (.int .u32 ((2 ^ k : Nat) : Int)) := by
          have h := shl_u32 (tag := 0) (n := 1) (s := k) (k' := .u64) (by omega)
          have h2 : 1 * 2 ^ k % 4294967296 = 2 ^ k := by rw [Nat.one_mul]; exact Nat.mod_eq_of_lt (by omega)
          rw [h2] at h; exact h
        have hsto := limb_store (fl := H.size) (x := y + 2 ^ k) hbo hP hiL
        have hyb : (y + 2 ^ k) % 2 ^ k = 0 := by
          obtain ⟨z, hz⟩ := Nat.dvd_of_mod_eq_zero hbit
          rw [hz, Nat.pow_succ, Nat.mul_assoc, Nat.add_mod_right, Nat.mul_mod_right]
        have hpk : 2 ^ (k + 1) = 2 * 2 ^ k := by rw [Nat.pow_succ, Nat.mul_comm]
        obtain ⟨K, hpk'⟩ : ∃ K, K = 2 ^ k := ⟨_, rfl⟩
        rw [← hpk'] at hy1 hor hsl hsto hyb hset hpk
        have hbo' := hbo
        have hmodK : ∀ y, y % K = 0 → True := fun _ _ => trivial
        simp [-Int.natCast_add, -binA_or, r_156_12, g6, g8, g9', o1, o2, ek, hsl, hor, hsto]
        unfold CEnd
        simp [-Int.natCast_add, r_156_13, g9', e9]
        refine CNext.mk ⟨by simp [g0], by simp [g1], by simp [g6], by simp [g8], by simp, by omega, hx.set hP, ?_, o.set i (y + K), blk_set_self (blk_lt hbo), by simp [hol], LimOk_set hok hy1, ?_, ?_, ?_⟩
        · rw [hk2, hUK, hXs, d2]
          simp
          exact Lim.off hr2 (ExtB.refl.set) hnp2
        · rw [hk2, hUK, hXs, d1, ← hpk']
          rw [hs, hpk] at hset
          have f1 : 4294967296 ^ i * (K * (2 * (X / B) + 1)) = 4294967296 ^ i * (2 * K * (X / B)) + 4294967296 ^ i * K := by
            rw [← Nat.mul_add]; congr 1; rw [Nat.mul_add, Nat.mul_one]; congr 1; rw [Nat.mul_left_comm, Nat.mul_assoc]
          rw [Nat.mul_add] at hset
          omega
        · intro t ht
          have h := (getD_set_ne' (l := o) (z := y + K) (show i ≠ t by omega)).trans (hz t ht)
          rw [List.getD_eq_getElem?_getD] at h; exact h
        · rw [hk2, ← hpk', List.getElem?_set_self hiL]; exact hyb
      · obtain ⟨d1, d2⟩ := hst.1 (by omega)
        have hc1 : R' < B := by omega
        have hpk : 2 ^ (k + 1) = 2 * 2 ^ k := by rw [Nat.pow_succ, Nat.mul_comm]
        simp [hc1]
        unfold CEnd
        simp [-Int.natCast_add, r_156_13, g9', e9]
        refine CNext.mk ⟨by simp [g0], by simp [g1], by simp [g6], by simp [g8], by simp, by omega, hx, ?_, o, hbo, hol, hok, ?_, ?_, ?_⟩
        · rw [hk2, hUK, hXs, d2]
          simp
          exact hr1
        · rw [hk2, hUK, hXs, d1, hs, hpk]
          congr 1
          rw [Nat.mul_left_comm, Nat.mul_assoc]
        · intro t ht
          have h := hz t ht
          rw [List.getD_eq_getElem?_getD] at h; exact h
        · rw [hk2]
          obtain ⟨z, hz2⟩ := Nat.dvd_of_mod_eq_zero hbit
          rw [List.getD_eq_getElem?_getD] at hz2
          rw [hz2, Nat.pow_succ, Nat.mul_assoc, Nat.mul_mod_right]
    · have hq3 : q = 32 := by omega
      subst hq3
      rw [Nat.sub_self, Nat.pow_zero, Nat.div_one, Nat.one_mul] at hs
      rw [Nat.sub_self, Nat.pow_zero, Nat.div_one] at hr
      have hD : D * 2 ^ 32 + U = natL (a.drop i) := by rw [hdr]; omega
      rw [hD] at hr hs
      simp [r_156_8, g9]
      refine CTest.mk false (by simp) (by simp) (fun _ => ?_)
      unfold CEnd
      simp [-Int.natCast_add, r_156_14, g8, e8]
      have hi2 : a.length - (n + 1) = i := by omega
      refine CNext.mk ⟨by simp [g0], by simp [g1], by simp [g6], by simp, by omega, hx, by rw [hi2]; simpa using hr, o, hbo, hol, hok, by rw [hi2]; exact hs, fun t ht => ?_⟩
      have h := hz t (by omega)
      rw [List.getD_eq_getElem?_getD] at h; exact h
  · have hn2 : n = a.length := by omega
    subst hn2
    rw [Nat.sub_self, List.drop_zero, hAn] at hr hs
    rw [Nat.pow_zero, Nat.one_mul] at hs
    simp [r_156_6, g8]
    refine CTest.mk false (by simp; omega) (by simp) (fun _ => ?_)
    obtain ⟨r0, g7⟩ : ∃ r0, ρ 7 = r0 := ⟨_, rfl⟩
    rw [g7] at hr
    simp [r_156_15, g6, g7]
    refine (r1_trim_does (l := o) ⟨⟨by simp, .inr ⟨p, 0, a.length, false, u32s o, by rw [hol], hbo, by simp, by rw [List.drop_zero, Nat.mul_one, ← length_u32s (l := o), List.take_length]⟩⟩, hok⟩ hx.1 (by omega)).mono ?_
    rintro r G2 ⟨ht, hx2⟩
    rw [trimL_digits _ hok, hs] at ht
    simp [g7]
    exact fun _ => ⟨_, _, ⟨rfl, rfl⟩, ht, hr.mono hx2⟩

end Go.Proofs.YtjlohmnnldbjoaaGreat.AI

/- The reference's numbers: Neg, Mul. -/
namespace Go.Proofs.YtjlohmnnldbjoaaGreat.AI
open Go
set_option maxHeartbeats 4000000

variable {fl : Nat} {H G : Heap} {R : PostP} {v w : Value} {i j : Bool × List Nat}

theorem r1_Neg_does (h : IntV H v i) (hf : fl ≤ H.size) (hn : i.2.length ≤ 1073741824) : Does env fl f_134 [v] H (fun r H' => IntV H' r (canonI (-valI i)) ∧ Ext H H') R := by
  have k0 := h
  have hok := h.ok
  obtain ⟨s, rfl, hs⟩ := h
  refine does_ext e_134 hf (h := ?_)
  intro ρ h0
  simp [s_134, r_134_0, h0, hs.cells]
  generalize hG : Array.push (Array.push H _) _ = G
  have hx2 : Ext H G := by rw [← hG]; exact (Ext.refl H).push.push
  have b0 : Heap.blk G H.size = .row false T_api_Int [.bool i.1, s] := by rw [← hG]; simp
  have b1 : Heap.blk G (H.size + 1) = .row false T_api_Int [.bool false, .slice none 0 0] := by rw [← hG]; simp
  have hx := Ext.refl H
  clear hG
  (try replace b0:=hx2.blk b0);(try replace b1:=hx2.blk b1);(try replace hx:=hx.trans hx2);(try replace k0:=k0.mono hx2);(try replace k1:=k1.mono hx2);(try replace k2 := k2.mono hx2)
  simp [r_134_1, b0]
  refine (r1_norm_does k0 hx.1 (by omega)).mono ?_
  rintro _ G2 ⟨⟨s1, rfl, k1⟩, hx2⟩
  (try replace b0:=hx2.blk b0);(try replace b1:=hx2.blk b1);(try replace hx:=hx.trans hx2);(try replace k0:=k0.mono hx2);(try replace k1:=k1.mono hx2);(try replace k2 := k2.mono hx2)
  have hsz := hx.1
  simp [b0, k1.cells, k1.plain, hsz]
  generalize hS : Array.setIfInBounds G2 _ _ = G3
  have hsz := hx.1; (try replace k0 := k0.setS hS b0 (by decide)); (try replace k1 := k1.setS hS b0 (by decide)); (try replace k2 := k2.setS hS b0 (by decide)); (try replace b1 := set_keep hS b1 (by omega)); (try replace hx := set_ext hS hx (by omega)); replace b0 := set_new hS b0; clear hS hsz
  simp [r_134_2, b0]
  have hl := len_digits_val hok
  refine (r1_mk_does (-valI i) k1 hx.1 (by show (digits _).length ≤ _; omega) ?_).mono ?_
  · show (if (!decide (valI i < 0)) = true then -((natL (digits (valI i).natAbs) : Nat) : Int) else _) = _
    rw [natL_digits]
    by_cases hz : valI i < 0 <;> simp [hz, natL_digits, canonI] <;> omega
  rintro _ G2 ⟨⟨s2, rfl, k2⟩, hx2⟩
  (try replace b0:=hx2.blk b0);(try replace b1:=hx2.blk b1);(try replace hx:=hx.trans hx2);(try replace k0:=k0.mono hx2);(try replace k1:=k1.mono hx2);(try replace k2 := k2.mono hx2)
  have hsz := hx.1
  simp [b1, k2.cells, k2.plain, hsz]
  generalize hS : Array.setIfInBounds G2 _ _ = G4
  have hsz := hx.1; (try replace k0 := k0.setS hS b1 (by decide)); (try replace k1 := k1.setS hS b1 (by decide)); (try replace k2 := k2.setS hS b1 (by decide)); (try replace b0 := set_keep hS b0 (by omega)); (try replace hx := set_ext hS hx (by omega)); replace b1 := set_new hS b1; clear hS hsz
  simp [b1]
  exact fun _ => ⟨s2, rfl, k2⟩

theorem sgn_mul (x y : Int) : (if (decide (x < 0) != decide (y < 0)) = true then -((x.natAbs * y.natAbs : Nat) : Int) else ((x.natAbs * y.natAbs : Nat) : Int)) = x * y := by
  rw [← Int.natAbs_mul]
  by_cases hi : x < 0 <;> by_cases hj : y < 0
  · have := Int.mul_pos_of_neg_of_neg hi hj
    simp [hi, hj]; omega
  · have := Int.mul_nonpos_of_nonpos_of_nonneg (Int.le_of_lt hi) (show 0 ≤ y by omega)
    simp [hi, hj]; omega
  · have := Int.mul_nonpos_of_nonneg_of_nonpos (show 0 ≤ x by omega) (Int.le_of_lt hj)
    simp [hi, hj]; omega
  · have := Int.mul_nonneg (show 0 ≤ x by omega) (show 0 ≤ y by omega)
    simp [hi, hj]; omega


theorem r1_Mul_does (h : IntV H v i) (k : IntV H w j) (hf : fl ≤ H.size) (hn : i.2.length < 268435456) (hm : j.2.length < 268435456) : Does env fl f_75 [v, w] H (fun r H' => IntV H' r (canonI (valI i * valI j)) ∧ Ext H H') R := by
  have k0 := h
  have k1 := k
  have hok := h.ok
  have hok2 := k.ok
  obtain ⟨s, rfl, hs⟩ := h
  obtain ⟨u, rfl, hu⟩ := k
  refine does_ext e_75 hf (h := ?_)
  intro ρ h0
  simp [s_75, r_75_0, h0, hs.cells, hu.cells]
  generalize hG : Array.push (Array.push (Array.push H _) _) _ = G
  have hx2 : Ext H G := by rw [← hG]; exact (Ext.refl H).push.push.push
  have b0 : Heap.blk G H.size = .row false T_api_Int [.bool i.1, s] := by rw [← hG]; simp
  have b1 : Heap.blk G (H.size + 1) = .row false T_api_Int [.bool j.1, u] := by rw [← hG]; simp
  have b2 : Heap.blk G (H.size + 2) = .row false T_api_Int [.bool false, .slice none 0 0] := by rw [← hG]; simp
  have hx := Ext.refl H
  clear hG
  (try replace b0:=hx2.blk b0);(try replace b1:=hx2.blk b1);(try replace b2:=hx2.blk b2);(try replace hx:=hx.trans hx2);(try replace k0:=k0.mono hx2);(try replace k1:=k1.mono hx2);(try replace k2:=k2.mono hx2);(try replace k3:=k3.mono hx2);(try replace k4:=k4.mono hx2);(try replace k5 := k5.mono hx2)
  simp [r_75_1, b0]
  refine (r1_norm_does k0 hx.1 (by omega)).mono ?_
  rintro _ G2 ⟨⟨s1, rfl, k2⟩, hx2⟩
  (try replace b0:=hx2.blk b0);(try replace b1:=hx2.blk b1);(try replace b2:=hx2.blk b2);(try replace hx:=hx.trans hx2);(try replace k0:=k0.mono hx2);(try replace k1:=k1.mono hx2);(try replace k2:=k2.mono hx2);(try replace k3:=k3.mono hx2);(try replace k4:=k4.mono hx2);(try replace k5 := k5.mono hx2)
  have hsz := hx.1
  simp [b0, k2.cells, k2.plain, hsz]
  generalize hS : Array.setIfInBounds G2 _ _ = G3
  have hsz := hx.1; (try replace k0 := k0.setS hS b0 (by decide)); (try replace k1 := k1.setS hS b0 (by decide)); (try replace k2 := k2.setS hS b0 (by decide)); (try replace k3 := k3.setS hS b0 (by decide)); (try replace k4 := k4.setS hS b0 (by decide)); (try replace k5 := k5.setS hS b0 (by decide)); (try replace b1 := set_keep hS b1 (by omega)); (try replace b2 := set_keep hS b2 (by omega)); (try replace hx := set_ext hS hx (by omega)); replace b0 := set_new hS b0; clear hS hsz
  simp [r_75_2, b1]
  refine (r1_norm_does k1 hx.1 (by omega)).mono ?_
  rintro _ G2 ⟨⟨s2, rfl, k3⟩, hx2⟩
  (try replace b0:=hx2.blk b0);(try replace b1:=hx2.blk b1);(try replace b2:=hx2.blk b2);(try replace hx:=hx.trans hx2);(try replace k0:=k0.mono hx2);(try replace k1:=k1.mono hx2);(try replace k2:=k2.mono hx2);(try replace k3:=k3.mono hx2);(try replace k4:=k4.mono hx2);(try replace k5 := k5.mono hx2)
  have hsz := hx.1
  simp [b1, k3.cells, k3.plain, hsz]
  generalize hS : Array.setIfInBounds G2 _ _ = G4
  have hsz := hx.1; (try replace k0 := k0.setS hS b1 (by decide)); (try replace k1 := k1.setS hS b1 (by decide)); (try replace k2 := k2.setS hS b1 (by decide)); (try replace k3 := k3.setS hS b1 (by decide)); (try replace k4 := k4.setS hS b1 (by decide)); (try replace k5 := k5.setS hS b1 (by decide)); (try replace b0 := set_keep hS b0 (by omega)); (try replace b2 := set_keep hS b2 (by omega)); (try replace hx := set_ext hS hx (by omega)); replace b1 := set_new hS b1; clear hS hsz
  clear k0 k1
  have hl := len_digits_val hok
  have hl2 := len_digits_val hok2
  refine W_draw ?_
  simp [r_75_3, b0, b1]
  refine (r1_mul_does k2 k3 (by have := hx.1; omega) (by show (digits _).length < _; omega) (by show (digits _).length < _; omega)).mono ?_
  rintro x G2 ⟨k4, hx2⟩
  (try replace b0:=hx2.blk b0);(try replace b1:=hx2.blk b1);(try replace b2:=hx2.blk b2);(try replace hx:=hx.trans hx2);(try replace k0:=k0.mono hx2);(try replace k1:=k1.mono hx2);(try replace k2:=k2.mono hx2);(try replace k3:=k3.mono hx2);(try replace k4:=k4.mono hx2);(try replace k5 := k5.mono hx2)
  rw [show natL (canonI (valI i)).2 = (valI i).natAbs from natL_digits _, show natL (canonI (valI j)).2 = (valI j).natAbs from natL_digits _] at k4
  simp
  have hlen : (digits ((valI i).natAbs * (valI j).natAbs)).length ≤ i.2.length + j.2.length := by
    refine Nat.le_trans (digits_len (k := (digits (valI i).natAbs).length + (digits (valI j).natAbs).length) ?_) (by omega)
    rw [Nat.pow_add]
    exact Nat.mul_lt_mul_of_lt_of_le (lt_digits _) (Nat.le_of_lt (lt_digits _)) (Nat.pow_pos (by omega))
  refine (r1_mk_does (valI i * valI j) k4 hx.1 (by omega) ?_).mono ?_
  · rw [natL_digits]
    exact sgn_mul _ _
  rintro _ G2 ⟨⟨s3, rfl, k5⟩, hx2⟩
  (try replace b0:=hx2.blk b0);(try replace b1:=hx2.blk b1);(try replace b2:=hx2.blk b2);(try replace hx:=hx.trans hx2);(try replace k0:=k0.mono hx2);(try replace k1:=k1.mono hx2);(try replace k2:=k2.mono hx2);(try replace k3:=k3.mono hx2);(try replace k4:=k4.mono hx2);(try replace k5 := k5.mono hx2)
  have hsz := hx.1
  simp [b2, k5.cells, k5.plain, hsz]
  generalize hS : Array.setIfInBounds G2 _ _ = G5
  have hsz := hx.1; (try replace k0 := k0.setS hS b2 (by decide)); (try replace k1 := k1.setS hS b2 (by decide)); (try replace k2 := k2.setS hS b2 (by decide)); (try replace k3 := k3.setS hS b2 (by decide)); (try replace k4 := k4.setS hS b2 (by decide)); (try replace k5 := k5.setS hS b2 (by decide)); (try replace b0 := set_keep hS b0 (by omega)); (try replace b1 := set_keep hS b1 (by omega)); (try replace hx := set_ext hS hx (by omega)); replace b2 := set_new hS b2; clear hS hsz
  simp [b2]
  exact fun _ => ⟨s3, rfl, k5⟩

theorem digits_pos_len {n : Nat} (h : 0 < n) : 0 < (digits n).length := by
  rcases Nat.eq_zero_or_pos (digits n).length with h2 | h2
  · have := digits_eq_nil.1 (List.length_eq_zero_iff.1 h2); omega
  · exact h2
theorem r1_Add_does (h : IntV H v i) (k : IntV H w j) (hf : fl ≤ H.size) (hn : i.2.length < 268435456) (hm : j.2.length < 268435456) : Does env fl f_115 [v, w] H (fun r H' => IntV H' r (canonI (valI i + valI j)) ∧ Ext H H') R := by
  have k0 := h
  have k1 := k
  have hok := h.ok
  have hok2 := k.ok
  obtain ⟨s, rfl, hs⟩ := h
  obtain ⟨u, rfl, hu⟩ := k
  refine does_ext e_115 hf (h := ?_)
  intro ρ h0
  simp [s_115, r_115_0, h0, hs.cells, hu.cells]
  generalize hG : Array.push (Array.push (Array.push H _) _) _ = G
  have hx2 : Ext H G := by rw [← hG]; exact (Ext.refl H).push.push.push
  have b0 : Heap.blk G H.size = .row false T_api_Int [.bool i.1, s] := by rw [← hG]; simp
  have b1 : Heap.blk G (H.size + 1) = .row false T_api_Int [.bool j.1, u] := by rw [← hG]; simp
  have b2 : Heap.blk G (H.size + 2) = .row false T_api_Int [.bool false, .slice none 0 0] := by rw [← hG]; simp
  have hx := Ext.refl H
  clear hG
  (try replace b0:=hx2.blk b0);(try replace b1:=hx2.blk b1);(try replace b2:=hx2.blk b2);(try replace hx:=hx.trans hx2);(try replace k0:=k0.mono hx2);(try replace k1:=k1.mono hx2);(try replace k2:=k2.mono hx2);(try replace k3:=k3.mono hx2);(try replace k4:=k4.mono hx2);(try replace k5 := k5.mono hx2)
  simp [r_115_1, b0]
  refine (r1_norm_does k0 hx.1 (by omega)).mono ?_
  rintro _ G2 ⟨⟨s1, rfl, k2⟩, hx2⟩
  (try replace b0:=hx2.blk b0);(try replace b1:=hx2.blk b1);(try replace b2:=hx2.blk b2);(try replace hx:=hx.trans hx2);(try replace k0:=k0.mono hx2);(try replace k1:=k1.mono hx2);(try replace k2:=k2.mono hx2);(try replace k3:=k3.mono hx2);(try replace k4:=k4.mono hx2);(try replace k5 := k5.mono hx2)
  have hsz := hx.1
  simp [b0, k2.cells, k2.plain, hsz]
  generalize hS : Array.setIfInBounds G2 _ _ = G3
  have hsz := hx.1; (try replace k0 := k0.setS hS b0 (by decide)); (try replace k1 := k1.setS hS b0 (by decide)); (try replace k2 := k2.setS hS b0 (by decide)); (try replace k3 := k3.setS hS b0 (by decide)); (try replace k4 := k4.setS hS b0 (by decide)); (try replace k5 := k5.setS hS b0 (by decide)); (try replace b1 := set_keep hS b1 (by omega)); (try replace b2 := set_keep hS b2 (by omega)); (try replace hx := set_ext hS hx (by omega)); replace b0 := set_new hS b0; clear hS hsz
  simp [r_115_2, b1]
  refine (r1_norm_does k1 hx.1 (by omega)).mono ?_
  rintro _ G2 ⟨⟨s2, rfl, k3⟩, hx2⟩
  (try replace b0:=hx2.blk b0);(try replace b1:=hx2.blk b1);(try replace b2:=hx2.blk b2);(try replace hx:=hx.trans hx2);(try replace k0:=k0.mono hx2);(try replace k1:=k1.mono hx2);(try replace k2:=k2.mono hx2);(try replace k3:=k3.mono hx2);(try replace k4:=k4.mono hx2);(try replace k5 := k5.mono hx2)
  have hsz := hx.1
  simp [b1, k3.cells, k3.plain, hsz]
  generalize hS : Array.setIfInBounds G2 _ _ = G4
  have hsz := hx.1; (try replace k0 := k0.setS hS b1 (by decide)); (try replace k1 := k1.setS hS b1 (by decide)); (try replace k2 := k2.setS hS b1 (by decide)); (try replace k3 := k3.setS hS b1 (by decide)); (try replace k4 := k4.setS hS b1 (by decide)); (try replace k5 := k5.setS hS b1 (by decide)); (try replace b0 := set_keep hS b0 (by omega)); (try replace b2 := set_keep hS b2 (by omega)); (try replace hx := set_ext hS hx (by omega)); replace b1 := set_new hS b1; clear hS hsz
  clear k0 k1
  have hl := len_digits_val hok
  have hl2 := len_digits_val hok2
  obtain ⟨x, hx'⟩ : ∃ x, valI i = x := ⟨_, rfl⟩
  obtain ⟨y, hy'⟩ : ∃ y, valI j = y := ⟨_, rfl⟩
  rw [hx'] at b0 k2 hl ⊢
  rw [hy'] at b1 k3 hl2 ⊢
  have n1 : natL (canonI x).2 = x.natAbs := natL_digits _
  have n2 : natL (canonI y).2 = y.natAbs := natL_digits _
  have l1 : (canonI x).2.length = (digits x.natAbs).length := rfl
  have l2 : (canonI y).2.length = (digits y.natAbs).length := rfl
  have hlen : ∀ m, m ≤ x.natAbs + y.natAbs → (digits m).length ≤ i.2.length + j.2.length + 1 := by
    intro m hm
    refine Nat.le_trans (digits_len (k := (digits x.natAbs).length + (digits y.natAbs).length + 1) ?_) (by omega)
    have h1 := lt_digits x.natAbs
    have h2 := lt_digits y.natAbs
    have h3 : 4294967296 ^ (digits x.natAbs).length ≤ 4294967296 ^ ((digits x.natAbs).length + (digits y.natAbs).length) := Nat.pow_le_pow_right (by omega) (by omega)
    have h4 : 4294967296 ^ (digits y.natAbs).length ≤ 4294967296 ^ ((digits x.natAbs).length + (digits y.natAbs).length) := Nat.pow_le_pow_right (by omega) (by omega)
    rw [Nat.pow_succ]
    omega
  have c1 : (canonI x).1 = decide (x < 0) := rfl
  have c2 : (canonI y).1 = decide (y < 0) := rfl
  rw [c1] at b0
  rw [c2] at b1
  by_cases hsg : decide (x < 0) = decide (y < 0)
  · simp [r_115_3, b0, b1, hsg]
    refine W_draw ?_
    simp [r_115_4, b0, b1, hsg]
    refine (r1_add_does k2 k3 (by have := hx.1; omega) (by omega) (by omega)).mono ?_
    rintro z G2 ⟨k4, hx2⟩
    (try replace b0:=hx2.blk b0);(try replace b1:=hx2.blk b1);(try replace b2:=hx2.blk b2);(try replace hx:=hx.trans hx2);(try replace k0:=k0.mono hx2);(try replace k1:=k1.mono hx2);(try replace k2:=k2.mono hx2);(try replace k3:=k3.mono hx2);(try replace k4:=k4.mono hx2);(try replace k5 := k5.mono hx2)
    rw [n1, n2] at k4
    simp
    refine (r1_mk_does (x + y) k4 hx.1 (by have := hlen _ (Nat.le_refl _); omega) ?_).mono ?_
    · rw [natL_digits]
      by_cases hx0 : x < 0
      · have hy0 : y < 0 := by simpa [hx0] using hsg
        simp [hy0]; omega
      · have hy0 : ¬ y < 0 := by simpa [hx0] using hsg
        simp [hy0]; omega
    rintro _ G2 ⟨⟨s3, rfl, k5⟩, hx2⟩
    (try replace b0:=hx2.blk b0);(try replace b1:=hx2.blk b1);(try replace b2:=hx2.blk b2);(try replace hx:=hx.trans hx2);(try replace k0:=k0.mono hx2);(try replace k1:=k1.mono hx2);(try replace k2:=k2.mono hx2);(try replace k3:=k3.mono hx2);(try replace k4:=k4.mono hx2);(try replace k5 := k5.mono hx2)
    have hsz := hx.1
    simp [b2, k5.cells, k5.plain, hsz]
    generalize hS : Array.setIfInBounds G2 _ _ = G5
    have hsz := hx.1; (try replace k0 := k0.setS hS b2 (by decide)); (try replace k1 := k1.setS hS b2 (by decide)); (try replace k2 := k2.setS hS b2 (by decide)); (try replace k3 := k3.setS hS b2 (by decide)); (try replace k4 := k4.setS hS b2 (by decide)); (try replace k5 := k5.setS hS b2 (by decide)); (try replace b0 := set_keep hS b0 (by omega)); (try replace b1 := set_keep hS b1 (by omega)); (try replace hx := set_ext hS hx (by omega)); replace b2 := set_new hS b2; clear hS hsz
    simp [b2]
    exact fun _ => ⟨s3, rfl, k5⟩
  · simp [r_115_3, b0, b1, hsg, r_115_5]
    refine (r1_cmp_does k2 k3 hx.1 (by omega)).mono ?_
    rintro _ G2 ⟨rfl, hx2⟩
    (try replace b0:=hx2.blk b0);(try replace b1:=hx2.blk b1);(try replace b2:=hx2.blk b2);(try replace hx:=hx.trans hx2);(try replace k0:=k0.mono hx2);(try replace k1:=k1.mono hx2);(try replace k2:=k2.mono hx2);(try replace k3:=k3.mono hx2);(try replace k4:=k4.mono hx2);(try replace k5 := k5.mono hx2)
    rw [show cmpL (canonI x).2 (canonI y).2 = cmpZ x.natAbs y.natAbs from cmpL_digits _ _, cmpZ_cast]
    by_cases hge : y.natAbs ≤ x.natAbs
    · have q1 : ¬ x.natAbs < y.natAbs := by omega
      have q2 : ((0 : Int) ≤ if y.natAbs < x.natAbs then 1 else 0) := by split <;> decide
      simp [q1, q2]
      refine W_draw ?_
      simp [r_115_6, b0, b1]
      have hpos : 0 < x.natAbs := by
        rcases Nat.eq_zero_or_pos x.natAbs with h0 | h0
        · have e1 : x = 0 := by omega
          have e2 : y = 0 := by omega
          subst e1 e2; exact absurd rfl hsg
        · exact h0
      refine (r1_sub_does k2 k3 (by have := hx.1; omega) (by omega) (digits_mono hge) (by rw [n1, n2]; exact hge) (digits_pos_len hpos)).mono ?_
      rintro z G2 ⟨k4, hx2⟩
      (try replace b0:=hx2.blk b0);(try replace b1:=hx2.blk b1);(try replace b2:=hx2.blk b2);(try replace hx:=hx.trans hx2);(try replace k0:=k0.mono hx2);(try replace k1:=k1.mono hx2);(try replace k2:=k2.mono hx2);(try replace k3:=k3.mono hx2);(try replace k4:=k4.mono hx2);(try replace k5 := k5.mono hx2)
      rw [n1, n2] at k4
      simp
      refine (r1_mk_does (x + y) k4 hx.1 (by have := hlen (x.natAbs - y.natAbs) (by omega); omega) ?_).mono ?_
      · rw [natL_digits]
        by_cases hx0 : x < 0
        · have hy0 : ¬ y < 0 := by simpa [hx0] using hsg
          simp [hx0]; omega
        · have hy0 : y < 0 := by simpa [hx0] using hsg
          simp [hx0]; omega
      rintro _ G2 ⟨⟨s3, rfl, k5⟩, hx2⟩
      (try replace b0:=hx2.blk b0);(try replace b1:=hx2.blk b1);(try replace b2:=hx2.blk b2);(try replace hx:=hx.trans hx2);(try replace k0:=k0.mono hx2);(try replace k1:=k1.mono hx2);(try replace k2:=k2.mono hx2);(try replace k3:=k3.mono hx2);(try replace k4:=k4.mono hx2);(try replace k5 := k5.mono hx2)
      have hsz := hx.1
      simp [b2, k5.cells, k5.plain, hsz]
      generalize hS : Array.setIfInBounds G2 _ _ = G5
      have hsz := hx.1; (try replace k0 := k0.setS hS b2 (by decide)); (try replace k1 := k1.setS hS b2 (by decide)); (try replace k2 := k2.setS hS b2 (by decide)); (try replace k3 := k3.setS hS b2 (by decide)); (try replace k4 := k4.setS hS b2 (by decide)); (try replace k5 := k5.setS hS b2 (by decide)); (try replace b0 := set_keep hS b0 (by omega)); (try replace b1 := set_keep hS b1 (by omega)); (try replace hx := set_ext hS hx (by omega)); replace b2 := set_new hS b2; clear hS hsz
      simp [b2]
      exact fun _ => ⟨s3, rfl, k5⟩
    · have q1 : x.natAbs < y.natAbs := by omega
      simp [q1]
      refine W_draw ?_
      simp [r_115_7, b0, b1]
      refine (r1_sub_does k3 k2 (by have := hx.1; omega) (by omega) (digits_mono (by omega)) (by rw [n1, n2]; omega) (digits_pos_len (by omega))).mono ?_
      rintro z G2 ⟨k4, hx2⟩
      (try replace b0:=hx2.blk b0);(try replace b1:=hx2.blk b1);(try replace b2:=hx2.blk b2);(try replace hx:=hx.trans hx2);(try replace k0:=k0.mono hx2);(try replace k1:=k1.mono hx2);(try replace k2:=k2.mono hx2);(try replace k3:=k3.mono hx2);(try replace k4:=k4.mono hx2);(try replace k5 := k5.mono hx2)
      rw [n1, n2] at k4
      simp
      refine (r1_mk_does (x + y) k4 hx.1 (by have := hlen (y.natAbs - x.natAbs) (by omega); omega) ?_).mono ?_
      · rw [natL_digits]
        by_cases hx0 : x < 0
        · have hy0 : ¬ y < 0 := by simpa [hx0] using hsg
          simp [hy0]; omega
        · have hy0 : y < 0 := by simpa [hx0] using hsg
          simp [hy0]; omega
      rintro _ G2 ⟨⟨s3, rfl, k5⟩, hx2⟩
      (try replace b0:=hx2.blk b0);(try replace b1:=hx2.blk b1);(try replace b2:=hx2.blk b2);(try replace hx:=hx.trans hx2);(try replace k0:=k0.mono hx2);(try replace k1:=k1.mono hx2);(try replace k2:=k2.mono hx2);(try replace k3:=k3.mono hx2);(try replace k4:=k4.mono hx2);(try replace k5 := k5.mono hx2)
      have hsz := hx.1
      simp [b2, k5.cells, k5.plain, hsz]
      generalize hS : Array.setIfInBounds G2 _ _ = G5
      have hsz := hx.1; (try replace k0 := k0.setS hS b2 (by decide)); (try replace k1 := k1.setS hS b2 (by decide)); (try replace k2 := k2.setS hS b2 (by decide)); (try replace k3 := k3.setS hS b2 (by decide)); (try replace k4 := k4.setS hS b2 (by decide)); (try replace k5 := k5.setS hS b2 (by decide)); (try replace b0 := set_keep hS b0 (by omega)); (try replace b1 := set_keep hS b1 (by omega)); (try replace hx := set_ext hS hx (by omega)); replace b2 := set_new hS b2; clear hS hsz
      simp [b2]
      exact fun _ => ⟨s3, rfl, k5⟩

end Go.Proofs.YtjlohmnnldbjoaaGreat.AI

/- The reference's numbers: Sub, Cmp. -/
namespace Go.Proofs.YtjlohmnnldbjoaaGreat.AI
open Go
set_option maxHeartbeats 4000000

variable {fl : Nat} {H G : Heap} {R : PostP} {v w : Value} {i j : Bool × List Nat}

theorem r1_Sub_does (h : IntV H v i) (k : IntV H w j) (hf : fl ≤ H.size) (hn : i.2.length < 268435456) (hm : j.2.length < 268435456) : Does env fl f_104 [v, w] H (fun r H' => IntV H' r (canonI (valI i - valI j)) ∧ Ext H H') R := by
  have k0 := h
  have k1 := k
  have hok2 := k.ok
  obtain ⟨s, rfl, hs⟩ := h
  obtain ⟨u, rfl, hu⟩ := k
  refine does_ext e_104 hf (h := ?_)
  intro ρ h0
  simp [s_104, r_104_0, h0, hs.cells, hu.cells]
  generalize hG : Array.push (Array.push (Array.push H _) _) _ = G
  have hx2 : Ext H G := by rw [← hG]; exact (Ext.refl H).push.push.push
  have b0 : Heap.blk G H.size = .row false T_api_Int [.bool i.1, s] := by rw [← hG]; simp
  have b1 : Heap.blk G (H.size + 1) = .row false T_api_Int [.bool j.1, u] := by rw [← hG]; simp
  have b2 : Heap.blk G (H.size + 2) = .row false T_api_Int [.bool false, .slice none 0 0] := by rw [← hG]; simp
  have hx := Ext.refl H
  clear hG
  (try replace b0:=hx2.blk b0);(try replace b1:=hx2.blk b1);(try replace b2:=hx2.blk b2);(try replace hx:=hx.trans hx2);(try replace k0:=k0.mono hx2);(try replace k1:=k1.mono hx2);(try replace k2:=k2.mono hx2);(try replace k5 := k5.mono hx2)
  refine W_draw ?_
  simp [r_104_1, b0, b1]
  refine (r1_Neg_does k1 (by have := hx.1; omega) (by omega)).mono ?_
  rintro x G2 ⟨k2, hx2⟩
  (try replace b0:=hx2.blk b0);(try replace b1:=hx2.blk b1);(try replace b2:=hx2.blk b2);(try replace hx:=hx.trans hx2);(try replace k0:=k0.mono hx2);(try replace k1:=k1.mono hx2);(try replace k2:=k2.mono hx2);(try replace k5 := k5.mono hx2)
  have hlen : (canonI (-valI j)).2.length < 268435456 := by
    rw [len_canon, Int.natAbs_neg]; have := len_digits_val hok2; omega
  simp
  refine (r1_Add_does k0 k2 hx.1 hn hlen).mono ?_
  rintro _ G2 ⟨⟨s3, rfl, k5⟩, hx2⟩
  rw [val_canon, ← Int.sub_eq_add_neg] at k5 ⊢
  (try replace b0:=hx2.blk b0);(try replace b1:=hx2.blk b1);(try replace b2:=hx2.blk b2);(try replace hx:=hx.trans hx2);(try replace k0:=k0.mono hx2);(try replace k1:=k1.mono hx2);(try replace k2:=k2.mono hx2);(try replace k5 := k5.mono hx2)
  have hsz := hx.1
  simp [b2, k5.cells, k5.plain, hsz]
  generalize hS : Array.setIfInBounds G2 _ _ = G5
  have hsz := hx.1; (try replace k0 := k0.setS hS b2 (by decide)); (try replace k1 := k1.setS hS b2 (by decide)); (try replace k2 := k2.setS hS b2 (by decide)); (try replace k5 := k5.setS hS b2 (by decide)); (try replace b0 := set_keep hS b0 (by omega)); (try replace b1 := set_keep hS b1 (by omega)); (try replace hx := set_ext hS hx (by omega)); replace b2 := set_new hS b2; clear hS hsz
  simp [b2]
  exact fun _ => ⟨s3, rfl, k5⟩

theorem r1_Cmp_does (h : IntV H v i) (k : IntV H w j) (hf : fl ≤ H.size) (hn : i.2.length < 268435456) (hm : j.2.length < 268435456) : Does env fl f_74 [v, w] H (fun r H' => r = .int .i64 (cmpZ (valI i) (valI j)) ∧ Ext H H') R := by
  have k0 := h
  have k1 := k
  obtain ⟨s, rfl, hs⟩ := h
  obtain ⟨u, rfl, hu⟩ := k
  refine does_ext e_74 hf (h := ?_)
  intro ρ h0
  simp [s_74, r_74_0, h0, hs.cells, hu.cells]
  generalize hG : Array.push (Array.push H _) _ = G
  have hx2 : Ext H G := by rw [← hG]; exact (Ext.refl H).push.push
  have b0 : Heap.blk G H.size = .row false T_api_Int [.bool i.1, s] := by rw [← hG]; simp
  have b1 : Heap.blk G (H.size + 1) = .row false T_api_Int [.bool j.1, u] := by rw [← hG]; simp
  have hx := Ext.refl H
  clear hG
  (try replace b0:=hx2.blk b0);(try replace b1:=hx2.blk b1);(try replace b2:=hx2.blk b2);(try replace hx:=hx.trans hx2);(try replace k0:=k0.mono hx2);(try replace k1:=k1.mono hx2);(try replace k5 := k5.mono hx2)
  simp [r_74_1, b0, b1]
  refine (r1_Sub_does k0 k1 hx.1 hn hm).mono ?_
  rintro _ G2 ⟨⟨s3, rfl, k5⟩, hx2⟩
  obtain ⟨z, hz⟩ : ∃ z, valI i - valI j = z := ⟨_, rfl⟩
  rw [hz] at k5 ⊢
  (try replace b0:=hx2.blk b0);(try replace b1:=hx2.blk b1);(try replace b2:=hx2.blk b2);(try replace hx:=hx.trans hx2);(try replace k0:=k0.mono hx2);(try replace k1:=k1.mono hx2);(try replace k5 := k5.mono hx2)
  have hsz := hx.1
  simp [k5.cells, k5.plain, hsz]
  generalize hN : Array.setIfInBounds (Array.push _ _) _ _ = G3
  obtain ⟨hx2, b2⟩ := new1 hN
  clear hN
  (try replace b0:=hx2.blk b0);(try replace b1:=hx2.blk b1);(try replace b2:=hx2.blk b2);(try replace hx:=hx.trans hx2);(try replace k0:=k0.mono hx2);(try replace k1:=k1.mono hx2);(try replace k5 := k5.mono hx2)
  have hsl := k5.slen
  have hc1 : (canonI z).1 = decide (z < 0) := rfl
  have hc2 : (canonI z).2.length = (digits z.natAbs).length := rfl
  rw [hc1] at b2
  rw [hc2] at hsl
  unfold cmpZ
  by_cases h0z : z = 0
  · have e1 : valI i = valI j := by omega
    subst h0z
    have hd : digits (Int.natAbs 0) = [] := digits_zero
    simp [r_74_2, r_74_3, b2, hsl, hd, digits_zero, e1]
  · have hpos := digits_pos_len (show 0 < z.natAbs by omega)
    have hne : digits z.natAbs ≠ [] := fun h => by rw [h] at hpos; simp at hpos
    by_cases hneg : z < 0
    · have e1 : valI i < valI j := by omega
      simp [r_74_2, r_74_4, r_74_5, b2, hsl, hne, hneg, e1]
    · have e1 : ¬ valI i < valI j := by omega
      have e2 : valI j < valI i := by omega
      simp [r_74_2, r_74_4, r_74_6, b2, hsl, hne, hneg, e1, e2]

end Go.Proofs.YtjlohmnnldbjoaaGreat.AI

/- The reference's numbers: Gcd. -/
namespace Go.Proofs.YtjlohmnnldbjoaaGreat.AI
open Go
set_option maxHeartbeats 4000000

variable {fl : Nat} {H G : Heap} {R : PostP} {v w : Value} {i j : Bool × List Nat}

theorem r1_Gcd_does (h : IntV H v i) (k : IntV H w j) (hf : fl ≤ H.size) (hn : i.2.length < 268435456) (hm : j.2.length < 268435456) : Does env fl f_129 [v, w] H (fun r H' => IntV H' r (canonI (Int.gcd (valI i) (valI j))) ∧ Ext H H') R := by
  have k0 := h
  have k1 := k
  have hok := h.ok
  have hok2 := k.ok
  obtain ⟨s, rfl, hs⟩ := h
  obtain ⟨u, rfl, hu⟩ := k
  refine does_ext e_129 hf (h := ?_)
  intro ρ h0
  simp [s_129, r_129_0, h0, hs.cells, hu.cells]
  generalize hG : Array.push (Array.push (Array.push H _) _) _ = G
  have hx2 : Ext H G := by rw [← hG]; exact (Ext.refl H).push.push.push
  have b0 : Heap.blk G H.size = .row false T_api_Int [.bool i.1, s] := by rw [← hG]; simp
  have b1 : Heap.blk G (H.size + 1) = .row false T_api_Int [.bool j.1, u] := by rw [← hG]; simp
  have b2 : Heap.blk G (H.size + 2) = .row false T_api_Int [.bool false, .slice none 0 0] := by rw [← hG]; simp
  have hx := Ext.refl H
  clear hG
  (try replace b0:=hx2.blk b0);(try replace b1:=hx2.blk b1);(try replace b2:=hx2.blk b2);(try replace hx:=hx.trans hx2);(try replace k0:=k0.mono hx2);(try replace k1:=k1.mono hx2);(try replace k2:=k2.mono hx2);(try replace k3:=k3.mono hx2);(try replace k5:=k5.mono hx2);(try replace k6:=k6.mono hx2);(try replace k7:=k7.mono hx2);(try replace k8 := k8.mono hx2)
  have l1 := len_digits_val hok
  have l2 := len_digits_val hok2
  have hfd : ∀ x s : Value, fldA false 1 1 (.agg #[x, s]) = some s := fun _ _ => rfl
  refine W_draw ?_
  simp [r_129_1, b0]
  refine (r1_norm_does k0 (by have := hx.1; omega) (by omega)).mono ?_
  rintro _ G2 ⟨⟨s1, rfl, k2⟩, hx2⟩
  (try replace b0:=hx2.blk b0);(try replace b1:=hx2.blk b1);(try replace b2:=hx2.blk b2);(try replace hx:=hx.trans hx2);(try replace k0:=k0.mono hx2);(try replace k1:=k1.mono hx2);(try replace k2:=k2.mono hx2);(try replace k3:=k3.mono hx2);(try replace k5:=k5.mono hx2);(try replace k6:=k6.mono hx2);(try replace k7:=k7.mono hx2);(try replace k8 := k8.mono hx2)
  simp [b1, hfd]
  refine (r1_norm_does k1 hx.1 (by omega)).mono ?_
  rintro _ G2 ⟨⟨s2, rfl, k3⟩, hx2⟩
  (try replace b0:=hx2.blk b0);(try replace b1:=hx2.blk b1);(try replace b2:=hx2.blk b2);(try replace hx:=hx.trans hx2);(try replace k0:=k0.mono hx2);(try replace k1:=k1.mono hx2);(try replace k2:=k2.mono hx2);(try replace k3:=k3.mono hx2);(try replace k5:=k5.mono hx2);(try replace k6:=k6.mono hx2);(try replace k7:=k7.mono hx2);(try replace k8 := k8.mono hx2)
  simp [hfd]
  refine W_loopM (fun c t G => ∃ (a b : Nat) (s5 s6 : Value), c = b ∧ t.length = 28 ∧ get t 4 = .pointer (some ⟨H.size + 2, 0, none⟩) ∧ get t 5 = s5 ∧ get t 6 = s6 ∧
      Ext H G ∧ Heap.blk G (H.size + 2) = .row false T_api_Int [.bool false, .slice none 0 0] ∧ Lim G s5 (digits a) ∧ Lim G s6 (digits b) ∧
      (digits a).length < 536870912 ∧ (digits b).length < 536870912 ∧ Nat.gcd a b = Int.gcd (valI i) (valI j))
    (fun t G => ∃ (a : Nat) (s5 : Value), t.length = 28 ∧ get t 4 = .pointer (some ⟨H.size + 2, 0, none⟩) ∧ get t 5 = s5 ∧
      Ext H G ∧ Heap.blk G (H.size + 2) = .row false T_api_Int [.bool false, .slice none 0 0] ∧ Lim G s5 (digits a) ∧ (digits a).length < 536870912 ∧ a = Int.gcd (valI i) (valI j)) (valI j).natAbs ?_ ?_ ?_
  · exact ⟨(valI i).natAbs, (valI j).natAbs, s1, s2, rfl, by simp, by simp, by simp, by simp, hx, b2, k2, k3, by omega, by omega, rfl⟩
  · clear h0 ρ k0 k1 k2 k3 b0 b1 b2 hx
    rintro c t G ⟨a, b, s5, s6, rfl, ht, g4, g5, g6, hx, b2, k5, k6, la, lb, hg⟩
    obtain ⟨ρ, rfl⟩ := toT ht
    simp only [get_T, Nat.reduceLT] at g4 g5 g6
    by_cases hb : c = 0
    · subst hb
      have hd := digits_zero
      have hsl := k6.slen
      rw [hd] at hsl
      simp at hsl
      simp [r_129_2, g6, hsl]
      have hga : a = Int.gcd (valI i) (valI j) := by simpa using hg
      rw [hga] at k5 la
      exact ⟨g4, hx, b2, by rw [g5]; exact k5, la⟩
    · have hpos := digits_pos_len (show 0 < c by omega)
      have hpos' : (0 : Int) < ((digits c).length : Int) := by omega
      have hne : digits c ≠ [] := fun h => by rw [h] at hpos; simp at hpos
      simp [r_129_2, r_129_3, g5, g6, k6.slen, hpos, hpos', hne]
      refine (r1_divmod_does k5 k6 (by omega) hx.1 la lb).mono ?_
      rintro _ G2 ⟨⟨x, y, rfl, k7, k8⟩, hx2⟩
      simp [r_129_4, r_129_5, g6]
      have hlt := Nat.mod_lt a (show c > 0 by omega)
      have hlc : (digits (a % c)).length ≤ (digits c).length := digits_mono (Nat.le_of_lt hlt)
      exact ⟨a % c, hlt, g4, hx.trans hx2, hx2.blk b2, c, k6.mono hx2, k8, lb, by omega, by rw [Nat.gcd_comm, ← Nat.gcd_rec, Nat.gcd_comm]; exact hg⟩
  · clear h0 ρ k0 k1 k2 k3 b0 b1 b2 hx
    rintro t G ⟨a, s5, ht, g4, g5, hx, b2, k5, la, rfl⟩
    obtain ⟨ρ, rfl⟩ := toT ht
    simp only [get_T, Nat.reduceLT] at g4 g5
    simp [r_129_6, g5]
    refine (r1_mk_does ((Int.gcd (valI i) (valI j) : Nat) : Int) k5 hx.1 (by omega) (by simp [natL_digits])).mono ?_
    rintro _ G2 ⟨⟨s3, rfl, k5⟩, hx2⟩
    (try replace b0:=hx2.blk b0);(try replace b1:=hx2.blk b1);(try replace b2:=hx2.blk b2);(try replace hx:=hx.trans hx2);(try replace k0:=k0.mono hx2);(try replace k1:=k1.mono hx2);(try replace k2:=k2.mono hx2);(try replace k3:=k3.mono hx2);(try replace k5:=k5.mono hx2);(try replace k6:=k6.mono hx2);(try replace k7:=k7.mono hx2);(try replace k8 := k8.mono hx2)
    have hsz := hx.1
    simp [g4, b2, k5.cells, k5.plain, hsz]
    generalize hS : Array.setIfInBounds G2 _ _ = G5
    have hsz := hx.1; (try replace k0 := k0.setS hS b2 (by decide)); (try replace k1 := k1.setS hS b2 (by decide)); (try replace k2 := k2.setS hS b2 (by decide)); (try replace k3 := k3.setS hS b2 (by decide)); (try replace k5 := k5.setS hS b2 (by decide)); (try replace k6 := k6.setS hS b2 (by decide)); (try replace k7 := k7.setS hS b2 (by decide)); (try replace k8 := k8.setS hS b2 (by decide)); (try replace b0 := set_keep hS b0 (by omega)); (try replace b1 := set_keep hS b1 (by omega)); (try replace hx := set_ext hS hx (by omega)); replace b2 := set_new hS b2; clear hS hsz
    simp [b2]
    exact fun _ => ⟨s3, rfl, k5⟩

end Go.Proofs.YtjlohmnnldbjoaaGreat.AI

/- The reference's numbers: Of; its quotients: nought. -/
namespace Go.Proofs.YtjlohmnnldbjoaaGreat.AI
open Go
set_option maxHeartbeats 4000000

variable {fl : Nat} {H G : Heap} {R : PostP} {v w : Value}

theorem r1_Of_does {n : Int} (hf : fl ≤ H.size) (h1 : -9223372036854775808 ≤ n) (h2 : n < 9223372036854775808) : Does env fl f_39 [.int .i64 n] H (fun r H' => IntV H' r (canonI n) ∧ Ext H H') R := by
  refine does_ext e_39 hf (h := ?_)
  intro ρ h0
  have e1 : 0 ≤ n → IntKind.u64.wrap n = ((n.natAbs : Nat) : Int) := fun _ => by rw [wrapu64]; omega
  have e2 : n < 0 → IntKind.u64.wrap (-IntKind.u64.wrap n) = ((n.natAbs : Nat) : Int) := fun _ => by rw [wrapu64, wrapu64]; omega
  obtain ⟨m, hm⟩ : ∃ m, n.natAbs = m := ⟨_, rfl⟩
  rw [hm] at e1 e2
  have hm2 : m < 18446744073709551616 := by omega
  simp [s_39, r_39_0, h0]
  generalize hG : Array.push H _ = G
  obtain ⟨hx2, b0⟩ := new0 hG
  have hx := Ext.refl H
  clear hG
  (try replace b0:=hx2.blk b0);(try replace b1:=hx2.blk b1);(try replace hx:=hx.trans hx2);(try replace k5 := k5.mono hx2)
  have q1 : IntKind.u32.wrap ((m : Int)) = ((m % 4294967296 : Nat) : Int) := by rw [wrapu32]; omega
  have q2 : IntKind.u32.wrap (((m / 4294967296 : Nat) : Int)) = ((m / 4294967296 : Nat) : Int) := by rw [wrapu32]; omega
  have q3 : binA 0 .shr (.int .u64 (m : Int)) (.int .u64 32) = some (.int .u64 ((m / 2 ^ 32 : Nat) : Int)) := shr64 (s := 32) (by omega)
  have q4 : m / 2 ^ 32 = m / 4294967296 := rfl
  rw [q4] at q3
  by_cases hn : n < 0
  · simp [-Int.natCast_emod, -Int.natCast_ediv, r_39_1, r_39_2, r_39_3, r_39_4, h0, hn, e2 hn, q1, q2, q3]
    generalize hG : Array.push G _ = G1
    obtain ⟨hx2, b1⟩ := new0 hG
    clear hG
    (try replace b0:=hx2.blk b0);(try replace b1:=hx2.blk b1);(try replace hx:=hx.trans hx2);(try replace k5 := k5.mono hx2)
    have hl : Lim G1 (.slice (some ⟨Array.size G, 0, none⟩) 2 2) [m % 4294967296, m / 4294967296] := by
      refine ⟨(Own.mk (fl := 0) (n := 2) (sz := 1) (cs := u32s [m % 4294967296, m / 4294967296]) ?_ rfl (Nat.zero_le _)).sl, ?_⟩
      · rw [b1]; rfl
      · intro x hx; simp at hx; omega
    refine (r1_mk_does n hl hx.1 (by simp) ?_).mono ?_
    · have : natL [m % 4294967296, m / 4294967296] = m := by simp [natL]; omega
      rw [this]
      simp; omega
    rintro _ G2 ⟨⟨s3, rfl, k5⟩, hx2⟩
    (try replace b0:=hx2.blk b0);(try replace b1:=hx2.blk b1);(try replace hx:=hx.trans hx2);(try replace k5 := k5.mono hx2)
    have hsz := hx.1
    simp [b0, k5.cells, k5.plain, hsz]
    generalize hS : Array.setIfInBounds G2 _ _ = G5
    have hsz := hx.1; (try replace k5 := k5.setS hS b0 (by decide)); (try replace b1 := set_keep hS b1 (by omega)); (try replace hx := set_ext hS hx (by omega)); replace b0 := set_new hS b0; clear hS hsz
    simp [b0]
    exact fun _ => ⟨s3, rfl, k5⟩
  · simp [-Int.natCast_emod, -Int.natCast_ediv, r_39_1, r_39_2, r_39_4, h0, hn, e1 (by omega), q1, q2, q3]
    generalize hG : Array.push G _ = G1
    obtain ⟨hx2, b1⟩ := new0 hG
    clear hG
    (try replace b0:=hx2.blk b0);(try replace b1:=hx2.blk b1);(try replace hx:=hx.trans hx2);(try replace k5 := k5.mono hx2)
    have hl : Lim G1 (.slice (some ⟨Array.size G, 0, none⟩) 2 2) [m % 4294967296, m / 4294967296] := by
      refine ⟨(Own.mk (fl := 0) (n := 2) (sz := 1) (cs := u32s [m % 4294967296, m / 4294967296]) ?_ rfl (Nat.zero_le _)).sl, ?_⟩
      · rw [b1]; rfl
      · intro x hx; simp at hx; omega
    refine (r1_mk_does n hl hx.1 (by simp) ?_).mono ?_
    · have : natL [m % 4294967296, m / 4294967296] = m := by simp [natL]; omega
      rw [this]
      simp; omega
    rintro _ G2 ⟨⟨s3, rfl, k5⟩, hx2⟩
    (try replace b0:=hx2.blk b0);(try replace b1:=hx2.blk b1);(try replace hx:=hx.trans hx2);(try replace k5 := k5.mono hx2)
    have hsz := hx.1
    simp [b0, k5.cells, k5.plain, hsz]
    generalize hS : Array.setIfInBounds G2 _ _ = G5
    have hsz := hx.1; (try replace k5 := k5.setS hS b0 (by decide)); (try replace b1 := set_keep hS b1 (by omega)); (try replace hx := set_ext hS hx (by omega)); replace b0 := set_new hS b0; clear hS hsz
    simp [b0]
    exact fun _ => ⟨s3, rfl, k5⟩

theorem canonR_0 : canonR 0 = ((false, []), canonI 1) := by
  show (canonI 0, canonI 1) = _
  rw [canon_zero]
theorem r1_nought_does (hf : fl ≤ H.size) : Does env fl f_81 [] H (fun r H' => RatV H' r (canonR 0) ∧ Ext H H') R := by
  refine does_ext e_81 hf (h := ?_)
  intro ρ h0
  simp [s_81, r_81_0, r_81_1, h0]
  generalize hG : Array.push H _ = G
  obtain ⟨hx2, b0⟩ := new0 hG
  have hx := Ext.refl H
  clear hG
  (try replace b0:=hx2.blk b0);(try replace hx:=hx.trans hx2);(try replace k5 := k5.mono hx2)
  refine (r1_Of_does hx.1 (by omega) (by omega)).mono ?_
  rintro _ G2 ⟨⟨s3, rfl, k5⟩, hx2⟩
  (try replace b0:=hx2.blk b0);(try replace hx:=hx.trans hx2);(try replace k5 := k5.mono hx2)
  have hsz := hx.1
  simp [b0, k5.cells, k5.plain, hsz, writeL]
  generalize hS : Array.setIfInBounds G2 _ _ = G5
  have hsz := hx.1; (try replace k5 := k5.setS hS b0 (by decide)); (try replace hx := set_ext hS hx (by omega)); replace b0 := set_new hS b0; clear hS hsz
  simp [b0]
  rw [canonR_0]
  exact fun _ => ⟨.slice none 0 0, s3, rfl, Lim.nil, k5⟩

end Go.Proofs.YtjlohmnnldbjoaaGreat.AI

/- The reference's quotients: MayRat. -/
namespace Go.Proofs.YtjlohmnnldbjoaaGreat.AI
open Go
set_option maxHeartbeats 4000000

variable {fl : Nat} {H G : Heap} {R : PostP} {v w : Value} {a : RawR}

theorem digits_one {n : Nat} : digits n = [1] ↔ n = 1 := by
  constructor
  · intro h
    have := natL_digits n
    rw [h] at this
    simpa [natL] using this.symm
  · rintro rfl
    rw [digits_pos (by omega)]
    simp [digits_zero]
theorem val_ne {i : Bool × List Nat} (h : mayB i = true) (hl : i.2 ≠ []) (hok : LimOk i.2) : valI i ≠ 0 := by
  intro h0
  have h1 := limbsL_eq hok
  unfold limbsL at h1
  rw [h, h0] at h1
  simp [digits_zero] at h1
  exact hl h1
theorem r1_MayRat_does (h : RatV H v a) (hf : fl ≤ H.size) (hn : lenR a < 268435456) : Does env fl f_95 [v] H (fun r H' => r = .bool (mayR a) ∧ Ext H H') R := by
  have hn1 : a.1.2.length < 268435456 := by unfold lenR at hn; omega
  have hn2 : a.2.2.length < 268435456 := by unfold lenR at hn; omega
  obtain ⟨s, u, rfl, hs, hu⟩ := h
  obtain ⟨⟨p, lp⟩, ⟨q, lq⟩⟩ := a
  simp only at hs hu hn1 hn2
  have k0 : IntV H (.agg #[.bool p, s]) (p, lp) := ⟨s, rfl, hs⟩
  have k1 : IntV H (.agg #[.bool q, u]) (q, lq) := ⟨u, rfl, hu⟩
  refine does_ext e_95 hf (h := ?_)
  intro ρ h0
  simp [s_95, r_95_0, h0]
  generalize hG : Array.push H _ = G
  obtain ⟨hx2, b0⟩ := new0 hG
  have hx := Ext.refl H
  clear hG
  replace hs := hs.mono hx2
  replace hu := hu.mono hx2
  (try replace b0:=hx2.blk b0);(try replace b2:=hx2.blk b2);(try replace hx:=hx.trans hx2);(try replace k0:=k0.mono hx2);(try replace k1 := k1.mono hx2)
  have hsl := hs.slen
  have hul := hu.slen
  by_cases hc : lq = [] ∧ q = false
  · obtain ⟨rfl, rfl⟩ := hc
    have hm : mayR ((p, lp), (false, [])) = (!p && lp.length == 0) := by
      unfold mayR zeroR
      have : valI (false, ([] : List Nat)) = 0 := by simp [valI, natL, mayB]
      rw [this]
      cases p <;> simp
    rw [hm]
    simp [r_95_1, b0, hul]
    cases lp with
    | nil => cases p <;> simp [r_95_2, b0, hsl]
    | cons y l =>
      have hne : ¬ ((l.length : Int) + 1 = 0) := by omega
      cases p <;> simp [r_95_2, b0, hsl, hne]
  · have hm : mayR ((p, lp), (q, lq)) = (mayB (p, lp) && mayB (q, lq) && !q && decide (Int.gcd (valI (p, lp)) (valI (q, lq)) = 1)) := by
      have hz : zeroR ((p, lp), (q, lq)) = false := by
        unfold zeroR
        cases lq with
        | nil => cases q with
          | true => simp
          | false => exact absurd ⟨rfl, rfl⟩ hc
        | cons y l => simp
      unfold mayR
      rw [hz, Bool.false_or]
      by_cases h1 : mayB (q, lq) = true ∧ q = false
      · obtain ⟨h1, rfl⟩ := h1
        have hl : lq ≠ [] := fun h => hc ⟨h, rfl⟩
        have hv := val_ne (i := (false, lq)) h1 hl hu.ok
        have hv2 : (valI (false, lq) != 0) = true := bne_iff_ne.2 hv
        rw [h1, hv2]
        cases mayB (p, lp) <;> simp [BEq.beq]
      · cases h2 : mayB (q, lq) <;> cases q <;> simp_all
    rw [hm]
    have hg1 : ∀ (s : Value) (g : Nat) (G : Heap), Lim G s (digits g) → (decide (((digits g).length : Int) = 1) = true → loadA G false 1 (adr 1 s 0) = some (.int .u32 ((digits g).getD 0 0 : Nat))) := fun s g G h hl => h.load (by have := of_decide_eq_true hl; omega) (Ext.refl _)
    cases lq with
    | nil =>
      have hqt : q = true := by cases q with
        | true => rfl
        | false => exact absurd ⟨rfl, rfl⟩ hc
      subst hqt
      simp [r_95_1, r_95_3, b0, hul]
      refine (r1_Gcd_does k0 k1 hx.1 hn1 hn2).mono ?_
      rintro _ G2 ⟨⟨sg, rfl, kg⟩, hx2⟩
      (try replace b0:=hx2.blk b0);(try replace b2:=hx2.blk b2);(try replace hx:=hx.trans hx2);(try replace k0:=k0.mono hx2);(try replace k1 := k1.mono hx2)
      have hsz := hx.1
      obtain ⟨g, hg⟩ : ∃ g, Int.gcd (valI (p, lp)) (valI (true,[])) = g := ⟨_, rfl⟩
      rw [hg] at kg ⊢
      simp [kg.cells, kg.plain, hsz]
      generalize hN : Array.setIfInBounds (Array.push _ _) _ _ = G3
      obtain ⟨hx2, b2⟩ := new1 hN
      clear hN
      (try replace b0:=hx2.blk b0);(try replace b2:=hx2.blk b2);(try replace hx:=hx.trans hx2);(try replace k0:=k0.mono hx2);(try replace k1 := k1.mono hx2)
      replace kg : Lim G3 sg (digits g) := kg.mono hx2
      simp [r_95_4, b0]
      refine (r1_May_does k0 hx.1 (Nat.lt_of_lt_of_le hn1 (by omega))).mono ?_
      rintro _ G4 ⟨rfl, hx2⟩
      (try replace b0:=hx2.blk b0);(try replace b2:=hx2.blk b2);(try replace hx:=hx.trans hx2);(try replace k0:=k0.mono hx2);(try replace k1 := k1.mono hx2)
      replace kg := kg.mono hx2
      cases h1 : mayB (p, lp) with
      | false => simp
      | true =>
      simp [b0]
      refine (r1_May_does k1 hx.1 (Nat.lt_of_lt_of_le hn2 (by omega))).mono ?_
      rintro _ G5 ⟨rfl, hx2⟩
      (try replace b0:=hx2.blk b0);(try replace b2:=hx2.blk b2);(try replace hx:=hx.trans hx2);(try replace k0:=k0.mono hx2);(try replace k1 := k1.mono hx2)
      replace kg := kg.mono hx2
      have hmf : mayB (true, ([] : List Nat)) = false := rfl
      simp [hmf]
    | cons y l =>
      have hne : ¬ ((l.length : Int) + 1 = 0) := by omega
      simp [r_95_1, r_95_3, b0, hul, hne]
      refine (r1_Gcd_does k0 k1 hx.1 hn1 hn2).mono ?_
      rintro _ G2 ⟨⟨sg, rfl, kg⟩, hx2⟩
      (try replace b0:=hx2.blk b0);(try replace b2:=hx2.blk b2);(try replace hx:=hx.trans hx2);(try replace k0:=k0.mono hx2);(try replace k1 := k1.mono hx2)
      have hsz := hx.1
      obtain ⟨g, hg⟩ : ∃ g, Int.gcd (valI (p, lp)) (valI (q,y::l)) = g := ⟨_, rfl⟩
      rw [hg] at kg ⊢
      simp [kg.cells, kg.plain, hsz]
      generalize hN : Array.setIfInBounds (Array.push _ _) _ _ = G3
      obtain ⟨hx2, b2⟩ := new1 hN
      clear hN
      (try replace b0:=hx2.blk b0);(try replace b2:=hx2.blk b2);(try replace hx:=hx.trans hx2);(try replace k0:=k0.mono hx2);(try replace k1 := k1.mono hx2)
      replace kg : Lim G3 sg (digits g) := kg.mono hx2
      simp [r_95_4, b0]
      refine (r1_May_does k0 hx.1 (Nat.lt_of_lt_of_le hn1 (by omega))).mono ?_
      rintro _ G4 ⟨rfl, hx2⟩
      (try replace b0:=hx2.blk b0);(try replace b2:=hx2.blk b2);(try replace hx:=hx.trans hx2);(try replace k0:=k0.mono hx2);(try replace k1 := k1.mono hx2)
      replace kg := kg.mono hx2
      cases h1 : mayB (p, lp) with
      | false => simp
      | true =>
      simp [b0]
      refine (r1_May_does k1 hx.1 (Nat.lt_of_lt_of_le hn2 (by omega))).mono ?_
      rintro _ G5 ⟨rfl, hx2⟩
      (try replace b0:=hx2.blk b0);(try replace b2:=hx2.blk b2);(try replace hx:=hx.trans hx2);(try replace k0:=k0.mono hx2);(try replace k1 := k1.mono hx2)
      replace kg := kg.mono hx2
      cases h2 : mayB (q, y :: l) with
      | false => simp
      | true =>
      cases q with
      | true => simp [b0]
      | false =>
      by_cases hgl : (digits g).length = 1
      · obtain ⟨z, hz⟩ := List.length_eq_one_iff.1 hgl
        have hgz : (g = 1) = (z = 1) := propext ⟨fun h => by have := digits_one.2 h; rw [hz] at this; simpa using this, fun h => digits_one.1 (by rw [hz, h])⟩
        have h3 := kg.ia (show 0 < (digits g).length by omega) (k := .i64)
        have h4 := kg.load (show 0 < (digits g).length by omega) (Ext.refl _)
        rw [hz] at h4
        simp at h3 h4
        simp [b0, b2, kg.slen, hgl, hz, h3, h4, hgz]
        intro _
        rw [Bool.eq_iff_iff, beq_iff_eq, decide_eq_true_eq]
        omega
      · have hgl' : ¬ ((digits g).length : Int) = 1 := by omega
        have hg1 : ¬ g = 1 := fun h => hgl (by rw [digits_one.2 h]; rfl)
        simp [b0, b2, kg.slen, hgl, hgl', hg1]

end Go.Proofs.YtjlohmnnldbjoaaGreat.AI

/- The reference's quotients: NormRat. -/
namespace Go.Proofs.YtjlohmnnldbjoaaGreat.AI
open Go
set_option maxHeartbeats 4000000

variable {fl : Nat} {H G : Heap} {R : PostP} {v w : Value} {a : RawR}

theorem r1_NormRat_does (h : RatV H v a) (hf : fl ≤ H.size) (hn : lenR a < 268435456) : Does env fl f_73 [v] H (fun r H' => RatV H' r (canonR (valR a)) ∧ Ext H H') R := by
  have hn1 : a.1.2.length < 268435456 := by unfold lenR at hn; omega
  have hn2 : a.2.2.length < 268435456 := by unfold lenR at hn; omega
  have k0 := h
  obtain ⟨s, u, rfl, hs, hu⟩ := h
  refine does_ext e_73 hf (h := ?_)
  intro ρ h0
  simp [s_73, r_73_0, h0, hs.cells, hu.cells]
  generalize hG : Array.push (Array.push H _) _ = G
  have hx2 : Ext H G := by rw [← hG]; exact (Ext.refl H).push.push
  have b0 : Heap.blk G H.size = .row false T_api_Rat [.bool a.1.1, s, .bool a.2.1, u] := by rw [← hG]; simp
  have b1 : Heap.blk G (H.size + 1) = .row false T_api_Rat [.bool false, .slice none 0 0, .bool false, .slice none 0 0] := by rw [← hG]; simp
  have hx := Ext.refl H
  clear hG
  (try replace b0:=hx2.blk b0);(try replace b1:=hx2.blk b1);(try replace hx:=hx.trans hx2);(try replace k0:=k0.mono hx2);(try replace k3:=k3.mono hx2);(try replace k4 := k4.mono hx2)
  replace hs := hs.mono hx2
  replace hu := hu.mono hx2
  simp [r_73_1, b0]
  refine (r1_MayRat_does k0 hx.1 hn).mono ?_
  rintro _ G2 ⟨rfl, hx2⟩
  (try replace b0:=hx2.blk b0);(try replace b1:=hx2.blk b1);(try replace hx:=hx.trans hx2);(try replace k0:=k0.mono hx2);(try replace k3:=k3.mono hx2);(try replace k4 := k4.mono hx2)
  replace hs := hs.mono hx2
  replace hu := hu.mono hx2
  have hsz := hx.1
  cases hm : mayR a with
  | false =>
    have hv : valR a = 0 := by
      unfold valR
      rw [hm]
      split <;> rfl
    simp
    simp [r_73_2]
    refine (r1_nought_does hx.1).mono ?_
    rintro _ G3 ⟨⟨s3, u3, rfl, k3, k4⟩, hx2⟩
    (try replace b0:=hx2.blk b0);(try replace b1:=hx2.blk b1);(try replace hx:=hx.trans hx2);(try replace k0:=k0.mono hx2);(try replace k3:=k3.mono hx2);(try replace k4 := k4.mono hx2)
    have hsz := hx.1
    simp [b1, k3.cells, k3.plain, k4.cells, k4.plain, hsz]
    generalize hS : Array.setIfInBounds G3 _ _ = G5
    have hsz := hx.1; (try replace k0 := k0.setS hS b1 (by decide)); (try replace k3 := k3.setS hS b1 (by decide)); (try replace k4 := k4.setS hS b1 (by decide)); (try replace b0 := set_keep hS b0 (by omega)); (try replace hx := set_ext hS hx (by omega)); replace b1 := set_new hS b1; clear hS hsz
    simp [b1]
    rw [hv]
    exact fun _ => ⟨s3, u3, rfl, k3, k4⟩
  | true =>
    simp [b0, hu.slen]
    refine ⟨fun hnil => ?_, fun hne => ?_⟩
    · have hv : valR a = 0 := by
        cases hz : zeroR a with
        | true => unfold valR; rw [hz]; rfl
        | false =>
          exfalso
          unfold mayR at hm
          rw [hz] at hm
          simp at hm
          obtain ⟨⟨⟨⟨m1, m2⟩, m3⟩, m4⟩, m5⟩ := hm
          exact m4 (by unfold valI; rw [hnil]; simp [natL])
      simp [r_73_2]
      refine (r1_nought_does hx.1).mono ?_
      rintro _ G3 ⟨⟨s3, u3, rfl, k3, k4⟩, hx2⟩
      (try replace b0:=hx2.blk b0);(try replace b1:=hx2.blk b1);(try replace hx:=hx.trans hx2);(try replace k0:=k0.mono hx2);(try replace k3:=k3.mono hx2);(try replace k4 := k4.mono hx2)
      have hsz := hx.1
      simp [b1, k3.cells, k3.plain, k4.cells, k4.plain, hsz]
      generalize hS : Array.setIfInBounds G3 _ _ = G5
      have hsz := hx.1; (try replace k0 := k0.setS hS b1 (by decide)); (try replace k3 := k3.setS hS b1 (by decide)); (try replace k4 := k4.setS hS b1 (by decide)); (try replace b0 := set_keep hS b0 (by omega)); (try replace hx := set_ext hS hx (by omega)); replace b1 := set_new hS b1; clear hS hsz
      simp [b1]
      rw [hv]
      exact fun _ => ⟨s3, u3, rfl, k3, k4⟩
    · have hz : zeroR a = false := by
        unfold zeroR
        cases hl : a.2.2 with
        | nil => exact absurd hl hne
        | cons y l => simp
      have hvp := valR_parts hz hm
      unfold mayR at hm
      rw [hz] at hm
      simp at hm
      obtain ⟨⟨⟨⟨m1, m2⟩, m3⟩, m4⟩, m5⟩ := hm
      rw [hvp]
      refine W_draw ?_
      simp [r_73_3, b0]
      refine (r1_mk_does (valI a.1) hs (by have := hx.1; omega) (by omega) (by unfold valI; rw [m1]; rfl)).mono ?_
      rintro _ G3 ⟨⟨s3, rfl, k3⟩, hx2⟩
      (try replace b0:=hx2.blk b0);(try replace b1:=hx2.blk b1);(try replace hx:=hx.trans hx2);(try replace k0:=k0.mono hx2);(try replace k3:=k3.mono hx2);(try replace k4 := k4.mono hx2)
      replace hu := hu.mono hx2
      simp [b0]
      refine (r1_mk_does (valI a.2) hu hx.1 (by omega) (by unfold valI; rw [m2, m3]; rfl)).mono ?_
      rintro _ G4 ⟨⟨s4, rfl, k4⟩, hx2⟩
      (try replace b0:=hx2.blk b0);(try replace b1:=hx2.blk b1);(try replace hx:=hx.trans hx2);(try replace k0:=k0.mono hx2);(try replace k3:=k3.mono hx2);(try replace k4 := k4.mono hx2)
      have hsz := hx.1
      simp [b1, k3.cells, k3.plain, k4.cells, k4.plain, hsz, writeL]
      generalize hS : Array.setIfInBounds G4 _ _ = G5
      have hsz := hx.1; (try replace k0 := k0.setS hS b1 (by decide)); (try replace k3 := k3.setS hS b1 (by decide)); (try replace k4 := k4.setS hS b1 (by decide)); (try replace b0 := set_keep hS b0 (by omega)); (try replace hx := set_ext hS hx (by omega)); replace b1 := set_new hS b1; clear hS hsz
      simp [b1]
      exact fun _ => ⟨s3, s4, rfl, k3, k4⟩

end Go.Proofs.YtjlohmnnldbjoaaGreat.AI

/- The reference's quotients: CmpRat. -/
namespace Go.Proofs.YtjlohmnnldbjoaaGreat.AI
open Go
set_option maxHeartbeats 4000000

variable {fl : Nat} {H G : Heap} {R : PostP} {v w : Value} {a b : RawR}

theorem r1_CmpRat_does (h : RatV H v a) (k : RatV H w b) (hf : fl ≤ H.size) (hn : lenR a < 67108864) (hm : lenR b < 67108864) : Does env fl f_38 [v, w] H (fun r H' => r = .int .i64 (cmpR (valR a) (valR b)) ∧ Ext H H') R := by
  have k0 := h
  have k1 := k
  obtain ⟨s, u, rfl, hs, hu⟩ := h
  obtain ⟨s', u', rfl, hs', hu'⟩ := k
  have z1 := szR_val hs.ok hu.ok
  have z2 := szR_val hs'.ok hu'.ok
  refine does_ext e_38 hf (h := ?_)
  intro ρ h0
  simp [s_38, r_38_0, h0, hs.cells, hu.cells, hs'.cells, hu'.cells]
  generalize hG : Array.push (Array.push H _) _ = G
  have hx2 : Ext H G := by rw [← hG]; exact (Ext.refl H).push.push
  have b0 : Heap.blk G H.size = .row false T_api_Rat [.bool a.1.1, s, .bool a.2.1, u] := by rw [← hG]; simp
  have b1 : Heap.blk G (H.size + 1) = .row false T_api_Rat [.bool b.1.1, s', .bool b.2.1, u'] := by rw [← hG]; simp
  have hx := Ext.refl H
  clear hG
  (try replace b0:=hx2.blk b0);(try replace b1:=hx2.blk b1);(try replace hx:=hx.trans hx2);(try replace k0:=k0.mono hx2);(try replace k1:=k1.mono hx2);(try replace k2:=k2.mono hx2);(try replace k3:=k3.mono hx2);(try replace k4:=k4.mono hx2);(try replace k5 := k5.mono hx2)
  simp [r_38_1, b0]
  refine (r1_NormRat_does k0 hx.1 (by omega)).mono ?_
  rintro _ G2 ⟨⟨s1, u1, rfl, k2, k3⟩, hx2⟩
  (try replace b0:=hx2.blk b0);(try replace b1:=hx2.blk b1);(try replace hx:=hx.trans hx2);(try replace k0:=k0.mono hx2);(try replace k1:=k1.mono hx2);(try replace k2:=k2.mono hx2);(try replace k3:=k3.mono hx2);(try replace k4:=k4.mono hx2);(try replace k5 := k5.mono hx2)
  have hsz := hx.1
  simp [b0, k2.cells, k2.plain, k3.cells, k3.plain, hsz]
  generalize hS : Array.setIfInBounds G2 _ _ = G3
  have hsz := hx.1; (try replace k0 := k0.setS hS b0 (by decide)); (try replace k1 := k1.setS hS b0 (by decide)); (try replace k2 := k2.setS hS b0 (by decide)); (try replace k3 := k3.setS hS b0 (by decide)); (try replace k4 := k4.setS hS b0 (by decide)); (try replace k5 := k5.setS hS b0 (by decide)); (try replace b1 := set_keep hS b1 (by omega)); (try replace hx := set_ext hS hx (by omega)); replace b0 := set_new hS b0; clear hS hsz
  simp [r_38_2, b1]
  refine (r1_NormRat_does k1 hx.1 (by omega)).mono ?_
  rintro _ G2 ⟨⟨s2, u2, rfl, k4, k5⟩, hx2⟩
  (try replace b0:=hx2.blk b0);(try replace b1:=hx2.blk b1);(try replace hx:=hx.trans hx2);(try replace k0:=k0.mono hx2);(try replace k1:=k1.mono hx2);(try replace k2:=k2.mono hx2);(try replace k3:=k3.mono hx2);(try replace k4:=k4.mono hx2);(try replace k5 := k5.mono hx2)
  have hsz := hx.1
  simp [b1, k4.cells, k4.plain, k5.cells, k5.plain, hsz]
  generalize hS : Array.setIfInBounds G2 _ _ = G4
  have hsz := hx.1; (try replace k0 := k0.setS hS b1 (by decide)); (try replace k1 := k1.setS hS b1 (by decide)); (try replace k2 := k2.setS hS b1 (by decide)); (try replace k3 := k3.setS hS b1 (by decide)); (try replace k4 := k4.setS hS b1 (by decide)); (try replace k5 := k5.setS hS b1 (by decide)); (try replace b0 := set_keep hS b0 (by omega)); (try replace hx := set_ext hS hx (by omega)); replace b1 := set_new hS b1; clear hS hsz
  clear k0 k1 hs hu hs' hu'
  generalize valR a = x at *
  generalize valR b = y at *
  have x1 := szR_num x
  have x2 := szR_den x
  have y1 := szR_num y
  have y2 := szR_den y
  have c1 : (canonR x).1.2.length = lz x.num := len_canonI _
  have c2 : (canonR x).2.2.length = lz x.den := len_canonI _
  have c3 : (canonR y).1.2.length = lz y.num := len_canonI _
  have c4 : (canonR y).2.2.length = lz y.den := len_canonI _
  have i1 : IntV G4 (.agg #[.bool (canonR x).1.1, s1]) (canonI x.num) := ⟨s1, rfl, k2⟩
  have i2 : IntV G4 (.agg #[.bool (canonR x).2.1, u1]) (canonI x.den) := ⟨u1, rfl, k3⟩
  have i3 : IntV G4 (.agg #[.bool (canonR y).1.1, s2]) (canonI y.num) := ⟨s2, rfl, k4⟩
  have i4 : IntV G4 (.agg #[.bool (canonR y).2.1, u2]) (canonI y.den) := ⟨u2, rfl, k5⟩
  clear k2 k3 k4 k5
  refine W_draw ?_
  simp [r_38_3, b0, b1]
  refine (r1_Mul_does i1 i4 (by have := hx.1; omega) (by rw [len_canonI]; omega) (by rw [len_canonI]; omega)).mono ?_
  rintro m1 G5 ⟨j1, hx2⟩
  (try replace b0:=hx2.blk b0);(try replace b1:=hx2.blk b1);(try replace hx:=hx.trans hx2);(try replace k0:=k0.mono hx2);(try replace k1:=k1.mono hx2);(try replace k2:=k2.mono hx2);(try replace k3:=k3.mono hx2);(try replace k4:=k4.mono hx2);(try replace k5 := k5.mono hx2)
  replace i2 := i2.mono hx2
  replace i3 := i3.mono hx2
  simp [b0, b1]
  refine (r1_Mul_does i3 i2 hx.1 (by rw [len_canonI]; omega) (by rw [len_canonI]; omega)).mono ?_
  rintro m2 G6 ⟨j2, hx2⟩
  (try replace b0:=hx2.blk b0);(try replace b1:=hx2.blk b1);(try replace hx:=hx.trans hx2);(try replace k0:=k0.mono hx2);(try replace k1:=k1.mono hx2);(try replace k2:=k2.mono hx2);(try replace k3:=k3.mono hx2);(try replace k4:=k4.mono hx2);(try replace k5 := k5.mono hx2)
  replace j1 := j1.mono hx2
  rw [val_canon, val_canon] at j1 j2
  simp
  have q1 := lz_mul x.num y.den
  have q2 := lz_mul y.num x.den
  refine (r1_Cmp_does j1 j2 hx.1 (by rw [len_canonI]; omega) (by rw [len_canonI]; omega)).mono ?_
  rintro _ G7 ⟨rfl, hx2⟩
  rw [val_canon, val_canon, cmp_num]
  simp

end Go.Proofs.YtjlohmnnldbjoaaGreat.AI
