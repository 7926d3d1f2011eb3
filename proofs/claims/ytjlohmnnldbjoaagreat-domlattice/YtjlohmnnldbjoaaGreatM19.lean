/- Part 20 of the proof: AiSim11, AiRow4. -/
import Derived.Test.YtjlohmnnldbjoaaGreatM08
import Derived.Test.YtjlohmnnldbjoaaGreatM12
import Derived.Test.YtjlohmnnldbjoaaGreatM13
import Derived.Test.YtjlohmnnldbjoaaGreatM18
set_option linter.unusedVariables false
set_option linter.unusedSimpArgs false
set_option linter.unusedSectionVars false

/- The simulation, for this program: what the abstract machine answers the model's calls do. -/
namespace Go.Proofs.YtjlohmnnldbjoaaGreat.AI
open Go

noncomputable abbrev Xb (base : Nat) : Cx := ⟨Tryz.prog, base⟩
variable {base : Nat}

theorem mixed : Tryz.prog.follows .mixedOrders = true := by kernel_rfl
theorem tab_ok : ∀ p ∈ awakeTab ++ codeTab, cFun Tryz.prog p.1 = some p.2 := fun p hp => by
  rcases List.mem_append.1 hp with h | h
  · exact awakeTab_ok p h
  · exact codeTab_ok p h
theorem tab_small : ((awakeTab ++ codeTab).all fun p => Nat.blt p.1 1024) = true := by kernel_rfl
theorem qf_np : qf.nL ≠ 0 := by show (4 : Nat) ≠ 0; omega
theorem qf_ns : qf.nS ≠ 0 := by show (8 : Nat) ≠ 0; omega
theorem code_mk (c : FuncId → Option SFun) (q : Option Quick) (k : List (FuncId × Value)) (f : FuncId) : (Env.mk c q k).code f = c f := rfl
theorem envF_mem (f : FuncId) (sf : SFun) (h : envF.code f = some sf) : (f, sf) ∈ awakeTab ++ codeTab := by
  unfold envF at h
  rw [code_mk] at h
  exact tabO_mem (awakeTab ++ codeTab) f sf tab_small h
theorem envF_ok : EnvOk (Xb base) envF where
  code f sf h := tab_ok (f, sf) (envF_mem f sf h)
  mixed := mixed
theorem env_ok : EnvOk (Xb base) env where
  code f sf h := codeTab_ok (f, sf) (tab_lookup h)
  mixed := mixed
theorem quick_okE {E : Env} (hE : E.quick = env.quick) : QuickOk (Xb base) E := by
  intro q hq call hcall hkeep
  rw [hE] at hq
  have e : q = (match env.quick with | some q => q | none => default) := by rw [hq]
  subst e
  exact quick_call (X := Xb base) qf hcall (draw_ok hcall hkeep mixed) qf_np qf_ns
theorem simF (n : Nat) : CallOk (Xb base) (callA envF n) :=
  call_sim envF envF_ok (fun f v h => by simp [envF] at h) (quick_okE rfl) (fun call h1 h2 => draw_ok h1 h2 mixed) n
theorem known_ok : KnownOk (Xb base) env := by
  intro f v h
  obtain ⟨H1, h1⟩ := awake_run
  have e : f = f_17 ∧ v = .bool true := by
    simp only [env, List.lookup] at h
    split at h
    · rename_i hb
      simp only [Option.some.injEq] at h
      exact ⟨by simpa using hb, h.symm⟩
    · cases h
  obtain ⟨rfl, rfl⟩ := e
  exact known_of_run (simF 50) h1
theorem sim (n : Nat) : CallOk (Xb base) (callA env n) :=
  call_sim env env_ok known_ok (quick_okE rfl) (fun call h1 h2 => draw_ok h1 h2 mixed) n

end Go.Proofs.YtjlohmnnldbjoaaGreat.AI

/- What the rows of the laws need of the program. -/
namespace Go.Proofs.YtjlohmnnldbjoaaGreat
open Go Go.Proofs Go.ChangeShapes Go.WideShapes Go.ChangeAt Go.RowKit Go.Proofs.YtjlohmnnldbjoaaGreat.AI

theorem own_knob : ownKnob Tryz.prog.godebug = none := by kernel_rfl
theorem laid_out : laidOutB Tryz.prog = true := by kernel_rfl
theorem plain27 : plainT Tryz.prog 12 27 = true := by kernel_rfl
theorem read27 : Tryz.prog.readableRec 27 = true := by kernel_rfl
theorem lt27 : 27 < Tryz.prog.types.size := of_decide_eq_true (by kernel_rfl)
theorem under4 : Tryz.prog.underlying 4 = some .bool := by kernel_rfl
/-- what law_contract asks of a parameter's type. -/
abbrev fit (t : TypeId) : Prop := plainT Tryz.prog 12 t = true ∧ Tryz.prog.readableRec t = true ∧ t < Tryz.prog.types.size
theorem fit3 : fit 3 := ⟨by kernel_rfl, by kernel_rfl, of_decide_eq_true (by kernel_rfl)⟩
theorem fit25 : fit 25 := ⟨by kernel_rfl, by kernel_rfl, of_decide_eq_true (by kernel_rfl)⟩
theorem fit27 : fit 27 := ⟨by kernel_rfl, by kernel_rfl, of_decide_eq_true (by kernel_rfl)⟩
theorem fit37 : fit 37 := ⟨by kernel_rfl, by kernel_rfl, of_decide_eq_true (by kernel_rfl)⟩

end Go.Proofs.YtjlohmnnldbjoaaGreat
