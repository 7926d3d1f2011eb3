/- Part 18 of the proof: AiSim11, AiRow4. -/
import Derived.Test.YtjlohmnnldbjoaaGreatM07
import Derived.Test.YtjlohmnnldbjoaaGreatM11
import Derived.Test.YtjlohmnnldbjoaaGreatM16
set_option linter.unusedVariables false
set_option linter.unusedSimpArgs false
set_option linter.unusedSectionVars false
/- The simulation, for this program: what the abstract machine answers the model's calls do. -/
namespace Go.Proofs.YtjlohmnnldbjoaaGreat.AI
section
open Go
noncomputable abbrev Xb (base:Nat):Cx:=⟨Tryz.prog,base⟩
variable {base:Nat}
theorem mixed:Tryz.prog.follows .mixedOrders=true:=by kernel_rfl
theorem S0f:∀ p ∈ p0b ++ l0J,b0s Tryz.prog p.1=some p.2:=fun p hp=>by
 rcases List.mem_append.1 hp with h | h
 ·exact u0c p h
 ·exact o0Y p h
theorem W0b:qf.nL ≠ 0:=by show (4:Nat) ≠ 0;omega
theorem W0c:qf.nS ≠ 0:=by show (8:Nat) ≠ 0;omega
theorem v0a {l:List (Nat × q0Z)} {f:Nat} {s:q0Z} (h:l.lookup f=some s):(f,s) ∈ l:=by
 induction l with
 | nil=>simp at h
 | cons p r ih =>
  obtain ⟨a,b⟩:=p
  simp only [List.lookup] at h
  split at h
  ·rename_i hb
   simp only [Option.some.injEq] at h
   have:f=a:=by simpa using hb
   subst this h
   exact List.mem_cons_self
  ·exact List.mem_cons_of_mem _ (ih h)
theorem Q0E:P0N (Xb base) env where
 code f sf h:=S0f (f,sf) (v0a h)
 mixed:=mixed
theorem x0t {E:Env} (hE:E.quick=env.quick):v0q (Xb base) E:=by
 intro q hq call hcall hkeep
 rw [hE] at hq
 have e:q=(match env.quick with | some q=>q | none=>default):=by rw [hq]
 subst e
 exact u0U (X:=Xb base) qf hcall (v0P hcall hkeep mixed) W0b W0c
theorem sim (n:Nat):d0C (Xb base) (b0e env n) :=
 r0o env Q0E (fun f v h=>by simp [env] at h) (x0t rfl) (fun call h1 h2=>v0P h1 h2 mixed) n
end
/- What the rows of the laws need of the program. -/
end Go.Proofs.YtjlohmnnldbjoaaGreat.AI
namespace Go.Proofs.YtjlohmnnldbjoaaGreat
open Go Go.Proofs Go.ChangeShapes Go.WideShapes Go.ChangeAt Go.RowKit Go.Proofs.YtjlohmnnldbjoaaGreat.AI
theorem G0o:ownKnob Tryz.prog.godebug=none:=by kernel_rfl
theorem G0i:laidOutB Tryz.prog=true:=by kernel_rfl
theorem S0k:Tryz.prog.underlying 4=some .bool:=by kernel_rfl
abbrev fit (t:TypeId):Prop:=e0g Tryz.prog 12 t=true∧Tryz.prog.readableRec t=true∧t < Tryz.prog.types.size
end Go.Proofs.YtjlohmnnldbjoaaGreat

