/- Part 19 of the proof: AiSim11, AiRow4. -/
import Derived.Test.YtjlohmnnldbjoaaGreatM06
import Derived.Test.YtjlohmnnldbjoaaGreatM12
import Derived.Test.YtjlohmnnldbjoaaGreatM17
set_option linter.unusedVariables false
set_option linter.unusedSimpArgs false
set_option linter.unusedSectionVars false
namespace Go.Proofs.YtjlohmnnldbjoaaGreat.AI
section
open Go
noncomputable abbrev Xb (base:Nat):Cx:=⟨Tryz.prog,base⟩
variable {base:Nat}
theorem mixed:Tryz.prog.follows .mixedOrders=true:=by kernel_rfl
theorem Z0a:∀ p ∈ t0e ++ p0n,b0j Tryz.prog p.1=some p.2:=fun p hp=>by
 rcases g1o.1 hp with h | h
 ·exact x0L p h
 ·exact t0b p h
theorem d1A:qf.nL ≠ 0:=by show (4:Nat) ≠ 0;omega
theorem d1B:qf.nS ≠ 0:=by show (8:Nat) ≠ 0;omega
theorem y0V {l:List (Nat × v0o)} {f:Nat} {s:v0o} (h:l.lookup f=some s):(f,s) ∈ l:=by
 induction l with
 | nil=>simp at h
 | cons p r ih =>
  obtain ⟨a,b⟩:=p
  simp only [List.lookup] at h
  split at h
  ·rename_i hb
   simp only [f1L] at h
   have:f=a:=by simpa using hb
   subst this h
   exact i1F
  ·exact h1S _ (ih h)
theorem X0h:W0g (Xb base) env where
 code f sf h:=Z0a (f,sf) (y0V h)
 mixed:=mixed
theorem B0k {E:Env} (hE:E.quick=env.quick):z0j (Xb base) E:=by
 intro q hq call hcall hkeep
 rw [hE] at hq
 have e:q=(match env.quick with | some q=>q | none=>default):=by rw [hq]
 subst e
 exact y0C (X:=Xb base) qf hcall (z0D hcall hkeep mixed) d1A d1B
theorem sim (n:Nat):d0T (Xb base) (b0o env n) :=
 v0z env X0h (fun f v h=>by simp [env] at h) (B0k rfl) (fun call h1 h2=>z0D h1 h2 mixed) n
end
end Go.Proofs.YtjlohmnnldbjoaaGreat.AI
namespace Go.Proofs.YtjlohmnnldbjoaaGreat
open Go Go.Proofs Go.ChangeShapes Go.WideShapes Go.ChangeAt Go.RowKit Go.Proofs.YtjlohmnnldbjoaaGreat.AI
theorem K0F:ownKnob Tryz.prog.godebug=none:=by kernel_rfl
theorem K0w:laidOutB Tryz.prog=true:=by kernel_rfl
theorem Z0e:Tryz.prog.underlying 4=some .bool:=by kernel_rfl
abbrev fit (t:TypeId):Prop:=e0x Tryz.prog 12 t=true∧Tryz.prog.readableRec t=true∧t < Tryz.prog.types.size
end Go.Proofs.YtjlohmnnldbjoaaGreat

