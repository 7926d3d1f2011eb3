/- Part 19 of the proof: AiSim11, AiRow4. -/
import Derived.Test.YtjlohmnnldbjoaaGreatM07
import Derived.Test.YtjlohmnnldbjoaaGreatM12
import Derived.Test.YtjlohmnnldbjoaaGreatM17
set_option linter.unusedVariables false
set_option linter.unusedSimpArgs false
set_option linter.unusedSectionVars false
namespace Go.Proofs.YtjlohmnnldbjoaaGreat.AI
section
open Go
noncomputable abbrev Xb (base:Nat):Cx:=⟨Tryz.prog,base⟩
variable {base:Nat}
theorem mixed:Tryz.prog.follows .mixedOrders=true:=by kernel_rfl
theorem a1H:∀ p ∈ t0p ++ p0y,b0f Tryz.prog p.1=some p.2:=fun p hp=>by
 rcases i1g.1 hp with h | h
 ·exact y0a p h
 ·exact t0l p h
theorem f1n:qf.nL ≠ 0:=by show (4:Nat) ≠ 0;omega
theorem f1o:qf.nS ≠ 0:=by show (8:Nat) ≠ 0;omega
theorem z0m {l:List (Nat × v0D)} {f:Nat} {s:v0D} (h:l.lookup f=some s):(f,s) ∈ l:=by
 induction l with
 | nil=>simp at h
 | cons p r ih =>
  obtain ⟨a,b⟩:=p
  simp only [List.lookup] at h
  split at h
  ·rename_i hb
   simp only [h1D] at h
   have:f=a:=by simpa using hb
   subst this h
   exact k1u
  ·exact j1K _ (ih h)
theorem Y0A:X0E (Xb base) env where
 code f sf h:=a1H (f,sf) (z0m h)
 mixed:=mixed
theorem B0I {E:Env} (hE:E.quick=env.quick):z0D (Xb base) E:=by
 intro q hq call hcall hkeep
 rw [hE] at hq
 have e:q=(match env.quick with | some q=>q | none=>default):=by rw [hq]
 subst e
 exact y0Q (X:=Xb base) qf hcall (z0W hcall hkeep mixed) f1n f1o
theorem sim (n:Nat):d0Z (Xb base) (b0r env n) :=
 v0P env Y0A (fun f v h=>by simp [env] at h) (B0I rfl) (fun call h1 h2=>z0W h1 h2 mixed) n
end
end Go.Proofs.YtjlohmnnldbjoaaGreat.AI
namespace Go.Proofs.YtjlohmnnldbjoaaGreat
open Go Go.Proofs Go.ChangeShapes Go.WideShapes Go.ChangeAt Go.RowKit Go.Proofs.YtjlohmnnldbjoaaGreat.AI
theorem L0v:ownKnob Tryz.prog.godebug=none:=by kernel_rfl
theorem L0m:laidOutB Tryz.prog=true:=by kernel_rfl
theorem a1L:Tryz.prog.underlying 4=some .bool:=by kernel_rfl
abbrev fit (t:TypeId):Prop:=e0B Tryz.prog 12 t=true∧Tryz.prog.readableRec t=true∧t < Tryz.prog.types.size
theorem h1q:fit 3:=⟨by kernel_rfl,by kernel_rfl,of_decide_eq_true (by kernel_rfl)⟩
theorem f1e:fit 25:=⟨by kernel_rfl,by kernel_rfl,of_decide_eq_true (by kernel_rfl)⟩
theorem f1f:fit 27:=⟨by kernel_rfl,by kernel_rfl,of_decide_eq_true (by kernel_rfl)⟩
end Go.Proofs.YtjlohmnnldbjoaaGreat

