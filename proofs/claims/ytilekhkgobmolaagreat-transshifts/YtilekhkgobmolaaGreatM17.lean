/- Part 18 of the proof: AiSim11, AiRow6. -/
import Derived.Test.YtilekhkgobmolaaGreatM11
import Derived.Test.YtilekhkgobmolaaGreatM12
import Derived.Test.YtilekhkgobmolaaGreatM16
set_option linter.unusedVariables false
set_option linter.unusedSimpArgs false
set_option linter.unusedSectionVars false
namespace Go.Proofs.YtilekhkgobmolaaGreat.AI
section
open Go
noncomputable abbrev Xb (base:Nat):Cx:=⟨Tryz.prog,base⟩
variable {base:Nat}
theorem mixed:Tryz.prog.follows .mixedOrders=true:=by kernel_rfl
theorem T0y:∀ p ∈ r0I ++ o0c,b0l Tryz.prog p.1=some p.2:=fun p hp=>by
 rcases a1g.1 hp with h | h
 ·exact v0U p h
 ·exact r0F p h
theorem X0C:qf.nL ≠ 0:=by show (4:Nat) ≠ 0;omega
theorem X0D:qf.nS ≠ 0:=by show (8:Nat) ≠ 0;omega
theorem w0T {l:List (Nat × t0D)} {f:Nat} {s:t0D} (h:l.lookup f=some s):(f,s) ∈ l:=by
 induction l with
 | nil=>simp at h
 | cons p r ih =>
  obtain ⟨a,b⟩:=p
  simp only [List.lookup] at h
  split at h
  ·rename_i hb
   simp only [Z0G] at h
   have:f=a:=by simpa using hb
   subst this h
   exact c1p
  ·exact b1z _ (ih h)
theorem R0K:Q0K (Xb base) env where
 code f sf h:=T0y (f,sf) (w0T h)
 mixed:=mixed
theorem z0q {E:Env} (hE:E.quick=env.quick):x0n (Xb base) E:=by
 intro q hq call hcall hkeep
 rw [hE] at hq
 have e:q=(match env.quick with | some q=>q | none=>default):=by rw [hq]
 subst e
 exact w0A (X:=Xb base) qf hcall (x0N hcall hkeep mixed) X0C X0D
theorem sim (n:Nat):d0N (Xb base) (b0h env n) :=
 t0S env R0K (fun f v h=>by simp [env] at h) (z0q rfl) (fun call h1 h2=>x0N h1 h2 mixed) n
end
end Go.Proofs.YtilekhkgobmolaaGreat.AI
namespace Go.Proofs.YtilekhkgobmolaaGreat
open Go Go.Proofs Go.ChangeShapes Go.WideShapes Go.ChangeAt Go.RowKit Go.Proofs.YtilekhkgobmolaaGreat.AI
theorem G0L:ownKnob Tryz.prog.godebug=none:=by kernel_rfl
theorem G0B:laidOutB Tryz.prog=true:=by kernel_rfl
theorem T0C:Tryz.prog.underlying 4=some .bool:=by kernel_rfl
abbrev fit (t:TypeId):Prop:=e0o Tryz.prog 12 t=true∧Tryz.prog.readableRec t=true∧t < Tryz.prog.types.size
theorem X0x:fit 21:=⟨by kernel_rfl,by kernel_rfl,of_decide_eq_true (by kernel_rfl)⟩
theorem X0y:fit 61:=⟨by kernel_rfl,by kernel_rfl,of_decide_eq_true (by kernel_rfl)⟩
theorem Z0t:fit 4:=⟨by kernel_rfl,by kernel_rfl,of_decide_eq_true (by kernel_rfl)⟩
end Go.Proofs.YtilekhkgobmolaaGreat

