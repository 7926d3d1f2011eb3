/- Part 14 of the proof. -/
import Derived.Test.YtacninhfdfhgjaaGreatM02
import Derived.Test.YtacninhfdfhgjaaGreatM12
set_option linter.unusedVariables false
set_option linter.unusedSimpArgs false
set_option linter.unusedSectionVars false
namespace Go.Proofs.YtacninhfdfhgjaaGreat.AI
section
open Go
noncomputable abbrev O0R (base:Nat):Cx:=⟨Tryz.prog,base⟩
variable {base:Nat}
theorem r0b:Tryz.prog.follows .mixedOrders=true:=by kernel_rfl
theorem p0S {l:List (Nat × q0b)} {f:Nat} {s:q0b} (h:l.lookup f=some s):(f,s) ∈ l:=by
 induction l with
 | nil=>simp at h
 | cons p r ih =>
  obtain ⟨a,b⟩:=p
  simp only [List.lookup] at h
  split at h
  ·rename_i hb
   simp only [Q0V] at h
   have:f=a:=by simpa using hb
   subst this h
   exact T0b
  ·exact S0D _ (ih h)
theorem w0x:H0p (O0R base) env where
 code f sf h:=p0s (f,sf) (p0S h)
 mixed:=r0b
theorem O0N (n:Nat):d0J (O0R base) (a0T env n) :=
 o0i env w0x (fun f v h=>by simp [env] at h) (fun q hq=>by simp [env] at hq) (fun call h1 h2=>F0u h1 h2 r0b) n
end
end Go.Proofs.YtacninhfdfhgjaaGreat.AI
