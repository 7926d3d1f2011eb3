/- Part 18 of the proof: AiSim11, AiRow6. -/
import Derived.Test.YtilekhkgobmolaaGreatM11
import Derived.Test.YtilekhkgobmolaaGreatM12
import Derived.Test.YtilekhkgobmolaaGreatM16
set_option linter.unusedVariables false
set_option linter.unusedSimpArgs false
set_option linter.unusedSectionVars false
namespace Go.Proofs.YtilekhkgobmolaaGreat.AI
section
open Go
noncomputable abbrev Xb (base:Nat):Cx:=⟨Tryz.prog,base⟩
variable {base:Nat}
theorem mixed:Tryz.prog.follows .mixedOrders=true:=by kernel_rfl
theorem V0w:∀ p ∈ s0j ++ o0t,b0k Tryz.prog p.1=some p.2:=fun p hp=>by
 rcases c1s.1 hp with h | h
 ·exact w0y p h
 ·exact s0g p h
theorem Z0L:qf.nL ≠ 0:=by show (4:Nat) ≠ 0;omega
theorem Z0M:qf.nS ≠ 0:=by show (8:Nat) ≠ 0;omega
theorem x0D {l:List (Nat × u0g)} {f:Nat} {s:u0g} (h:l.lookup f=some s):(f,s) ∈ l:=by
 induction l with
 | nil=>simp at h
 | cons p r ih =>
  obtain ⟨a,b⟩:=p
  simp only [List.lookup] at h
  split at h
  ·rename_i hb
   simp only [b1U] at h
   have:f=a:=by simpa using hb
   subst this h
   exact e1I
  ·exact d1Q _ (ih h)
theorem T0r:S0r (Xb base) env where
 code f sf h:=V0w (f,sf) (x0D h)
 mixed:=mixed
theorem z0Z {E:Env} (hE:E.quick=env.quick):x0X (Xb base) E:=by
 intro q hq call hcall hkeep
 rw [hE] at hq
 have e:q=(match env.quick with | some q=>q | none=>default):=by rw [hq]
 subst e
 exact x0h (X:=Xb base) qf hcall (y0w hcall hkeep mixed) Z0L Z0M
theorem sim (n:Nat):d0R (Xb base) (b0i env n) :=
 u0t env T0r (fun f v h=>by simp [env] at h) (z0Z rfl) (fun call h1 h2=>y0w h1 h2 mixed) n
end
end Go.Proofs.YtilekhkgobmolaaGreat.AI
namespace Go.Proofs.YtilekhkgobmolaaGreat
open Go Go.Proofs Go.ChangeShapes Go.WideShapes Go.ChangeAt Go.RowKit Go.Proofs.YtilekhkgobmolaaGreat.AI
theorem H0I:ownKnob Tryz.prog.godebug=none:=by kernel_rfl
theorem H0x:laidOutB Tryz.prog=true:=by kernel_rfl
theorem V0A:Tryz.prog.underlying 4=some .bool:=by kernel_rfl
abbrev fit (t:TypeId):Prop:=e0p Tryz.prog 12 t=true∧Tryz.prog.readableRec t=true∧t < Tryz.prog.types.size
theorem Z0A:fit 24:=⟨by kernel_rfl,by kernel_rfl,of_decide_eq_true (by kernel_rfl)⟩
theorem Z0B:fit 28:=⟨by kernel_rfl,by kernel_rfl,of_decide_eq_true (by kernel_rfl)⟩
theorem Z0C:fit 29:=⟨by kernel_rfl,by kernel_rfl,of_decide_eq_true (by kernel_rfl)⟩
end Go.Proofs.YtilekhkgobmolaaGreat

