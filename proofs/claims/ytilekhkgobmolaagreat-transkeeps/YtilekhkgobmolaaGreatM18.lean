/- Part 19 of the proof. -/
import Derived.Test.YtilekhkgobmolaaGreatM13
import Derived.Test.YtilekhkgobmolaaGreatM17
set_option linter.unusedVariables false
set_option linter.unusedSimpArgs false
set_option linter.unusedSectionVars false
namespace Go.Proofs.YtilekhkgobmolaaGreat.AI
section
open Go
noncomputable abbrev Xb (base:Nat):Cx:=⟨Tryz.prog,base⟩
variable {base:Nat}
theorem mixed:Tryz.prog.follows .mixedOrders=true:=by kernel_rfl
theorem c1Y:∀ p ∈ u0u ++ q0k,b0e Tryz.prog p.1=some p.2:=fun p hp=>by
 rcases k1T.1 hp with h | h
 ·exact z0j p h
 ·exact u0p p h
theorem h1R:qf.nL ≠ 0:=by show (4:Nat) ≠ 0;omega
theorem h1S:qf.nS ≠ 0:=by show (8:Nat) ≠ 0;omega
theorem A0q {l:List (Nat × w0J)} {f:Nat} {s:w0J} (h:l.lookup f=some s):(f,s) ∈ l:=by
 induction l with
 | nil=>simp at h
 | cons p r ih =>
  obtain ⟨a,b⟩:=p
  simp only [List.lookup] at h
  split at h
  ·rename_i hb
   simp only [k1z] at h
   have:f=a:=by simpa using hb
   subst this h
   exact n1B
  ·exact m1I _ (ih h)
theorem a1G:Z0H (Xb base) env where
 code f sf h:=c1Y (f,sf) (A0q h)
 mixed:=mixed
theorem C0T {E:Env} (j:E.quick=env.quick):A0K (Xb base) E:=by
 intro q h call hcall c
 rw [j] at h
 have e:q=(match env.quick with | some q=>q | none=>default):=by rw [h]
 subst e
 exact z0U (X:=Xb base) qf hcall (B0i hcall c mixed) h1R h1S
theorem sim (n:Nat):e0l (Xb base) (b0q env n) :=
 w0W env a1G (fun f v h=>by simp [env] at h) (C0T rfl) (fun call c e=>B0i c e mixed) n
end
end Go.Proofs.YtilekhkgobmolaaGreat.AI
namespace Go.Proofs.YtilekhkgobmolaaGreat
open Go Go.Proofs Go.ChangeShapes Go.WideShapes Go.ChangeAt Go.RowKit Go.Proofs.YtilekhkgobmolaaGreat.AI
theorem L0S:ownKnob Tryz.prog.godebug=none:=by kernel_rfl
theorem L0I:laidOutB Tryz.prog=true:=by kernel_rfl
theorem d1c:Tryz.prog.underlying 4=some .bool:=by kernel_rfl
abbrev fit (t:TypeId):Prop:=e0Q Tryz.prog 12 t=true/\Tryz.prog.readableRec t=true/\t < Tryz.prog.types.size
theorem h1E:fit 24:=⟨by kernel_rfl,by kernel_rfl,of_decide_eq_true (by kernel_rfl)⟩
theorem h1F:fit 28:=⟨by kernel_rfl,by kernel_rfl,of_decide_eq_true (by kernel_rfl)⟩
theorem h1G:fit 29:=⟨by kernel_rfl,by kernel_rfl,of_decide_eq_true (by kernel_rfl)⟩
theorem h1H:fit 54:=⟨by kernel_rfl,by kernel_rfl,of_decide_eq_true (by kernel_rfl)⟩
end Go.Proofs.YtilekhkgobmolaaGreat

