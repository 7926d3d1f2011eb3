/- Part 18 of the proof. -/
import Derived.Test.YtilekhkgobmolaaGreatM12
import Derived.Test.YtilekhkgobmolaaGreatM16
set_option linter.unusedVariables false
set_option linter.unusedSimpArgs false
set_option linter.unusedSectionVars false
namespace Go.Proofs.YtilekhkgobmolaaGreat.AI
section
open Go
noncomputable abbrev Xb (base:Nat):Cx:=⟨Tryz.prog,base⟩
variable {base:Nat}
theorem mixed:Tryz.prog.follows .mixedOrders=true:=by kernel_rfl
theorem a1V:∀ p ∈ t0K ++ p0K,b0g Tryz.prog p.1=some p.2:=fun p hp=>by
 rcases i1F.1 hp with h | h
 ·exact y0w p h
 ·exact t0H p h
theorem f1F:qf.nL ≠ 0:=by show (4:Nat) ≠ 0;omega
theorem f1G:qf.nS ≠ 0:=by show (8:Nat) ≠ 0;omega
theorem z0B {l:List (Nat × v0W)} {f:Nat} {s:v0W} (h:l.lookup f=some s):(f,s) ∈ l:=by
 induction l with
 | nil=>simp at h
 | cons p r ih =>
  obtain ⟨a,b⟩:=p
  simp only [List.lookup] at h
  split at h
  ·rename_i hb
   simp only [i1l] at h
   have:f=a:=by simpa using hb
   subst this h
   exact l1j
  ·exact k1r _ (ih h)
theorem Y0F:X0F (Xb base) env where
 code f sf h:=a1V (f,sf) (z0B h)
 mixed:=mixed
theorem C0f {E:Env} (hE:E.quick=env.quick):z0V (Xb base) E:=by
 intro q hq call hcall hkeep
 rw [hE] at hq
 have e:q=(match env.quick with | some q=>q | none=>default):=by rw [hq]
 subst e
 exact z0f (X:=Xb base) qf hcall (A0w hcall hkeep mixed) f1F f1G
theorem sim (n:Nat):e0g (Xb base) (b0p env n) :=
 w0k env Y0F (fun f v h=>by simp [env] at h) (C0f rfl) (fun call h1 h2=>A0w h1 h2 mixed) n
end
end Go.Proofs.YtilekhkgobmolaaGreat.AI
namespace Go.Proofs.YtilekhkgobmolaaGreat
open Go Go.Proofs Go.ChangeShapes Go.WideShapes Go.ChangeAt Go.RowKit Go.Proofs.YtilekhkgobmolaaGreat.AI
theorem K0L:ownKnob Tryz.prog.godebug=none:=by kernel_rfl
theorem K0B:laidOutB Tryz.prog=true:=by kernel_rfl
theorem a1Z:Tryz.prog.underlying 4=some .bool:=by kernel_rfl
abbrev fit (t:TypeId):Prop:=e0M Tryz.prog 12 t=true∧Tryz.prog.readableRec t=true∧t < Tryz.prog.types.size
theorem f1u:fit 24:=⟨by kernel_rfl,by kernel_rfl,of_decide_eq_true (by kernel_rfl)⟩
theorem f1v:fit 28:=⟨by kernel_rfl,by kernel_rfl,of_decide_eq_true (by kernel_rfl)⟩
theorem f1w:fit 29:=⟨by kernel_rfl,by kernel_rfl,of_decide_eq_true (by kernel_rfl)⟩
end Go.Proofs.YtilekhkgobmolaaGreat

