/- Part 17 of the proof: AiTabAll. -/
import Derived.Test.YtilekhkgobmolaaGreatM13
import Derived.Test.YtilekhkgobmolaaGreatM14
import Derived.Test.YtilekhkgobmolaaGreatM15
set_option linter.unusedVariables false
set_option linter.unusedSimpArgs false
set_option linter.unusedSectionVars false
namespace Go.Proofs.YtilekhkgobmolaaGreat.AI
section
open Go
theorem b0m {P:Program} {a:Nat × u0g} {l:List (Nat × u0g)} (h:b0k P a.1=some a.2) (hl:∀ p ∈ l,b0k P p.1=some p.2):∀ p ∈ a :: l,b0k P p.1=some p.2:=List.forall_mem_cons.2 ⟨h,hl⟩
theorem a1o {P:Program}:∀ p ∈ ([]:List (Nat × u0g)),b0k P p.1=some p.2:=fun _ h=>by cases h
set_option maxRecDepth 20000 in
theorem w0y:∀ p ∈ s0j,b0k Tryz.prog p.1=some p.2 :=
 b0m e0D (
 b0m f0M (
 b0m g0D (
 b0m s0M (
 b0m s0N (
 b0m h0u (
 b0m f0s (
 b0m f0L (
 b0m g0j (
 b0m h0P (
 b0m e0J (
 b0m g0m (
 b0m g0l (
 b0m f0K (
 b0m f0t (
 b0m p0e (
 b0m r0l (
 b0m l0o (
 b0m l0k (
 b0m z0w (
 b0m H0J (
 b0m g0k (
 b0m h0Q (
 b0m f0O (
 b0m g0F (
 b0m g0E (
 b0m g0i (
 b0m g0G (
 b0m s0F (
 b0m r0j (
 b0m c0L (
 b0m m0O (
 b0m p0f (
 b0m r0i (
 b0m m0M (
 b0m r0k (
 b0m w0Y (
 b0m p0b (
 b0m s0G (
 b0m z0I (
 b0m g0H (
 b0m p0d (
 b0m o0Y (
 b0m z0x (
 b0m c0K (
 b0m m0N (
 b0m d0f (
 b0m H0M (
 b0m d0D (
 b0m p0g (
 b0m z0E (
 b0m z0L (
 b0m b0Y (
 b0m r0g (
 b0m l0n (
 b0m d0l (
 b0m s0L (
 b0m s0K (
 b0m i0z (
 b0m z0y (
 b0m z0D (
 b0m z0K (
 b0m w0X (
 b0m d0e (
 b0m H0K (
 b0m z0O (
 b0m d0Q (
 b0m x0b (
 b0m z0H (
 b0m s0H (
 b0m c0l (
 b0m p0c (
 b0m l0m (
 b0m d0C (
 b0m d0A (
 b0m c0B (
 b0m c0g (
 b0m c0z (
 b0m c0i (
 b0m c0X (
 b0m c0A (
 b0m x0f (
 b0m z0M (
 b0m x0c (
 b0m z0G (
 b0m s0I (
 b0m k0b (
 b0m z0C (
 b0m x0e (
 b0m z0z (
 b0m z0B (
 b0m d0W (
 b0m z0A (
 b0m d0P (
 b0m c0Q (
 b0m c0C (
 b0m c0O (
 b0m c0E (
 b0m d0m (
 b0m c0P (
 b0m d0k (
 b0m c0q (
 b0m c0d (
 b0m c0h (
 b0m z0J (
 b0m c0k (
 b0m z0N (
 b0m c0j (
 b0m l0j (
 b0m i0y (
 b0m s0J (
 b0m r0h (
 b0m d0B (
 b0m c0J (
 b0m c0r (
 b0m c0D (
 b0m c0G (
 b0m c0F (
 b0m p0a (
 b0m o0Z (
 b0m x0d (
 b0m x0a (
 b0m w0Z (
 b0m h0R (
 b0m j0h (
 b0m j0i (
 b0m k0c (
 b0m i0A (
 b0m i0B (
 b0m z0F (
 b0m h0S (
 b0m j0j (
 b0m j0k (
 b0m k0d (
 b0m i0C (
 b0m i0D (
 b0m l0l (
 b0m H0L (
 b0m k0e (
 a1o)))))))))))))))))))))))))))))))))))))))))))))))))))))))))))))))))))))))))))))))))))))))))))))))))))))))))))))))))))))))))))))))))))))))))))
set_option maxRecDepth 20000 in
theorem s0g:∀ p ∈ o0t,b0k Tryz.prog p.1=some p.2 :=
 b0m f0N (
 a1o)
end
end Go.Proofs.YtilekhkgobmolaaGreat.AI
