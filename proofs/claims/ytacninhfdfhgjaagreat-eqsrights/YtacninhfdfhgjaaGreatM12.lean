/- Part 13 of the proof. -/
import Derived.Test.YtacninhfdfhgjaaGreatM09
import Derived.Test.YtacninhfdfhgjaaGreatM10
import Derived.Test.YtacninhfdfhgjaaGreatM11
set_option linter.unusedVariables false
set_option linter.unusedSimpArgs false
set_option linter.unusedSectionVars false
namespace Go.Proofs.YtacninhfdfhgjaaGreat.AI
section
open Go
theorem b0c {P:Program} {a:Nat × q0b} {l:List (Nat × q0b)} (h:a0W P a.1=some a.2) (hl:∀ p ∈ l,a0W P p.1=some p.2):∀ p ∈ a :: l,a0W P p.1=some p.2:=List.forall_mem_cons.2 ⟨h,hl⟩
theorem Q0R {P:Program}:∀ p ∈ ([]:List (Nat × q0b)),a0W P p.1=some p.2:=fun _ h=>by cases h
set_option maxRecDepth 20000 in
theorem p0s:∀ p ∈ q0t,a0W Tryz.prog p.1=some p.2 :=
 b0c d0s (
 b0c e0k (
 b0c e0H (
 b0c e0m (
 b0c e0l (
 b0c m0L (
 b0c e0W (
 b0c m0J (
 b0c e0o (
 b0c d0G (
 b0c l0U (
 b0c d0S (
 b0c e0E (
 b0c e0G (
 b0c d0u (
 b0c F0O (
 b0c f0z (
 b0c k0I (
 b0c k0K (
 b0c k0H (
 b0c b0C (
 b0c e0n (
 b0c e0p (
 b0c d0Q (
 b0c w0R (
 b0c b0P (
 b0c k0G (
 b0c e0J (
 b0c f0a (
 b0c d0T (
 b0c e0F (
 b0c e0q (
 b0c e0Y (
 b0c e0X (
 b0c p0B (
 b0c r0l (
 b0c i0Q (
 b0c i0R (
 b0c l0W (
 b0c r0y (
 b0c m0I (
 b0c b0I (
 b0c e0I (
 b0c e0t (
 b0c e0s (
 b0c r0w (
 b0c c0g (
 b0c r0x (
 b0c g0g (
 b0c e0r (
 b0c e0Z (
 b0c f0y (
 b0c l0V (
 b0c m0K (
 b0c j0B (
 b0c j0C (
 b0c b0M (
 b0c p0J (
 b0c r0r (
 b0c p0I (
 b0c r0q (
 b0c r0A (
 b0c r0o (
 b0c b0N (
 b0c k0F (
 b0c f0D (
 b0c e0V (
 b0c f0C (
 b0c f0d (
 b0c m0Q (
 b0c r0s (
 b0c g0G (
 b0c r0n (
 b0c m0P (
 b0c g0h (
 b0c d0R (
 b0c f0E (
 b0c f0B (
 b0c b0O (
 b0c h0Z (
 b0c c0d (
 b0c m0M (
 b0c p0F (
 b0c r0p (
 b0c w0S (
 b0c r0v (
 b0c r0u (
 b0c c0e (
 b0c r0m (
 b0c f0b (
 b0c e0u (
 b0c i0a (
 b0c p0G (
 b0c m0N (
 b0c r0z (
 b0c f0c (
 b0c e0v (
 b0c f0J (
 b0c f0G (
 b0c c0f (
 b0c c0I (
 b0c m0O (
 b0c l0X (
 b0c i0S (
 b0c g0F (
 b0c p0C (
 b0c f0I (
 b0c e0K (
 b0c f0K (
 b0c r0t (
 b0c f0F (
 b0c f0A (
 b0c k0J (
 b0c p0H (
 b0c p0E (
 b0c p0D (
 b0c f0H (
 Q0R)))))))))))))))))))))))))))))))))))))))))))))))))))))))))))))))))))))))))))))))))))))))))))))))))))))))))))))))))))))
end
end Go.Proofs.YtacninhfdfhgjaaGreat.AI
