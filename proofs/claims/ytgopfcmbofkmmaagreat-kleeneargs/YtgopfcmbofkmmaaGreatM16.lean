/- Part 17 of the proof. -/
import Derived.Test.YtgopfcmbofkmmaaGreatM13
import Derived.Test.YtgopfcmbofkmmaaGreatM14
import Derived.Test.YtgopfcmbofkmmaaGreatM15
set_option linter.unusedVariables false
set_option linter.unusedSimpArgs false
set_option linter.unusedSectionVars false
namespace Go.Proofs.YtgopfcmbofkmmaaGreat.AI
section
open Go
theorem a0k {P:Program} {a:Nat × n0v} {l:List (Nat × n0v)} (h:a0o P a.1=some a.2) (c:∀ p ∈ l,a0o P p.1=some p.2):∀ p ∈ a :: l,a0o P p.1=some p.2:=List.forall_mem_cons.2 ⟨h,c⟩
theorem L1I {P:Program}:∀ p ∈ ([]:List (Nat × n0v)),a0o P p.1=some p.2:=fun _ h=>by cases h
set_option maxRecDepth 20000 in
theorem o0a:∀ p ∈ y0q,a0o Tryz.prog p.1=some p.2 :=
 a0k e0F (
 a0k z0N (
 a0k z0U (
 a0k z0T (
 a0k H0B (
 a0k H0C (
 a0k z0Q (
 a0k z0P (
 a0k z0S (
 a0k x0y (
 a0k z0Z (
 a0k x0x (
 a0k z0X (
 a0k z0M (
 a0k x0q (
 a0k h0e (
 a0k j0c (
 a0k j0e (
 a0k g0l (
 a0k g0m (
 a0k g0u (
 a0k g0v (
 a0k j0d (
 a0k e0q (
 a0k d0r (
 a0k t0r (
 a0k z0W (
 a0k x0v (
 a0k x0u (
 a0k z0V (
 a0k t0s (
 a0k l0A (
 a0k t0t (
 a0k r0G (
 a0k z0R (
 a0k r0J (
 a0k z0O (
 a0k m0I (
 a0k h0d (
 a0k g0Q (
 a0k b0q (
 a0k l0z (
 a0k g0x (
 a0k g0R (
 a0k c0Y (
 a0k h0b (
 a0k h0n (
 a0k k0b (
 a0k k0f (
 a0k f0c (
 a0k d0E (
 a0k m0G (
 a0k k0c (
 a0k p0v (
 a0k x0w (
 a0k x0t (
 a0k x0s (
 a0k b0B (
 a0k i0M (
 a0k e0s (
 a0k r0C (
 a0k r0D (
 a0k v0w (
 a0k r0E (
 a0k f0d (
 a0k c0Z (
 a0k h0c (
 a0k i0a (
 a0k i0l (
 a0k i0m (
 a0k l0i (
 a0k e0t (
 a0k d0U (
 a0k g0y (
 a0k m0F (
 a0k f0A (
 a0k m0D (
 a0k r0H (
 a0k m0E (
 a0k d0V (
 a0k d0T (
 a0k j0f (
 a0k j0g (
 a0k b0o (
 a0k e0x (
 a0k i0N (
 a0k e0w (
 a0k h0o (
 a0k e0y (
 a0k f0B (
 a0k m0H (
 a0k b0p (
 a0k g0S (
 a0k b0z (
 a0k e0u (
 a0k e0r (
 a0k r0I (
 a0k b0A (
 a0k e0v (
 L1I)))))))))))))))))))))))))))))))))))))))))))))))))))))))))))))))))))))))))))))))))))))))))))))))))))
