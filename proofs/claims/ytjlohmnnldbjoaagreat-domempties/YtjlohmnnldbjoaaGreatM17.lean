/- Part 18 of the proof: AiTabAll. -/
import Derived.Test.YtjlohmnnldbjoaaGreatM13
import Derived.Test.YtjlohmnnldbjoaaGreatM14
import Derived.Test.YtjlohmnnldbjoaaGreatM15
import Derived.Test.YtjlohmnnldbjoaaGreatM16
set_option linter.unusedVariables false
set_option linter.unusedSimpArgs false
set_option linter.unusedSectionVars false
namespace Go.Proofs.YtjlohmnnldbjoaaGreat.AI
section
open Go
theorem b0l {P:Program} {a:Nat × v0D} {l:List (Nat × v0D)} (h:b0f P a.1=some a.2) (hl:∀ p ∈ l,b0f P p.1=some p.2):∀ p ∈ a :: l,b0f P p.1=some p.2:=List.forall_mem_cons.2 ⟨h,hl⟩
theorem f1O {P:Program}:∀ p ∈ ([]:List (Nat × v0D)),b0f P p.1=some p.2:=fun _ h=>by cases h
set_option maxRecDepth 20000 in
theorem y0a:∀ p ∈ t0p,b0f Tryz.prog p.1=some p.2 :=
 b0l e0G (
 b0l h0k (
 b0l g0H (
 b0l t0L (
 b0l f0s (
 b0l i0b (
 b0l g0G (
 b0l g0D (
 b0l f0X (
 b0l q0e (
 b0l B0b (
 b0l f0E (
 b0l g0E (
 b0l e0Z (
 b0l t0M (
 b0l g0a (
 b0l h0g (
 b0l h0f (
 b0l g0c (
 b0l i0U (
 b0l m0u (
 b0l g0F (
 b0l g0I (
 b0l g0K (
 b0l g0g (
 b0l i0f (
 b0l h0j (
 b0l g0J (
 b0l g0C (
 b0l y0D (
 b0l B0c (
 b0l B0p (
 b0l B0x (
 b0l B0d (
 b0l L0w (
 b0l f0Z (
 b0l g0d (
 b0l f0F (
 b0l q0k (
 b0l c0S (
 b0l q0f (
 b0l B0e (
 b0l f0G (
 b0l i0d (
 b0l i0i (
 b0l i0V (
 b0l y0F (
 b0l q0i (
 b0l f0t (
 b0l h0h (
 b0l g0i (
 b0l g0b (
 b0l g0f (
 b0l s0h (
 b0l t0S (
 b0l t0R (
 b0l j0z (
 b0l B0f (
 b0l B0k (
 b0l L0z (
 b0l B0t (
 b0l t0N (
 b0l B0q (
 b0l g0e (
 b0l h0n (
 b0l B0s (
 b0l d0j (
 b0l y0E (
 b0l i0l (
 b0l h0l (
 b0l i0o (
 b0l h0m (
 b0l c0m (
 b0l s0i (
 b0l m0x (
 b0l d0s (
 b0l h0i (
 b0l i0k (
 b0l i0c (
 b0l y0M (
 b0l B0w (
 b0l B0u (
 b0l t0O (
 b0l B0o (
 b0l y0I (
 b0l y0J (
 b0l B0n (
 b0l t0P (
 b0l l0n (
 b0l L0x (
 b0l B0g (
 b0l i0g (
 b0l i0h (
 b0l B0j (
 b0l y0L (
 b0l B0i (
 b0l i0j (
 b0l c0w (
 b0l q0j (
 b0l m0w (
 b0l d0O (
 b0l d0M (
 b0l c0H (
 b0l c0r (
 b0l c0F (
 b0l c0t (
 b0l d0g (
 b0l c0G (
 b0l i0e (
 b0l i0m (
 b0l i0n (
 b0l i0p (
 b0l B0l (
 b0l B0h (
 b0l e0m (
 b0l m0t (
 b0l j0y (
 b0l g0h (
 b0l d0Y (
 b0l c0Z (
 b0l c0I (
 b0l c0X (
 b0l c0K (
 b0l d0t (
 b0l c0Y (
 b0l d0r (
 b0l c0A (
 b0l c0p (
 b0l c0s (
 b0l B0r (
 b0l c0v (
 b0l B0v (
 b0l c0u (
 b0l t0Q (
 b0l s0j (
 b0l g0L (
 b0l d0N (
 b0l c0R (
 b0l c0B (
 b0l c0J (
 b0l c0M (
 b0l c0L (
 b0l q0h (
 b0l q0g (
 b0l y0K (
 b0l y0H (
 b0l y0G (
 b0l i0W (
 b0l k0r (
 b0l k0s (
 b0l l0o (
 b0l j0A (
 b0l j0B (
 b0l B0m (
 b0l i0X (
 b0l k0t (
 b0l k0u (
 b0l l0p (
 b0l j0C (
 b0l j0D (
 b0l m0v (
 b0l L0y (
 b0l l0q (
 f1O)))))))))))))))))))))))))))))))))))))))))))))))))))))))))))))))))))))))))))))))))))))))))))))))))))))))))))))))))))))))))))))))))))))))))))))))))))))))))))))))))))
set_option maxRecDepth 20000 in
theorem t0l:∀ p ∈ p0y,b0f Tryz.prog p.1=some p.2 :=
 b0l f0Y (
 f1O)
end
end Go.Proofs.YtjlohmnnldbjoaaGreat.AI
