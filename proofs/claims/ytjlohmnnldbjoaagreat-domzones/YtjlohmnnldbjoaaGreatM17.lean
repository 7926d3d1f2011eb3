/- Part 18 of the proof: AiTabAll. -/
import Derived.Test.YtjlohmnnldbjoaaGreatM13
import Derived.Test.YtjlohmnnldbjoaaGreatM14
import Derived.Test.YtjlohmnnldbjoaaGreatM15
import Derived.Test.YtjlohmnnldbjoaaGreatM16
set_option linter.unusedVariables false
set_option linter.unusedSimpArgs false
set_option linter.unusedSectionVars false
namespace Go.Proofs.YtjlohmnnldbjoaaGreat.AI
section
open Go
theorem b0p {P:Program} {a:Nat × v0o} {l:List (Nat × v0o)} (h:b0j P a.1=some a.2) (hl:∀ p ∈ l,b0j P p.1=some p.2):∀ p ∈ a :: l,b0j P p.1=some p.2:=List.forall_mem_cons.2 ⟨h,hl⟩
theorem e1b {P:Program}:∀ p ∈ ([]:List (Nat × v0o)),b0j P p.1=some p.2:=fun _ h=>by cases h
set_option maxRecDepth 20000 in
theorem x0L:∀ p ∈ t0e,b0j Tryz.prog p.1=some p.2 :=
 b0p e0P (
 b0p g0s (
 b0p g0X (
 b0p g0v (
 b0p t0x (
 b0p f0h (
 b0p h0K (
 b0p g0u (
 b0p p0U (
 b0p f0u (
 b0p g0r (
 b0p e0Q (
 b0p t0y (
 b0p f0O (
 b0p g0T (
 b0p g0S (
 b0p f0Q (
 b0p i0y (
 b0p m0g (
 b0p g0t (
 b0p g0w (
 b0p g0y (
 b0p f0U (
 b0p h0O (
 b0p g0W (
 b0p g0x (
 b0p y0p (
 b0p A0I (
 b0p A0U (
 b0p f0N (
 b0p f0R (
 b0p f0v (
 b0p q0a (
 b0p c0O (
 b0p p0V (
 b0p A0J (
 b0p f0w (
 b0p h0M (
 b0p h0R (
 b0p i0z (
 b0p y0r (
 b0p p0Y (
 b0p f0i (
 b0p g0U (
 b0p f0W (
 b0p f0P (
 b0p f0T (
 b0p s0b (
 b0p t0D (
 b0p t0C (
 b0p j0i (
 b0p A0K (
 b0p A0P (
 b0p K0I (
 b0p A0X (
 b0p f0S (
 b0p h0b (
 b0p A0W (
 b0p d0g (
 b0p y0q (
 b0p h0U (
 b0p g0Y (
 b0p h0X (
 b0p g0Z (
 b0p c0k (
 b0p s0c (
 b0p m0j (
 b0p d0m (
 b0p g0V (
 b0p h0T (
 b0p h0L (
 b0p y0y (
 b0p B0a (
 b0p A0Y (
 b0p t0z (
 b0p A0T (
 b0p y0u (
 b0p y0v (
 b0p A0S (
 b0p t0A (
 b0p l0a (
 b0p K0G (
 b0p A0L (
 b0p h0P (
 b0p h0Q (
 b0p A0O (
 b0p y0x (
 b0p A0N (
 b0p h0S (
 b0p c0u (
 b0p p0Z (
 b0p m0i (
 b0p d0J (
 b0p d0H (
 b0p c0F (
 b0p c0p (
 b0p c0D (
 b0p c0r (
 b0p d0d (
 b0p c0E (
 b0p h0N (
 b0p h0V (
 b0p h0W (
 b0p h0Y (
 b0p A0Q (
 b0p A0M (
 b0p e0i (
 b0p m0f (
 b0p j0h (
 b0p f0V (
 b0p d0S (
 b0p c0V (
 b0p c0G (
 b0p c0T (
 b0p c0I (
 b0p d0n (
 b0p c0U (
 b0p d0l (
 b0p c0y (
 b0p c0o (
 b0p c0q (
 b0p A0V (
 b0p c0t (
 b0p A0Z (
 b0p c0s (
 b0p t0B (
 b0p s0d (
 b0p g0z (
 b0p d0I (
 b0p c0N (
 b0p c0z (
 b0p c0H (
 b0p c0K (
 b0p c0J (
 b0p p0X (
 b0p p0W (
 b0p y0w (
 b0p y0t (
 b0p y0s (
 b0p i0A (
 b0p k0d (
 b0p k0e (
 b0p l0b (
 b0p j0j (
 b0p j0k (
 b0p A0R (
 b0p i0B (
 b0p k0f (
 b0p k0g (
 b0p l0c (
 b0p j0l (
 b0p j0m (
 b0p m0h (
 b0p K0H (
 b0p l0d (
 e1b)))))))))))))))))))))))))))))))))))))))))))))))))))))))))))))))))))))))))))))))))))))))))))))))))))))))))))))))))))))))))))))))))))))))))))))))))))))))))))
set_option maxRecDepth 20000 in
theorem t0b:∀ p ∈ p0n,b0j Tryz.prog p.1=some p.2 :=
 b0p f0M (
 e1b)
end
end Go.Proofs.YtjlohmnnldbjoaaGreat.AI
