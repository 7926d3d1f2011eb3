/- Part 17 of the proof: AiTabAll. -/
import Derived.Test.YtilekhkgobmolaaGreatM13
import Derived.Test.YtilekhkgobmolaaGreatM14
import Derived.Test.YtilekhkgobmolaaGreatM15
set_option linter.unusedVariables false
set_option linter.unusedSimpArgs false
set_option linter.unusedSectionVars false
namespace Go.Proofs.YtilekhkgobmolaaGreat.AI
section
open Go
theorem b0p {P:Program} {a:Nat × t0D} {l:List (Nat × t0D)} (h:b0l P a.1=some a.2) (hl:∀ p ∈ l,b0l P p.1=some p.2):∀ p ∈ a :: l,b0l P p.1=some p.2:=List.forall_mem_cons.2 ⟨h,hl⟩
theorem Y0h {P:Program}:∀ p ∈ ([]:List (Nat × t0D)),b0l P p.1=some p.2:=fun _ h=>by cases h
set_option maxRecDepth 20000 in
theorem v0U:∀ p ∈ r0I,b0l Tryz.prog p.1=some p.2 :=
 b0p e0j (
 b0p s0j (
 b0p s0k (
 b0p h0a (
 b0p f0n (
 b0p h0w (
 b0p e0H (
 b0p g0a (
 b0p f0o (
 b0p o0P (
 b0p q0N (
 b0p k0T (
 b0p k0P (
 b0p y0N (
 b0p G0M (
 b0p h0y (
 b0p f0G (
 b0p g0r (
 b0p g0q (
 b0p g0s (
 b0p s0c (
 b0p q0L (
 b0p c0I (
 b0p m0v (
 b0p o0Q (
 b0p q0K (
 b0p m0t (
 b0p q0M (
 b0p w0r (
 b0p o0M (
 b0p s0d (
 b0p y0Z (
 b0p g0t (
 b0p o0O (
 b0p o0J (
 b0p y0O (
 b0p c0H (
 b0p m0u (
 b0p d0b (
 b0p G0P (
 b0p d0B (
 b0p o0R (
 b0p y0V (
 b0p z0c (
 b0p b0X (
 b0p q0I (
 b0p k0S (
 b0p d0j (
 b0p s0i (
 b0p s0h (
 b0p i0g (
 b0p y0P (
 b0p y0U (
 b0p z0b (
 b0p w0q (
 b0p d0a (
 b0p G0N (
 b0p z0f (
 b0p d0M (
 b0p w0u (
 b0p y0Y (
 b0p s0e (
 b0p c0k (
 b0p o0N (
 b0p k0R (
 b0p d0A (
 b0p d0y (
 b0p c0y (
 b0p c0f (
 b0p c0w (
 b0p c0h (
 b0p c0U (
 b0p c0x (
 b0p w0y (
 b0p z0d (
 b0p w0v (
 b0p y0X (
 b0p s0f (
 b0p j0J (
 b0p y0T (
 b0p w0x (
 b0p y0Q (
 b0p y0S (
 b0p d0T (
 b0p y0R (
 b0p d0L (
 b0p c0M (
 b0p c0z (
 b0p c0K (
 b0p c0B (
 b0p d0k (
 b0p c0L (
 b0p d0i (
 b0p c0o (
 b0p c0b (
 b0p c0g (
 b0p z0a (
 b0p c0j (
 b0p z0e (
 b0p c0i (
 b0p k0O (
 b0p i0f (
 b0p s0g (
 b0p q0J (
 b0p d0z (
 b0p c0G (
 b0p c0p (
 b0p c0A (
 b0p c0D (
 b0p c0C (
 b0p o0L (
 b0p o0K (
 b0p w0w (
 b0p w0t (
 b0p w0s (
 b0p h0A (
 b0p i0N (
 b0p i0O (
 b0p j0K (
 b0p i0h (
 b0p i0i (
 b0p y0W (
 b0p h0B (
 b0p i0P (
 b0p i0Q (
 b0p j0L (
 b0p i0j (
 b0p i0k (
 b0p k0Q (
 b0p G0O (
 b0p j0M (
 Y0h)))))))))))))))))))))))))))))))))))))))))))))))))))))))))))))))))))))))))))))))))))))))))))))))))))))))))))))))))))))))))))))))))))
set_option maxRecDepth 20000 in
theorem r0F:∀ p ∈ o0c,b0l Tryz.prog p.1=some p.2 :=
 b0p f0F (
 Y0h)
end
end Go.Proofs.YtilekhkgobmolaaGreat.AI
