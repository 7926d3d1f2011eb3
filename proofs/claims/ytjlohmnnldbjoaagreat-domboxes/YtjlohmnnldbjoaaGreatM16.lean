/- Part 17 of the proof: AiTabAll. -/
import Derived.Test.YtjlohmnnldbjoaaGreatM12
import Derived.Test.YtjlohmnnldbjoaaGreatM13
import Derived.Test.YtjlohmnnldbjoaaGreatM14
import Derived.Test.YtjlohmnnldbjoaaGreatM15
set_option linter.unusedVariables false
set_option linter.unusedSimpArgs false
set_option linter.unusedSectionVars false
/- Every function of the two environments is the program's. -/
namespace Go.Proofs.YtjlohmnnldbjoaaGreat.AI
section
open Go
theorem b0y {P:Program} {a:Nat × q0Z} {l:List (Nat × q0Z)} (h:b0s P a.1=some a.2) (hl:∀ p ∈ l,b0s P p.1=some p.2):∀ p ∈ a :: l,b0s P p.1=some p.2:=List.forall_mem_cons.2 ⟨h,hl⟩
theorem W0q {P:Program}:∀ p ∈ ([]:List (Nat × q0Z)),b0s P p.1=some p.2:=fun _ h=>by cases h
set_option maxRecDepth 20000 in
theorem u0c:∀ p ∈ p0b,b0s Tryz.prog p.1=some p.2 :=
 b0y e0z (
 b0y f0I (
 b0y p0t (
 b0y g0w (
 b0y m0r (
 b0y w0O (
 b0y e0A (
 b0y p0u (
 b0y f0t (
 b0y g0a (
 b0y f0Z (
 b0y g0V (
 b0y k0b (
 b0y u0J (
 b0y w0P (
 b0y x0c (
 b0y x0k (
 b0y w0Q (
 b0y G0p (
 b0y m0x (
 b0y c0J (
 b0y m0s (
 b0y w0R (
 b0y g0W (
 b0y u0L (
 b0y m0v (
 b0y o0n (
 b0y p0A (
 b0y p0z (
 b0y h0z (
 b0y w0S (
 b0y w0X (
 b0y G0s (
 b0y x0g (
 b0y p0v (
 b0y x0d (
 b0y x0f (
 b0y c0Y (
 b0y u0K (
 b0y g0b (
 b0y c0a (
 b0y o0o (
 b0y k0e (
 b0y d0f (
 b0y u0S (
 b0y x0j (
 b0y x0h (
 b0y p0w (
 b0y x0b (
 b0y u0O (
 b0y u0P (
 b0y x0a (
 b0y p0x (
 b0y i0U (
 b0y G0q (
 b0y w0T (
 b0y w0W (
 b0y u0R (
 b0y w0V (
 b0y c0o (
 b0y m0w (
 b0y k0d (
 b0y d0t (
 b0y d0r (
 b0y c0y (
 b0y c0j (
 b0y c0w (
 b0y c0l (
 b0y c0T (
 b0y c0x (
 b0y w0Y (
 b0y w0U (
 b0y d0O (
 b0y k0a (
 b0y h0y (
 b0y d0A (
 b0y c0P (
 b0y c0z (
 b0y c0N (
 b0y c0B (
 b0y d0g (
 b0y c0O (
 b0y d0e (
 b0y c0r (
 b0y c0d (
 b0y c0k (
 b0y x0e (
 b0y c0n (
 b0y x0i (
 b0y c0m (
 b0y p0y (
 b0y o0p (
 b0y d0s (
 b0y c0I (
 b0y c0s (
 b0y c0A (
 b0y c0D (
 b0y c0C (
 b0y m0u (
 b0y m0t (
 b0y u0Q (
 b0y u0N (
 b0y u0M (
 b0y g0X (
 b0y i0l (
 b0y i0m (
 b0y i0V (
 b0y h0A (
 b0y h0B (
 b0y w0Z (
 b0y g0Y (
 b0y i0n (
 b0y i0o (
 b0y i0W (
 b0y h0C (
 b0y h0D (
 b0y k0c (
 b0y G0r (
 b0y i0X (
 W0q)))))))))))))))))))))))))))))))))))))))))))))))))))))))))))))))))))))))))))))))))))))))))))))))))))))))))))))))))))))))
set_option maxRecDepth 20000 in
theorem o0Y:∀ p ∈ l0J,b0s Tryz.prog p.1=some p.2 :=
 b0y f0s (
 W0q)
end
end Go.Proofs.YtjlohmnnldbjoaaGreat.AI
