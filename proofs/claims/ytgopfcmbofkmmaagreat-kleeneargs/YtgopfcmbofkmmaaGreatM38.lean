/- Part 39 of the proof. -/
import Derived.Test.YtgopfcmbofkmmaaGreatM09
import Derived.Test.YtgopfcmbofkmmaaGreatM22
import Derived.Test.YtgopfcmbofkmmaaGreatM23
import Derived.Test.YtgopfcmbofkmmaaGreatM24
import Derived.Test.YtgopfcmbofkmmaaGreatM25
import Derived.Test.YtgopfcmbofkmmaaGreatM26
import Derived.Test.YtgopfcmbofkmmaaGreatM27
import Derived.Test.YtgopfcmbofkmmaaGreatM28
import Derived.Test.YtgopfcmbofkmmaaGreatM29
import Derived.Test.YtgopfcmbofkmmaaGreatM30
import Derived.Test.YtgopfcmbofkmmaaGreatM31
import Derived.Test.YtgopfcmbofkmmaaGreatM32
import Derived.Test.YtgopfcmbofkmmaaGreatM33
import Derived.Test.YtgopfcmbofkmmaaGreatM34
import Derived.Test.YtgopfcmbofkmmaaGreatM35
import Derived.Test.YtgopfcmbofkmmaaGreatM36
import Derived.Test.YtgopfcmbofkmmaaGreatM37
set_option linter.unusedVariables false
set_option linter.unusedSimpArgs false
set_option linter.unusedSectionVars false
namespace Go.Proofs.YtgopfcmbofkmmaaGreat.AI
open Go
section
theorem c0e {M:f0i} (c:n0y (M.args.flatMap c0d) M.rows=true) (j:q0x (l0a []) 3000 M=true):∀ n,k0V (Xr n) M:=fun n =>
 t0f (E:=l0a []) (m:=3000) (fun k=>M1N (base:=k) (fun M h=>by cases h) 3000) c j
theorem H0s:∀ M ∈ r0t,∀ n,k0V (Xr n) M:=by
 unfold r0t
 exact List.forall_mem_cons.2 ⟨c0e J1O J1Y,(List.forall_mem_cons.2 ⟨c0e J1P J1Z,(List.forall_mem_cons.2 ⟨c0e J1Q K1a,(List.forall_mem_cons.2 ⟨c0e J1R K1b,(List.forall_mem_cons.2 ⟨c0e J1S K1c,(List.forall_mem_cons.2 ⟨c0e J1T K1d,(List.forall_mem_cons.2 ⟨c0e J1U K1e,(List.forall_mem_cons.2 ⟨c0e J1V K1f,(List.forall_mem_cons.2 ⟨c0e J1W K1g,(List.forall_mem_cons.2 ⟨c0e J1X K1h,(List.forall_mem_cons.2 ⟨c0e w1c w1h,(List.forall_mem_cons.2 ⟨c0e w1d w1i,(List.forall_mem_cons.2 ⟨c0e w1e w1j,(List.forall_mem_cons.2 ⟨c0e w1f w1k,(List.forall_mem_cons.2 ⟨c0e w1g w1l,fun _ h=>by cases h⟩)⟩)⟩)⟩)⟩)⟩)⟩)⟩)⟩)⟩)⟩)⟩)⟩)⟩)⟩
end
section
variable {base:Nat}
theorem V0I:x0Z (Xr base) v0h where
 code f sf h:=o0a (f,sf) (s0h h)
 mixed:=i0Z
theorem H0H:u0T (Xr base) v0h:=by
 obtain ⟨H1,j⟩:=s0A
 have u:=r0l (X:=Xr base) (M1M (base:=base) H0s 3000) j
 intro fl f args H φ w c hR s k
 have h:=u fl f args H φ w c hR s k
 have e:i0D v0h fl f args H=if f=x0R/\args=[] then .ok (.bool true,H) else .bad:=by
  unfold i0D v0h w1v
  cases args with
  | nil =>
   by_cases q:f=x0R
   ·simp [q,pushes]
   ·simp [q]
  | cons a r=>simp
 rw [e]
 exact h
theorem F1h (n:Nat):b0x (Xr base) (a0M v0h n) :=
 j0M v0h V0I H0H (fun q j=>by cases j) (fun call c h=>k0A c h i0Z) n
