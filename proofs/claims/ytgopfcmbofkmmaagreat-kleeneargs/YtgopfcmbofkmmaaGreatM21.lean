/- Part 22 of the proof. -/
import Derived.Test.YtgopfcmbofkmmaaGreatM10
import Derived.Test.YtgopfcmbofkmmaaGreatM20
set_option linter.unusedVariables false
set_option linter.unusedSimpArgs false
set_option linter.unusedSectionVars false
namespace Go.Proofs.YtgopfcmbofkmmaaGreat.AI
open Go
section
noncomputable abbrev Xr (base:Nat):Cx:=⟨Tryz.prog,base⟩
variable {base:Nat}
theorem i0Z:Tryz.prog.follows .mixedOrders=true:=by kernel_rfl
theorem s0h {l:List (Nat × n0v)} {f:Nat} {s:n0v} (h:l.lookup f=some s):(f,s) ∈ l:=by
 induction l with
 | nil=>simp at h
 | cons p r ih =>
  obtain ⟨a,b⟩:=p
  simp only [List.lookup] at h
  split at h
  ·rename_i hb
   simp only [M1Q] at h
   have:f=a:=by simpa using hb
   subst this h
   exact O1B
  ·exact O1f _ (ih h)
theorem V0K:x0Z (Xr base) env where
 code f sf h:=o0a (f,sf) (s0h h)
 mixed:=i0Z
theorem M1L (n:Nat):b0x (Xr base) (a0M env n) :=
 j0M env V0K (fun fl f args H φ w c _ _ _=>⟨fun v H' h=>(by cases h),fun v h=>(by cases h)⟩) (fun q r=>by simp [env] at r) (fun call j k=>k0A j k i0Z) n
@[irreducible] noncomputable def m0Y (f:FuncId):Option n0v:=Tr.get none (u1x w0q) f
noncomputable def l0a (ms:List f0i):Env:=⟨m0Y,some m0P,fun f args G n=>@Option.rec (Value × List Blk) (fun _=>w0D) (x0l ms f args G n) some (A0g f args G n)⟩
theorem w1w:qf.nL ≠ 0:=by show (4:Nat) ≠ 0;omega
theorem w1x:qf.nS ≠ 0:=by show (8:Nat) ≠ 0;omega
theorem E0J:(w0q.all fun p=>Nat.blt p.1 1024)=true:=by kernel_rfl
theorem o0z {f:FuncId} {c:n0v} (h:m0Y f=some c):a0o Tryz.prog f=some c:=by
 unfold m0Y at h
 have j:=w0x w0q f c E0J h
 exact E0I (f,c) j
theorem V0H {ms:List f0i}:x0Z (Xr base) (l0a ms) where
 code f sf h:=o0z h
 mixed:=i0Z
theorem A0j {j:List f0i}:s0u (Xr base) (l0a j):=by
 intro q h call hcall c
 have e:q=m0P:=by cases h;rfl
 subst e
 exact o0r (X:=Xr base) qf hcall (k0A hcall c i0Z) w1w w1x
theorem v0y {j:List f0i} (s:∀ M ∈ j,k0V (Xr base) M):u0T (Xr base) (l0a j):=by
 intro fl f args H φ w c hR r k
 have q:∀ v bs,(l0a j).prim f args H.bk H.size=some (v,bs)->x0N (Xr base) fl f args H v bs:=by
  intro v bs h
  change @Option.rec (Value × List Blk) (fun _=>w0D) (x0l j f args H.bk H.size) some (A0g f args H.bk H.size)=some (v,bs) at h
  cases hp:A0g f args H.bk H.size with
  | none=>rw [hp] at h;exact v0s k s h
  | some p =>
   rw [hp] at h
   cases h
   exact X0r M1L k hp
 refine ⟨fun u H' h=>?_,fun u h=>?_⟩
 ·unfold i0D at h
  cases hp:(l0a j).prim f args H.bk H.size with
  | none=>rw [hp] at h;cases h
  | some p =>
   obtain ⟨v,bs⟩:=p
   rw [hp] at h
   cases h
   exact q _ _ hp φ w c hR r
 ·unfold i0D at h
  cases hp:(l0a j).prim f args H.bk H.size with
  | none=>rw [hp] at h;cases h
  | some p=>rw [hp] at h;cases h
theorem M1N {c:List f0i} (q:∀ M ∈ c,∀ n,k0V (Xr n) M) (n:Nat):b0x (Xr base) (a0M (l0a c) n) :=
 j0M (l0a c) V0H (v0y fun M k=>q M k base) A0j (fun call h j=>k0A h j i0Z) n
end
section
variable {base:Nat}
noncomputable def F0y (fs:List FuncId) (ms:List f0i):Env:=⟨fun f=>@Bool.rec (fun _=>Option n0v) (m0Y f) none (fs.any (Nat.beq f)),some m0P,(l0a ms).prim⟩
theorem V0J {fs:List FuncId} {ms:List f0i}:x0Z (Xr base) (F0y fs ms) where
 code f sf h:=by
  have h:@Bool.rec (fun _=>Option n0v) (m0Y f) none (fs.any (Nat.beq f))=some sf:=h
  cases hb:fs.any (Nat.beq f) with
  | true=>rw [hb] at h;cases h
  | false=>rw [hb] at h;exact o0z h
 mixed:=i0Z
theorem A0i {h:List FuncId} {k:List f0i}:s0u (Xr base) (F0y h k):=by
 intro q j call hcall c
 have e:q=m0P:=by cases j;rfl
 subst e
 exact o0r (X:=Xr base) qf hcall (k0A hcall c i0Z) w1w w1x
theorem H0I {h:List FuncId} {c:List f0i} (j:∀ M ∈ c,k0V (Xr base) M):u0T (Xr base) (F0y h c):=v0y j
theorem M1M {h:List FuncId} {c:List f0i} (r:∀ M ∈ c,∀ n,k0V (Xr n) M) (n:Nat):b0x (Xr base) (a0M (F0y h c) n) :=
 j0M (F0y h c) V0J (H0I fun M q=>r M q base) A0i (fun call j k=>k0A j k i0Z) n
