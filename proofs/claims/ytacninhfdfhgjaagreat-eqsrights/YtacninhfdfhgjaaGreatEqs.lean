/- EqsRights returns true whatever it is handed, and what it was handed reads behind the call as it did. -/
import Derived.Test.YtacninhfdfhgjaaGreatM07
import Derived.Test.YtacninhfdfhgjaaGreatM08
import Derived.Test.YtacninhfdfhgjaaGreatM13
set_option linter.unusedVariables false
set_option linter.unusedSimpArgs false
set_option linter.unusedSectionVars false
namespace Go.Proofs.YtacninhfdfhgjaaGreat
open Go Go.Proofs Go.ChangeShapes Go.WideShapes Go.ChangeAt Go.RowKit Go.Proofs.YtacninhfdfhgjaaGreat.AI
theorem w0Q:ownKnob Tryz.prog.godebug=none:=by kernel_rfl
theorem w0I:laidOutB Tryz.prog=true:=by kernel_rfl
theorem L0h:Tryz.prog.underlying 4=some .bool:=by kernel_rfl
abbrev fit (t:TypeId):Prop:=d0e Tryz.prog 12 t=true∧Tryz.prog.readableRec t=true∧t < Tryz.prog.types.size
theorem O0E:fit 27:=⟨by kernel_rfl,by kernel_rfl,of_decide_eq_true (by kernel_rfl)⟩
theorem O0F:fit 30:=⟨by kernel_rfl,by kernel_rfl,of_decide_eq_true (by kernel_rfl)⟩
theorem O0G:fit 31:=⟨by kernel_rfl,by kernel_rfl,of_decide_eq_true (by kernel_rfl)⟩
theorem v0H (t:TypeId) (ht:t ∈ Tryz.f3.params.toList):fit t:=by
 rw [Tryz.params3] at ht
 have h:t=27 ∨ t=30 ∨ t=31:=by simpa using ht
 rcases h with h | h | h <;> rw [h]
 ·exact O0E
 ·exact O0F
 ·exact O0G
theorem v0G (Ha:a0c) (vs:List Value) (h:w0a Tryz.prog Ha 12 Tryz.f3.params.toList vs):a0N env Ha.size f_3 vs Ha (fun r _=>r=.bool true) (fun _=>False):=by
 rw [Tryz.params3] at h
 obtain ⟨u,v,w,l,rows,d,rfl,hl,ht,hd⟩:=k0s G0D h
 exact (j0r hl ht hd (Q0W _)).mono fun r G h=>h.1
set_option maxRecDepth 100000 in
theorem l0l (os:Os) (started:os.Started) (H:Type) (enc:TypeId × Value→H) :
  ReturnsInHanded {} Tryz.checked os 3 .any (Rows.eqsRightsSpec.pre6 enc Tryz.prog Tryz.f3 Rows.eqsRightsRow.domain false) (Rows.eqsRightsSpec.post enc Tryz.prog Tryz.f3 false true false false):=by
 refine returnsInHanded_of_change (C:=Tryz.checked) w0Q started (by kernel_rfl) Tryz.func3
  (ChangeSpec.witness6 (enc:=enc) (C:=Tryz.checked) false ⟨#[],#[.agg #[.slice none 0 0,.slice none 0 0,.slice none 0 0,.slice none 0 0],.agg #[.slice none 0 0],.slice none 0 0],[]⟩ 8 (by kernel_rfl) (by kernel_rfl) (by kernel_rfl) (by kernel_rfl)) ?_
 intro W base args ds gs before hval hW _ _
 refine h0I (P:=Tryz.prog) (E:=env) (fun base n=>O0N n) (m:=12) (tb:=4) w0I v0H (by kernel_rfl) L0h rfl ?_ v0G W base args ds gs before hval hW
 intro ds hds
 have h3:Tryz.f3.params.size=3:=by rw [Tryz.params3];rfl
 rw [h3] at hds
 match ds,hds with
 | [d1,d2,d3],_=>rfl
theorem eqsRights_holds:Rows.EqsRightsSaid :=
 OpenClaim.holds_of_wide 3 Tryz.f3 rfl rfl rfl rfl rfl rfl rfl ⟨rfl,rfl,rfl,rfl,rfl⟩ rfl rfl rfl rfl rfl (by kernel_rfl) Tryz.func3 (by kernel_rfl)
  (of_decide_eq_true (by kernel_rfl)) (by unfold Func.isWrapper;first | (rw [R0k (by decide +kernel)];kernel_rfl) | (rw [R0c (by decide +kernel)];exact ⟨rfl,rfl⟩))
  (fun os started H enc _=>l0l os started H enc)
end Go.Proofs.YtacninhfdfhgjaaGreat

