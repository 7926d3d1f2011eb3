/- KleeneArgs returns true whatever it is handed, and what it was handed reads behind the call as it did. -/
import Derived.Test.YtgopfcmbofkmmaaGreatM38
set_option linter.unusedVariables false
set_option linter.unusedSimpArgs false
set_option linter.unusedSectionVars false
namespace Go.Proofs.YtgopfcmbofkmmaaGreat
open Go Go.Proofs Go.ChangeShapes Go.WideShapes Go.ChangeAt Go.RowKit Go.Proofs.YtgopfcmbofkmmaaGreat.AI
theorem H0y:ownKnob Tryz.prog.godebug=none:=by kernel_rfl
theorem H0n:laidOutB Tryz.prog=true:=by kernel_rfl
theorem F1r:Tryz.prog.underlying 4=some .bool:=by kernel_rfl
abbrev fit (t:TypeId):Prop:=e0z Tryz.prog 12 t=true/\Tryz.prog.readableRec t=true/\t < Tryz.prog.types.size
theorem J1z:fit 27:=⟨by kernel_rfl,by kernel_rfl,of_decide_eq_true (by kernel_rfl)⟩
theorem J1A:fit 33:=⟨by kernel_rfl,by kernel_rfl,of_decide_eq_true (by kernel_rfl)⟩
theorem J1B:fit 48:=⟨by kernel_rfl,by kernel_rfl,of_decide_eq_true (by kernel_rfl)⟩
theorem V0o (t:TypeId) (c:t ∈ Tryz.f5.params.toList):fit t:=by
 rw [Tryz.params5] at c
 have h:t=27 ∨ t=33 ∨ t=48:=by simpa using c
 rcases h with h | h | h <;> rw [h]
 ·exact J1z
 ·exact J1A
 ·exact J1B
theorem V0n (c:a0c) (vs:List Value) (h:F0G Tryz.prog c 12 Tryz.f5.params.toList vs):b0k v0h c.size f_5 vs c (fun r _=>r=.bool true) (fun _=>False):=by
 rw [Tryz.params5] at h
 obtain ⟨u,v,w,l,rows,o,rfl,j,k,ho⟩:=t0b t1T h
 exact (l0Y j k ho (M1U _)).mo fun r G h=>h.1
set_option maxRecDepth 100000 in
theorem s0z (os:Os) (c:os.Started) (H:Type) (enc:TypeId × Value->H) :
  ReturnsInHanded {} Tryz.checked os 5 .any (Rows.kleeneArgsSpec.pre6 enc Tryz.prog Tryz.f5 Rows.kleeneArgsRow.domain false) (Rows.kleeneArgsSpec.post enc Tryz.prog Tryz.f5 false true false false):=by
 refine returnsInHanded_of_change (C:=Tryz.checked) H0y c (by kernel_rfl) Tryz.func5
  (ChangeSpec.witness6 (enc:=enc) (C:=Tryz.checked) false ⟨#[],#[.agg #[.slice none 0 0,.slice none 0 0,.slice none 0 0,.slice none 0 0],.agg #[.slice none 0 0],.agg #[.int .i64 0,.slice none 0 0,.int .i64 0]],[]⟩ 8 (by kernel_rfl) (by kernel_rfl) (by kernel_rfl) (by kernel_rfl)) ?_
 intro W base args ds q h k s _ _
 refine l0d (P:=Tryz.prog) (E:=v0h) (fun base n=>F1h n) (m:=12) (tb:=4) H0n V0o (by kernel_rfl) F1r rfl ?_ V0n W base args ds q h k s
 intro ds j
 have r:Tryz.f5.params.size=3:=by rw [Tryz.params5];rfl
 rw [r] at j
 match ds,j with
 | [d1,d2,d3],_=>rfl
theorem kleeneArgs_holds:Rows.KleeneArgsSaid :=
 OpenClaim.holds_of_wide 5 Tryz.f5 rfl rfl rfl rfl rfl rfl rfl ⟨rfl,rfl,rfl,rfl,rfl⟩ rfl rfl rfl rfl rfl (by kernel_rfl) Tryz.func5 (by kernel_rfl)
  (of_decide_eq_true (by kernel_rfl)) (by unfold Func.isWrapper;first | (rw [M1Z (by decide +kernel)];kernel_rfl) | (rw [M1V (by decide +kernel)];exact ⟨rfl,rfl⟩))
  (fun os c H enc _=>s0z os c H enc)
