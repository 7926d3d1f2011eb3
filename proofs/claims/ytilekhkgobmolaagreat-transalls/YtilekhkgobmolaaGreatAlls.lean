/- TransAlls returns true whatever it is handed, and what it was handed reads behind the call as it did. -/
import Derived.Test.YtilekhkgobmolaaGreatM11
import Derived.Test.YtilekhkgobmolaaGreatM17
set_option linter.unusedVariables false
set_option linter.unusedSimpArgs false
set_option linter.unusedSectionVars false
namespace Go.Proofs.YtilekhkgobmolaaGreat
open Go Go.Proofs Go.ChangeShapes Go.WideShapes Go.ChangeAt Go.RowKit Go.Proofs.YtilekhkgobmolaaGreat.AI
theorem P0v (t:TypeId) (ht:t ∈ Tryz.f3.params.toList):fit t:=by
 rw [Tryz.params3] at ht
 have h:t=24 ∨ t=28 ∨ t=29:=by simpa using ht
 rcases h with h | h | h <;> rw [h]
 ·exact Z0A
 ·exact Z0B
 ·exact Z0C
theorem P0u (Ha:a0e) (vs:List Value) (h:G0D Tryz.prog Ha 12 Tryz.f3.params.toList vs):a0S env Ha.size f_3 vs Ha (fun r _=>r=.bool true) (fun _=>False):=by
 rw [Tryz.params3] at h
 obtain ⟨u,v,w,rows,e,d,rfl,ht,he,hd⟩:=s0x R0D h
 exact (m0r ht he hd (b1S _)).mono fun r G h=>h.1
set_option maxRecDepth 100000 in
theorem s0f (os:Os) (started:os.Started) (H:Type) (enc:TypeId × Value→H) :
  ReturnsInHanded {} Tryz.checked os 3 .any (Rows.transAllsSpec.pre6 enc Tryz.prog Tryz.f3 Rows.transAllsRow.domain false) (Rows.transAllsSpec.post enc Tryz.prog Tryz.f3 false true false false):=by
 refine returnsInHanded_of_change (C:=Tryz.checked) H0I started (by kernel_rfl) Tryz.func3
  (ChangeSpec.witness6 (enc:=enc) (C:=Tryz.checked) false ⟨#[],#[.agg #[.slice none 0 0],.agg #[.int .i64 0,.int .i64 0,.int .i64 0,.slice none 0 0,.slice none 0 0,.slice none 0 0],.slice none 0 0],[]⟩ 8 (by kernel_rfl) (by kernel_rfl) (by kernel_rfl) (by kernel_rfl)) ?_
 intro W base args ds gs before hval hW _ _
 refine q0T (P:=Tryz.prog) (E:=env) (fun base n=>sim n) (m:=12) (tb:=4) H0x P0v (by kernel_rfl) V0A rfl ?_ P0u W base args ds gs before hval hW
 intro ds hds
 have h3:Tryz.f3.params.size=3:=by rw [Tryz.params3];rfl
 rw [h3] at hds
 match ds,hds with
 | [d1,d2,d3],_=>rfl
theorem transAlls_holds:Rows.TransAllsSaid :=
 OpenClaim.holds_of_wide 3 Tryz.f3 rfl rfl rfl rfl rfl rfl rfl ⟨rfl,rfl,rfl,rfl,rfl⟩ rfl rfl rfl rfl rfl (by kernel_rfl) Tryz.func3 (by kernel_rfl)
  (of_decide_eq_true (by kernel_rfl)) (by unfold Func.isWrapper;first | (rw [b1W (by decide +kernel)];kernel_rfl) | (rw [b1T (by decide +kernel)];exact ⟨rfl,rfl⟩))
  (fun os started H enc _=>s0f os started H enc)
end Go.Proofs.YtilekhkgobmolaaGreat

