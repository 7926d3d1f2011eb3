/- TransGrows returns true whatever it is handed, and what it was handed reads behind the call as it did. -/
import Derived.Test.YtilekhkgobmolaaGreatM12
import Derived.Test.YtilekhkgobmolaaGreatM17
set_option linter.unusedVariables false
set_option linter.unusedSimpArgs false
set_option linter.unusedSectionVars false
namespace Go.Proofs.YtilekhkgobmolaaGreat
open Go Go.Proofs Go.ChangeShapes Go.WideShapes Go.ChangeAt Go.RowKit Go.Proofs.YtilekhkgobmolaaGreat.AI
theorem K0z (t:TypeId) (ht:t ∈ Tryz.f4.params.toList):fit t:=by
 rw [Tryz.params4] at ht
 have h:t=24 ∨ t=28 ∨ t=29:=by simpa using ht
 rcases h with h | h | h <;> rw [h]
 ·exact f1u
 ·exact f1v
 ·exact f1w
theorem K0x (Ha:a0e) (vs:List Value) (h:J0A Tryz.prog Ha 12 Tryz.f4.params.toList vs):a0S env Ha.size f_4 vs Ha (fun r _=>r=.bool true) (fun _=>False):=by
 rw [Tryz.params4] at h
 obtain ⟨u,v,w,x,rows,e,d,b,rfl,ht,he,hd,hb⟩:=s0l W0K h
 exact (l0L ht he hd hb (i1j _)).mono fun r G h=>h.1
set_option maxRecDepth 100000 in
theorem s0k (os:Os) (started:os.Started) (H:Type) (enc:TypeId × Value→H) :
  ReturnsInHanded {} Tryz.checked os 4 .any (Rows.transGrowsSpec.pre6 enc Tryz.prog Tryz.f4 Rows.transGrowsRow.domain false) (Rows.transGrowsSpec.post enc Tryz.prog Tryz.f4 false true false false):=by
 refine returnsInHanded_of_change (C:=Tryz.checked) K0L started (by kernel_rfl) Tryz.func4
  (ChangeSpec.witness6 (enc:=enc) (C:=Tryz.checked) false ⟨#[],#[.agg #[.slice none 0 0],.agg #[.int .i64 0,.int .i64 0,.int .i64 0,.slice none 0 0,.slice none 0 0,.slice none 0 0],.slice none 0 0,.slice none 0 0],[]⟩ 8 (by kernel_rfl) (by kernel_rfl) (by kernel_rfl) (by kernel_rfl)) ?_
 intro W base args ds gs before hval hW _ _
 refine s0n (P:=Tryz.prog) (E:=env) (fun base n=>sim n) (m:=12) (tb:=4) K0B K0z (by kernel_rfl) a1Z rfl ?_ K0x W base args ds gs before hval hW
 intro ds hds
 have h3:Tryz.f4.params.size=4:=by rw [Tryz.params4];rfl
 rw [h3] at hds
 match ds,hds with
 | [d1,d2,d3,d4],_=>rfl
theorem transGrows_holds:Rows.TransGrowsSaid :=
 OpenClaim.holds_of_wide 4 Tryz.f4 rfl rfl rfl rfl rfl rfl rfl ⟨rfl,rfl,rfl,rfl,rfl⟩ rfl rfl rfl rfl rfl (by kernel_rfl) Tryz.func4 (by kernel_rfl)
  (of_decide_eq_true (by kernel_rfl)) (by unfold Func.isWrapper;first | (rw [i1n (by decide +kernel)];kernel_rfl) | (rw [i1k (by decide +kernel)];exact ⟨rfl,rfl⟩))
  (fun os started H enc _=>s0k os started H enc)
end Go.Proofs.YtilekhkgobmolaaGreat

