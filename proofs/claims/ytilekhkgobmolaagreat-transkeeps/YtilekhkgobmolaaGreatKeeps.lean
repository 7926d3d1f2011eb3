/- TransKeeps returns true whatever it is handed, and what it was handed reads behind the call as it did. -/
import Derived.Test.YtilekhkgobmolaaGreatM18
set_option linter.unusedVariables false
set_option linter.unusedSimpArgs false
set_option linter.unusedSectionVars false
namespace Go.Proofs.YtilekhkgobmolaaGreat
open Go Go.Proofs Go.ChangeShapes Go.WideShapes Go.ChangeAt Go.RowKit Go.Proofs.YtilekhkgobmolaaGreat.AI
theorem L0H (t:TypeId) (c:t ∈ Tryz.f5.params.toList):fit t:=by
 rw [Tryz.params5] at c
 have h:t=24 ∨ t=28 ∨ t=29 ∨ t=54:=by simpa using c
 rcases h with h | h | h | h <;> rw [h]
 ·exact h1E
 ·exact h1F
 ·exact h1G
 ·exact h1H
theorem L0G (c:a0f) (vs:List Value) (h:K0L Tryz.prog c 12 Tryz.f5.params.toList vs):a0O env c.size f_5 vs c (fun r _=>r=.bool true) (fun _=>False):=by
 rw [Tryz.params5] at h
 obtain ⟨u,v,w,x,y,rows,e,d,a,b,rfl,s,q,k,j,hb⟩:=s0N Y0I h
 exact (m0e s q k j hb (k1x _)).mo fun r G h=>h.1
set_option maxRecDepth 100000 in
theorem s0P (os:Os) (c:os.Started) (H:Type) (enc:TypeId × Value->H) :
  ReturnsInHanded {} Tryz.checked os 5 .any (Rows.transKeepsSpec.pre6 enc Tryz.prog Tryz.f5 Rows.transKeepsRow.domain false) (Rows.transKeepsSpec.post enc Tryz.prog Tryz.f5 false true false false):=by
 refine returnsInHanded_of_change (C:=Tryz.checked) L0S c (by kernel_rfl) Tryz.func5
  (ChangeSpec.witness6 (enc:=enc) (C:=Tryz.checked) false ⟨#[],#[.agg #[.slice none 0 0],.agg #[.int .i64 0,.int .i64 0,.int .i64 0,.slice none 0 0,.slice none 0 0,.slice none 0 0],.slice none 0 0,.slice none 0 0,.slice none 0 0],[]⟩ 8 (by kernel_rfl) (by kernel_rfl) (by kernel_rfl) (by kernel_rfl)) ?_
 intro W base args ds k e j s _ _
 refine s0Q (P:=Tryz.prog) (E:=env) (fun base n=>sim n) (m:=12) (tb:=4) L0I L0H (by kernel_rfl) d1c rfl ?_ L0G W base args ds k e j s
 intro ds h
 have q:Tryz.f5.params.size=5:=by rw [Tryz.params5];rfl
 rw [q] at h
 match ds,h with
 | [d1,d2,d3,d4,d5],_=>rfl
theorem transKeeps_holds:Rows.TransKeepsSaid :=
 OpenClaim.holds_of_wide 5 Tryz.f5 rfl rfl rfl rfl rfl rfl rfl ⟨rfl,rfl,rfl,rfl,rfl⟩ rfl rfl rfl rfl rfl (by kernel_rfl) Tryz.func5 (by kernel_rfl)
  (of_decide_eq_true (by kernel_rfl)) (by unfold Func.isWrapper;first | (rw [k1B (by decide +kernel)];kernel_rfl) | (rw [k1y (by decide +kernel)];exact ⟨rfl,rfl⟩))
  (fun os c H enc _=>s0P os c H enc)
