/- TransShifts returns true whatever it is handed, and what it was handed reads behind the call as it did. -/
import Derived.Test.YtilekhkgobmolaaGreatM11
import Derived.Test.YtilekhkgobmolaaGreatM17
set_option linter.unusedVariables false
set_option linter.unusedSimpArgs false
set_option linter.unusedSectionVars false
namespace Go.Proofs.YtilekhkgobmolaaGreat
open Go Go.Proofs Go.ChangeShapes Go.WideShapes Go.ChangeAt Go.RowKit Go.Proofs.YtilekhkgobmolaaGreat.AI
theorem F0r (t:TypeId) (ht:t ∈ Tryz.f6.params.toList):fit t:=by
 rw [Tryz.params6] at ht
 have h:t=21 ∨ t=61 ∨ t=4:=by simpa using ht
 rcases h with h | h | h <;> rw [h]
 ·exact X0x
 ·exact X0y
 ·exact Z0t
theorem F0q (Ha:a0e) (vs:List Value) (h:F0K Tryz.prog Ha 12 Tryz.f6.params.toList vs):a0V env Ha.size f_6 vs Ha (fun r _=>r=.bool true) (fun _=>False):=by
 rw [Tryz.params6] at h
 obtain ⟨a,b,k,t,rfl,ha,hb,hk⟩:=o0u P0U h
 exact (j0G ha.1 ha.2 hb.1 hb.2 hk.1 hk.2 (Z0E _)).mono fun r G h=>h.1
set_option maxRecDepth 100000 in
theorem p0F (os:Os) (started:os.Started) (H:Type) (enc:TypeId × Value→H) :
  ReturnsInHanded {} Tryz.checked os 6 .any (Rows.transShiftsSpec.pre6 enc Tryz.prog Tryz.f6 Rows.transShiftsRow.domain false) (Rows.transShiftsSpec.post enc Tryz.prog Tryz.f6 false true false false):=by
 refine returnsInHanded_of_change (C:=Tryz.checked) G0L started (by kernel_rfl) Tryz.func6
  (ChangeSpec.witness6 (enc:=enc) (C:=Tryz.checked) false ⟨#[],#[.int .i32 0,.int .i32 0,.int .i16 0,.bool false],[]⟩ 8 (by kernel_rfl) (by kernel_rfl) (by kernel_rfl) (by kernel_rfl)) ?_
 intro W base args ds gs before hval hW _ _
 refine q0w (P:=Tryz.prog) (E:=env) (fun base n=>sim n) (m:=12) (tb:=4) G0B F0r (by kernel_rfl) T0C rfl ?_ F0q W base args ds gs before hval hW
 intro ds hds
 have h3:Tryz.f6.params.size=4:=by rw [Tryz.params6];rfl
 rw [h3] at hds
 match ds,hds with
 | [d1,d2,d3,d4],_=>rfl
theorem transShifts_holds:Rows.TransShiftsSaid :=
 OpenClaim.holds_of_wide 6 Tryz.f6 rfl rfl rfl rfl rfl rfl rfl ⟨rfl,rfl,rfl,rfl,rfl⟩ rfl rfl rfl rfl rfl (by kernel_rfl) Tryz.func6 (by kernel_rfl)
  (of_decide_eq_true (by kernel_rfl)) (by unfold Func.isWrapper;first | (rw [Z0I (by decide +kernel)];kernel_rfl) | (rw [Z0F (by decide +kernel)];exact ⟨rfl,rfl⟩))
  (fun os started H enc _=>p0F os started H enc)
end Go.Proofs.YtilekhkgobmolaaGreat

