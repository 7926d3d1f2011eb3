/- The law DomWithin returns true for every input, and each argument reads behind the call as it read before; no condition is put. -/
import Derived.Test.YtjlohmnnldbjoaaGreatM08
import Derived.Test.YtjlohmnnldbjoaaGreatM19
set_option linter.unusedVariables false
set_option linter.unusedSimpArgs false
set_option linter.unusedSectionVars false

/- The row of DomWithin. -/
namespace Go.Proofs.YtjlohmnnldbjoaaGreat
open Go Go.Proofs Go.ChangeShapes Go.WideShapes Go.ChangeAt Go.RowKit Go.Proofs.YtjlohmnnldbjoaaGreat.AI

theorem ts9 (t : TypeId) (ht : t ∈ Tryz.f9.params.toList) : fit t := by
  rw [Tryz.params9] at ht
  have h : t = 25 ∨ t = 27 ∨ t = 27 ∨ t = 37 := by simpa using ht
  rcases h with h | h | h | h <;> rw [h]
  · exact fit25
  · exact fit27
  · exact fit27
  · exact fit37
theorem does9 (Ha : Heap) (vs : List Value) (h : IsVs Tryz.prog Ha 12 Tryz.f9.params.toList vs) : Does env Ha.size f_9 vs Ha (fun r _ => r = .bool true) (fun _ => False) := by
  rw [Tryz.params9] at h
  obtain ⟨u, v, w, x, rows, a, b, c, rfl, ht, ha, hb, hc⟩ := handed_within types h
  exact (DomWithin_does ht ha hb hc (Nat.le_refl _)).mono fun r G h => h.1

set_option maxRecDepth 100000 in
theorem within_lifted (os : Os) (started : os.Started) (H : Type) (enc : TypeId × Value → H) :
    ReturnsInHanded {} Tryz.checked os 9 .any (Rows.domWithinSpec.pre6 enc Tryz.prog Tryz.f9 Rows.domWithinRow.domain false) (Rows.domWithinSpec.post enc Tryz.prog Tryz.f9 false true false false) := by
  refine returnsInHanded_of_change (C := Tryz.checked) own_knob started (by kernel_rfl) Tryz.func9
    (ChangeSpec.witness6 (enc := enc) (C := Tryz.checked) false ⟨#[], #[.agg #[.slice none 0 0], .slice none 0 0, .slice none 0 0, .slice none 0 0], []⟩ 8 (by kernel_rfl) (by kernel_rfl) (by kernel_rfl) (by kernel_rfl)) ?_
  intro W base args ds gs before hval hW _ _
  refine law_contract (P := Tryz.prog) (E := env) (fun base n => sim n) (m := 12) (tb := 4) laid_out ts9 (by kernel_rfl) under4 rfl ?_ does9 W base args ds gs before hval hW
  intro ds hds
  have h3 : Tryz.f9.params.size = 4 := by rw [Tryz.params9]; rfl
  rw [h3] at hds
  match ds, hds with
  | [d1, d2, d3, d4], _ => rfl

/-- DomWithin returns true whatever it is handed, and what it was handed reads behind the call as it did. -/
theorem domWithin_holds : Rows.DomWithinSaid :=
  OpenClaim.holds_of_wide 9 Tryz.f9 rfl rfl rfl rfl rfl rfl rfl ⟨rfl, rfl, rfl, rfl, rfl⟩ rfl rfl rfl rfl rfl (by kernel_rfl) Tryz.func9 (by kernel_rfl)
    (of_decide_eq_true (by kernel_rfl)) (by unfold Func.isWrapper; first | (rw [if_pos (by decide +kernel)]; kernel_rfl) | (rw [if_neg (by decide +kernel)]; exact ⟨rfl, rfl⟩))
    (fun os started H enc _ => within_lifted os started H enc)

end Go.Proofs.YtjlohmnnldbjoaaGreat
