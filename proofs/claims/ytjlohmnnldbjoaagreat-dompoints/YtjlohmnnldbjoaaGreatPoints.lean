/- DomPoints returns true whatever it is handed, and what it was handed reads behind the call as it did. -/
import Derived.Test.YtjlohmnnldbjoaaGreatM17
import Derived.Test.YtjlohmnnldbjoaaGreatM18
set_option linter.unusedVariables false
set_option linter.unusedSimpArgs false
set_option linter.unusedSectionVars false

/- The row of DomPoints. -/
namespace Go.Proofs.YtjlohmnnldbjoaaGreat
open Go Go.Proofs Go.ChangeShapes Go.WideShapes Go.ChangeAt Go.RowKit Go.Proofs.YtjlohmnnldbjoaaGreat.AI

theorem ts4 (t : TypeId) (ht : t ∈ Tryz.f4.params.toList) : fit t := by
  rw [Tryz.params4] at ht
  have h : t = 25 ∨ t = 3 ∨ t = 27 ∨ t = 37 := by simpa using ht
  rcases h with h | h | h | h <;> rw [h]
  · exact fit25
  · exact fit3
  · exact fit27
  · exact fit37
theorem handed_points {P : Program} {H : Heap} (hP : Types P) {vs : List Value} (h : IsVs P H 12 [25, 3, 27, 37] vs) : ∃ u v w n rows a b, vs = [u, .int .i64 n, v, w] ∧ TemplV H u rows ∧ ExtsV H v a ∧ RatsV H w b := by
  obtain ⟨u, x, v, w, rfl, h1, h2, h3, h4⟩ := isVs_four h
  obtain ⟨t, ht⟩ := argTempl (m := 5) hP h1
  obtain ⟨n, rfl⟩ := argWhole (m := 11) hP h2
  obtain ⟨a, ha⟩ := argExts (m := 6) hP h3
  obtain ⟨b, hb⟩ := argRats (m := 7) hP h4
  exact ⟨u, v, w, n, t, a, b, rfl, ht, ha, hb⟩

theorem does4 (Ha : Heap) (vs : List Value) (h : IsVs Tryz.prog Ha 12 Tryz.f4.params.toList vs) : Does env Ha.size f_4 vs Ha (fun r _ => r = .bool true) (fun _ => False) := by
  rw [Tryz.params4] at h
  obtain ⟨u, v, w, n, rows, a, b, rfl, ht, ha, hb⟩ := handed_points types h
  exact (DomPoints_does ht ha hb (Nat.le_refl _)).mono fun r G h => h.1

set_option maxRecDepth 100000 in
theorem points_lifted (os : Os) (started : os.Started) (H : Type) (enc : TypeId × Value → H) :
    ReturnsInHanded {} Tryz.checked os 4 .any (Rows.domPointsSpec.pre6 enc Tryz.prog Tryz.f4 Rows.domPointsRow.domain false) (Rows.domPointsSpec.post enc Tryz.prog Tryz.f4 false true false false) := by
  refine returnsInHanded_of_change (C := Tryz.checked) own_knob started (by kernel_rfl) Tryz.func4
    (ChangeSpec.witness6 (enc := enc) (C := Tryz.checked) false ⟨#[], #[.agg #[.slice none 0 0], .int .i64 0, .slice none 0 0, .slice none 0 0], []⟩ 8 (by kernel_rfl) (by kernel_rfl) (by kernel_rfl) (by kernel_rfl)) ?_
  intro W base args ds gs before hval hW _ _
  refine law_contract (P := Tryz.prog) (E := env) (fun base n => sim n) (m := 12) (tb := 4) laid_out ts4 (by kernel_rfl) under4 rfl ?_ does4 W base args ds gs before hval hW
  intro ds hds
  have h3 : Tryz.f4.params.size = 4 := by rw [Tryz.params4]; rfl
  rw [h3] at hds
  match ds, hds with
  | [d1, d2, d3, d4], _ => rfl

/-- DomPoints returns true whatever it is handed, and what it was handed reads behind the call as it did. -/
theorem domPoints_holds : Rows.DomPointsSaid :=
  OpenClaim.holds_of_wide 4 Tryz.f4 rfl rfl rfl rfl rfl rfl rfl ⟨rfl, rfl, rfl, rfl, rfl⟩ rfl rfl rfl rfl rfl (by kernel_rfl) Tryz.func4 (by kernel_rfl)
    (of_decide_eq_true (by kernel_rfl)) (by unfold Func.isWrapper; first | (rw [if_pos (by decide +kernel)]; kernel_rfl) | (rw [if_neg (by decide +kernel)]; exact ⟨rfl, rfl⟩))
    (fun os started H enc _ => points_lifted os started H enc)

end Go.Proofs.YtjlohmnnldbjoaaGreat
