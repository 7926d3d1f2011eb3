/- DomOrders returns true whatever it is handed, and what it was handed reads behind the call as it did. -/
import Derived.Test.YtjlohmnnldbjoaaGreatM17
import Derived.Test.YtjlohmnnldbjoaaGreatM18
set_option linter.unusedVariables false
set_option linter.unusedSimpArgs false
set_option linter.unusedSectionVars false

/- The row of DomOrders. -/
namespace Go.Proofs.YtjlohmnnldbjoaaGreat
open Go Go.Proofs Go.ChangeShapes Go.WideShapes Go.ChangeAt Go.RowKit Go.Proofs.YtjlohmnnldbjoaaGreat.AI

theorem ts7 (t : TypeId) (ht : t ∈ Tryz.f7.params.toList) : fit t := by
  rw [Tryz.params7] at ht
  have h : t = 25 ∨ t = 3 ∨ t = 27 ∨ t = 27 := by simpa using ht
  rcases h with h | h | h | h <;> rw [h]
  · exact fit25
  · exact fit3
  · exact fit27
  · exact fit27
theorem handed_orders {P : Program} {H : Heap} (hP : Types P) {vs : List Value} (h : IsVs P H 12 [25, 3, 27, 27] vs) : ∃ u v w n rows a b, vs = [u, .int .i64 n, v, w] ∧ TemplV H u rows ∧ ExtsV H v a ∧ ExtsV H w b := by
  obtain ⟨u, x, v, w, rfl, h1, h2, h3, h4⟩ := isVs_four h
  obtain ⟨t, ht⟩ := argTempl (m := 5) hP h1
  obtain ⟨n, rfl⟩ := argWhole (m := 11) hP h2
  obtain ⟨a, ha⟩ := argExts (m := 6) hP h3
  obtain ⟨b, hb⟩ := argExts (m := 6) hP h4
  exact ⟨u, v, w, n, t, a, b, rfl, ht, ha, hb⟩

theorem does7 (Ha : Heap) (vs : List Value) (h : IsVs Tryz.prog Ha 12 Tryz.f7.params.toList vs) : Does env Ha.size f_7 vs Ha (fun r _ => r = .bool true) (fun _ => False) := by
  rw [Tryz.params7] at h
  obtain ⟨u, v, w, n, rows, a, b, rfl, ht, ha, hb⟩ := handed_orders types h
  exact (DomOrders_does ht ha hb (Nat.le_refl _)).mono fun r G h => h.1

set_option maxRecDepth 100000 in
theorem orders_lifted (os : Os) (started : os.Started) (H : Type) (enc : TypeId × Value → H) :
    ReturnsInHanded {} Tryz.checked os 7 .any (Rows.domOrdersSpec.pre6 enc Tryz.prog Tryz.f7 Rows.domOrdersRow.domain false) (Rows.domOrdersSpec.post enc Tryz.prog Tryz.f7 false true false false) := by
  refine returnsInHanded_of_change (C := Tryz.checked) own_knob started (by kernel_rfl) Tryz.func7
    (ChangeSpec.witness6 (enc := enc) (C := Tryz.checked) false ⟨#[], #[.agg #[.slice none 0 0], .int .i64 0, .slice none 0 0, .slice none 0 0], []⟩ 8 (by kernel_rfl) (by kernel_rfl) (by kernel_rfl) (by kernel_rfl)) ?_
  intro W base args ds gs before hval hW _ _
  refine law_contract (P := Tryz.prog) (E := env) (fun base n => sim n) (m := 12) (tb := 4) laid_out ts7 (by kernel_rfl) under4 rfl ?_ does7 W base args ds gs before hval hW
  intro ds hds
  have h3 : Tryz.f7.params.size = 4 := by rw [Tryz.params7]; rfl
  rw [h3] at hds
  match ds, hds with
  | [d1, d2, d3, d4], _ => rfl

/-- DomOrders returns true whatever it is handed, and what it was handed reads behind the call as it did. -/
theorem domOrders_holds : Rows.DomOrdersSaid :=
  OpenClaim.holds_of_wide 7 Tryz.f7 rfl rfl rfl rfl rfl rfl rfl ⟨rfl, rfl, rfl, rfl, rfl⟩ rfl rfl rfl rfl rfl (by kernel_rfl) Tryz.func7 (by kernel_rfl)
    (of_decide_eq_true (by kernel_rfl)) (by unfold Func.isWrapper; first | (rw [if_pos (by decide +kernel)]; kernel_rfl) | (rw [if_neg (by decide +kernel)]; exact ⟨rfl, rfl⟩))
    (fun os started H enc _ => orders_lifted os started H enc)

end Go.Proofs.YtjlohmnnldbjoaaGreat
