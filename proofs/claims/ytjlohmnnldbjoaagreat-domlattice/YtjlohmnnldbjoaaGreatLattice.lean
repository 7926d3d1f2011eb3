/- The law DomLattice returns true for every input, and each argument reads behind the call as it read before; no condition is put. -/
import Derived.Test.YtjlohmnnldbjoaaGreatM08
import Derived.Test.YtjlohmnnldbjoaaGreatM19
set_option linter.unusedVariables false
set_option linter.unusedSimpArgs false
set_option linter.unusedSectionVars false

/- The row of DomLattice. -/
namespace Go.Proofs.YtjlohmnnldbjoaaGreat
open Go Go.Proofs Go.ChangeShapes Go.WideShapes Go.ChangeAt Go.RowKit Go.Proofs.YtjlohmnnldbjoaaGreat.AI

theorem ts8 (t : TypeId) (ht : t ∈ Tryz.f8.params.toList) : plainT Tryz.prog 12 t = true ∧ Tryz.prog.readableRec t = true ∧ t < Tryz.prog.types.size := by
  rw [Tryz.params8] at ht
  have h : t = 27 := by simpa using ht
  rw [h]
  exact ⟨plain27, read27, lt27⟩
theorem does8 (Ha : Heap) (vs : List Value) (h : IsVs Tryz.prog Ha 12 Tryz.f8.params.toList vs) : Does env Ha.size f_8 vs Ha (fun r _ => r = .bool true) (fun _ => False) := by
  rw [Tryz.params8] at h
  obtain ⟨u, v, w, a, b, c, rfl, ha, hb, hc⟩ := three_exts types h
  exact (DomLattice_does ha hb hc (Nat.le_refl _)).mono fun r G h => h.1

set_option maxRecDepth 100000 in
theorem lattice_lifted (os : Os) (started : os.Started) (H : Type) (enc : TypeId × Value → H) :
    ReturnsInHanded {} Tryz.checked os 8 .any (Rows.domLatticeSpec.pre6 enc Tryz.prog Tryz.f8 Rows.domLatticeRow.domain false) (Rows.domLatticeSpec.post enc Tryz.prog Tryz.f8 false true false false) := by
  refine returnsInHanded_of_change (C := Tryz.checked) own_knob started (by kernel_rfl) Tryz.func8
    (ChangeSpec.witness6 (enc := enc) (C := Tryz.checked) false ⟨#[], #[.slice none 0 0, .slice none 0 0, .slice none 0 0], []⟩ 8 (by kernel_rfl) (by kernel_rfl) (by kernel_rfl) (by kernel_rfl)) ?_
  intro W base args ds gs before hval hW _ _
  refine law_contract (P := Tryz.prog) (E := env) (fun base n => sim n) (m := 12) (tb := 4) laid_out ts8 (by kernel_rfl) under4 rfl ?_ does8 W base args ds gs before hval hW
  intro ds hds
  have h3 : Tryz.f8.params.size = 3 := by rw [Tryz.params8]; rfl
  rw [h3] at hds
  match ds, hds with
  | [d1, d2, d3], _ => rfl

/-- DomLattice returns true whatever it is handed, and what it was handed reads behind the call as it did. -/
theorem domLattice_holds : Rows.DomLatticeSaid :=
  OpenClaim.holds_of_wide 8 Tryz.f8 rfl rfl rfl rfl rfl rfl rfl ⟨rfl, rfl, rfl, rfl, rfl⟩ rfl rfl rfl rfl rfl (by kernel_rfl) Tryz.func8 (by kernel_rfl)
    (of_decide_eq_true (by kernel_rfl)) (by unfold Func.isWrapper; first | (rw [if_pos (by decide +kernel)]; kernel_rfl) | (rw [if_neg (by decide +kernel)]; exact ⟨rfl, rfl⟩))
    (fun os started H enc _ => lattice_lifted os started H enc)

end Go.Proofs.YtjlohmnnldbjoaaGreat
