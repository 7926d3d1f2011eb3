/- DomEmpties returns true whatever it is handed, and what it was handed reads behind the call as it did. -/
import Derived.Test.YtjlohmnnldbjoaaGreatM12
import Derived.Test.YtjlohmnnldbjoaaGreatM18
set_option linter.unusedVariables false
set_option linter.unusedSimpArgs false
set_option linter.unusedSectionVars false
namespace Go.Proofs.YtjlohmnnldbjoaaGreat
open Go Go.Proofs Go.ChangeShapes Go.WideShapes Go.ChangeAt Go.RowKit Go.Proofs.YtjlohmnnldbjoaaGreat.AI
theorem ts5 (t:TypeId) (ht:t ∈ Tryz.f5.params.toList):fit t:=by
 rw [Tryz.params5] at ht
 have h:t=25 ∨ t=3 ∨ t=27:=by simpa using ht
 rcases h with h | h | h <;> rw [h]
 ·exact f1e
 ·exact h1q
 ·exact f1f
theorem n0S {P:Program} {H:a0f} (hP:i0J P) {vs:List Value} (h:K0p P H 12 [25,3,27] vs):∃ u v n rows a,vs=[u,.int .i64 n,v]∧d0q H u rows∧d0n H v a:=by
 obtain ⟨u,x,v,rfl,h1,h2,h3⟩:=y0w h
 obtain ⟨t,ht⟩:=K0F (m:=5) hP h1
 obtain ⟨n,rfl⟩:=K0G (m:=11) hP h2
 obtain ⟨a,ha⟩:=U0D (m:=6) hP h3
 exact ⟨u,v,n,t,a,rfl,ht,ha⟩
theorem d1F (Ha:a0f) (vs:List Value) (h:K0p Tryz.prog Ha 12 Tryz.f5.params.toList vs):a0S env Ha.size f_5 vs Ha (fun r _=>r=.bool true) (fun _=>False):=by
 rw [Tryz.params5] at h
 obtain ⟨u,v,n,rows,a,rfl,ht,ha⟩:=n0S types h
 exact (l0J ht ha (h1A _)).mono fun r G h=>h.1
set_option maxRecDepth 100000 in
theorem n0H (os:Os) (started:os.Started) (H:Type) (enc:TypeId × Value→H) :
  ReturnsInHanded {} Tryz.checked os 5 .any (Rows.domEmptiesSpec.pre6 enc Tryz.prog Tryz.f5 Rows.domEmptiesRow.domain false) (Rows.domEmptiesSpec.post enc Tryz.prog Tryz.f5 false true false false):=by
 refine returnsInHanded_of_change (C:=Tryz.checked) L0v started (by kernel_rfl) Tryz.func5
  (ChangeSpec.witness6 (enc:=enc) (C:=Tryz.checked) false ⟨#[],#[.agg #[.slice none 0 0],.int .i64 0,.slice none 0 0],[]⟩ 8 (by kernel_rfl) (by kernel_rfl) (by kernel_rfl) (by kernel_rfl)) ?_
 intro W base args ds gs before hval hW _ _
 refine r0S (P:=Tryz.prog) (E:=env) (fun base n=>sim n) (m:=12) (tb:=4) L0m ts5 (by kernel_rfl) a1L rfl ?_ d1F W base args ds gs before hval hW
 intro ds hds
 have h3:Tryz.f5.params.size=3:=by rw [Tryz.params5];rfl
 rw [h3] at hds
 match ds,hds with
 | [d1,d2,d3],_=>rfl
theorem domEmpties_holds:Rows.DomEmptiesSaid :=
 OpenClaim.holds_of_wide 5 Tryz.f5 rfl rfl rfl rfl rfl rfl rfl ⟨rfl,rfl,rfl,rfl,rfl⟩ rfl rfl rfl rfl rfl (by kernel_rfl) Tryz.func5 (by kernel_rfl)
  (of_decide_eq_true (by kernel_rfl)) (by unfold Func.isWrapper;first | (rw [h1F (by decide +kernel)];kernel_rfl) | (rw [h1C (by decide +kernel)];exact ⟨rfl,rfl⟩))
  (fun os started H enc _=>n0H os started H enc)
end Go.Proofs.YtjlohmnnldbjoaaGreat

