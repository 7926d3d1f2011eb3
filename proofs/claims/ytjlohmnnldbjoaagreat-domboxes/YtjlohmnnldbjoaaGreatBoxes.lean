/- DomBoxes returns true whatever it is handed, and what it was handed reads behind the call as it did. -/
import Derived.Test.YtjlohmnnldbjoaaGreatM11
import Derived.Test.YtjlohmnnldbjoaaGreatM17
set_option linter.unusedVariables false
set_option linter.unusedSimpArgs false
set_option linter.unusedSectionVars false
/- The row of DomBoxes. -/
namespace Go.Proofs.YtjlohmnnldbjoaaGreat.AI
section
open Go
/-- of numbers of eight bits. -/
structure v0t (P:Program):Prop where
 u22:P.underlying 22=some (.int .i8)
 u35:P.underlying 35=some (.slice 22)
 c22:P.cellsOf 22=1
theorem v0H {P:Program} {H:a0f} {m:Nat} {v:Value} (hP:v0t P) (h:IsV P H (m + 2) 35 v):∃ l,Sls P8 H 22 1 v l:=by
 unfold IsV at h;rw [hP.u35] at h
 exact V0Z hP.u35 hP.c22 (fun cs _ h=>by
  unfold IsT at h
  rw [hP.u22] at h
  obtain ⟨n,rfl,hn⟩:=h
  simp only [Lit.wf,Bool.and_eq_true,decide_eq_true_eq] at hn
  have h1:-128≤n:=hn.1
  have h2:n≤127:=hn.2
  exact ⟨n,rfl,h1,by omega⟩) h
theorem F0t {P:Program} {H:a0f} (hP:v0t P) {vs:List Value} (h:F0A P H 12 [35,35,35] vs):∃ u v w a b c,vs=[u,v,w]∧Sls P8 H 22 1 u a∧Sls P8 H 22 1 v b∧Sls P8 H 22 1 w c:=by
 obtain ⟨u,v,w,rfl,h1,h2,h3⟩:=u0C h
 obtain ⟨a,ha⟩:=v0H (m:=10) hP h1
 obtain ⟨b,hb⟩:=v0H (m:=10) hP h2
 obtain ⟨c,hc⟩:=v0H (m:=10) hP h3
 exact ⟨u,v,w,a,b,c,rfl,ha,hb,hc⟩
end
end Go.Proofs.YtjlohmnnldbjoaaGreat.AI
namespace Go.Proofs.YtjlohmnnldbjoaaGreat
open Go Go.Proofs Go.ChangeShapes Go.WideShapes Go.ChangeAt Go.RowKit Go.Proofs.YtjlohmnnldbjoaaGreat.AI
theorem S0j:v0t Tryz.prog:=⟨by kernel_rfl,by kernel_rfl,by kernel_rfl⟩
theorem ts6 (t:TypeId) (ht:t ∈ Tryz.f6.params.toList):fit t:=by
 rw [Tryz.params6] at ht
 have h:t=35:=by simpa using ht
 rw [h]
 exact ⟨by kernel_rfl,by kernel_rfl,of_decide_eq_true (by kernel_rfl)⟩
theorem U0y (Ha:a0f) (vs:List Value) (h:F0A Tryz.prog Ha 12 Tryz.f6.params.toList vs):a0P env Ha.size f_6 vs Ha (fun r _=>r=.bool true) (fun _=>False):=by
 rw [Tryz.params6] at h
 obtain ⟨u,v,w,a,b,c,rfl,ha,hb,hc⟩:=F0t S0j h
 exact (l0A ha hb hc (Nat.le_refl _)).mono fun r G h=>h.1
set_option maxRecDepth 100000 in
theorem n0y (os:Os) (started:os.Started) (H:Type) (enc:TypeId × Value→H) :
  ReturnsInHanded {} Tryz.checked os 6 .any (Rows.domBoxesSpec.pre6 enc Tryz.prog Tryz.f6 Rows.domBoxesRow.domain false) (Rows.domBoxesSpec.post enc Tryz.prog Tryz.f6 false true false false):=by
 refine returnsInHanded_of_change (C:=Tryz.checked) G0o started (by kernel_rfl) Tryz.func6
  (ChangeSpec.witness6 (enc:=enc) (C:=Tryz.checked) false ⟨#[],#[.slice none 0 0,.slice none 0 0,.slice none 0 0],[]⟩ 8 (by kernel_rfl) (by kernel_rfl) (by kernel_rfl) (by kernel_rfl)) ?_
 intro W base args ds gs before hval hW _ _
 refine n0Z (P:=Tryz.prog) (E:=env) (fun base n=>sim n) (m:=12) (tb:=4) G0i ts6 (by kernel_rfl) S0k rfl ?_ U0y W base args ds gs before hval hW
 intro ds hds
 have h3:Tryz.f6.params.size=3:=by rw [Tryz.params6];rfl
 rw [h3] at hds
 match ds,hds with
 | [d1,d2,d3],_=>rfl
/-- DomBoxes returns true whatever it is handed, and what it was handed reads behind the call as it did. -/
theorem domBoxes_holds:Rows.DomBoxesSaid :=
 OpenClaim.holds_of_wide 6 Tryz.f6 rfl rfl rfl rfl rfl rfl rfl ⟨rfl,rfl,rfl,rfl,rfl⟩ rfl rfl rfl rfl rfl (by kernel_rfl) Tryz.func6 (by kernel_rfl)
  (of_decide_eq_true (by kernel_rfl)) (by unfold Func.isWrapper;first | (rw [if_pos (by decide +kernel)];kernel_rfl) | (rw [if_neg (by decide +kernel)];exact ⟨rfl,rfl⟩))
  (fun os started H enc _=>n0y os started H enc)
end Go.Proofs.YtjlohmnnldbjoaaGreat

