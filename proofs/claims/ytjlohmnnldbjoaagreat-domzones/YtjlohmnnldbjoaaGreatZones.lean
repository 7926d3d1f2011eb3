/- DomZones returns true whatever it is handed, and what it was handed reads behind the call as it did. -/
import Derived.Test.YtjlohmnnldbjoaaGreatM11
import Derived.Test.YtjlohmnnldbjoaaGreatM18
set_option linter.unusedVariables false
set_option linter.unusedSimpArgs false
set_option linter.unusedSectionVars false
namespace Go.Proofs.YtjlohmnnldbjoaaGreat.AI
section
open Go
theorem T0k {P:Program} {H:a0f} {m:Nat} {v:Value} (hu:P.underlying 22=some (.int .i8)) (h:IsV P H (m + 1) 22 v):∃ n,v=.int .i8 n∧-128≤n∧n < 128:=by
 unfold IsV at h
 rw [hu] at h
 unfold IsT at h
 rw [hu] at h
 obtain ⟨n,he,hn⟩:=h
 simp only [Lit.wf,g1b,g1T] at hn
 have h1:-128≤n:=hn.1
 have h2:n≤127:=hn.2
 exact ⟨n,by simpa using he,h1,by omega⟩
theorem M0K {P:Program} {H:a0f} (hu:P.underlying 22=some (.int .i8)) {vs:List Value} (h:J0E P H 12 [22,22,22] vs):∃ a b c,vs=[.int .i8 a,.int .i8 b,.int .i8 c]∧(-128≤a∧a < 128)∧(-128≤b∧b < 128)∧(-128≤c∧c < 128):=by
 obtain ⟨u,v,w,rfl,h1,h2,h3⟩:=y0h h
 obtain ⟨a,rfl,ha⟩:=T0k (m:=11) hu h1
 obtain ⟨b,rfl,hb⟩:=T0k (m:=11) hu h2
 obtain ⟨c,rfl,hc⟩:=T0k (m:=11) hu h3
 exact ⟨a,b,c,rfl,ha,hb,hc⟩
end
end Go.Proofs.YtjlohmnnldbjoaaGreat.AI
namespace Go.Proofs.YtjlohmnnldbjoaaGreat
open Go Go.Proofs Go.ChangeShapes Go.WideShapes Go.ChangeAt Go.RowKit Go.Proofs.YtjlohmnnldbjoaaGreat.AI
theorem u22:Tryz.prog.underlying 22=some (.int .i8):=by kernel_rfl
theorem ts3 (t:TypeId) (ht:t ∈ Tryz.f3.params.toList):fit t:=by
 rw [Tryz.params3] at ht
 have h:t=22:=by simpa using ht
 rw [h]
 exact ⟨by kernel_rfl,by kernel_rfl,of_decide_eq_true (by kernel_rfl)⟩
theorem b1U (Ha:a0f) (vs:List Value) (h:J0E Tryz.prog Ha 12 Tryz.f3.params.toList vs):a0U env Ha.size f_3 vs Ha (fun r _=>r=.bool true) (fun _=>False):=by
 rw [Tryz.params3] at h
 obtain ⟨a,b,c,rfl,ha,hb,hc⟩:=M0K u22 h
 exact (p0g ha hb hc (f1I _)).mono fun r G h=>h.1
set_option maxRecDepth 100000 in
theorem s0Q (os:Os) (started:os.Started) (H:Type) (enc:TypeId × Value→H) :
  ReturnsInHanded {} Tryz.checked os 3 .any (Rows.domZonesSpec.pre6 enc Tryz.prog Tryz.f3 Rows.domZonesRow.domain false) (Rows.domZonesSpec.post enc Tryz.prog Tryz.f3 false true false false):=by
 refine returnsInHanded_of_change (C:=Tryz.checked) K0F started (by kernel_rfl) Tryz.func3
  (ChangeSpec.witness6 (enc:=enc) (C:=Tryz.checked) false ⟨#[],#[.int .i8 0,.int .i8 0,.int .i8 0],[]⟩ 8 (by kernel_rfl) (by kernel_rfl) (by kernel_rfl) (by kernel_rfl)) ?_
 intro W base args ds gs before hval hW _ _
 refine r0M (P:=Tryz.prog) (E:=env) (fun base n=>sim n) (m:=12) (tb:=4) K0w ts3 (by kernel_rfl) Z0e rfl ?_ b1U W base args ds gs before hval hW
 intro ds hds
 have h3:Tryz.f3.params.size=3:=by rw [Tryz.params3];rfl
 rw [h3] at hds
 match ds,hds with
 | [d1,d2,d3],_=>rfl
theorem domZones_holds:Rows.DomZonesSaid :=
 OpenClaim.holds_of_wide 3 Tryz.f3 rfl rfl rfl rfl rfl rfl rfl ⟨rfl,rfl,rfl,rfl,rfl⟩ rfl rfl rfl rfl rfl (by kernel_rfl) Tryz.func3 (by kernel_rfl)
  (of_decide_eq_true (by kernel_rfl)) (by unfold Func.isWrapper;first | (rw [f1N (by decide +kernel)];kernel_rfl) | (rw [f1K (by decide +kernel)];exact ⟨rfl,rfl⟩))
  (fun os started H enc _=>s0Q os started H enc)
end Go.Proofs.YtjlohmnnldbjoaaGreat

