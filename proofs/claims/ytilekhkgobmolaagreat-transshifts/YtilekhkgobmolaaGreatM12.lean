/- Part 13 of the proof: AiQuickF. -/
import Derived.Test.YtilekhkgobmolaaGreatChecked
import Derived.Test.YtilekhkgobmolaaGreatM04
import Derived.Test.YtilekhkgobmolaaGreatM11
set_option linter.unusedVariables false
set_option linter.unusedSimpArgs false
set_option linter.unusedSectionVars false
namespace Go.Proofs.YtilekhkgobmolaaGreat.AI
section
open Go
noncomputable def G0U (k:Nat):Array Oper:=F0i (U0j k (N0Q Tryz.f84))
noncomputable def qA:Array Oper:=F0i (U0j 0 (N0Q Tryz.f112))
noncomputable def qB':Array Oper:=F0i (W0n (U0j 1 (N0Q Tryz.f112)))
noncomputable def qf:QF Tryz.prog where
 fQ:=G0u;fD:=X0v;fS:=q0i;fn:=Tryz.f84;fnD:=Tryz.f112
 tL:=b0G;tS:=a0G;tA:=b0N;tI:=e0i;tB:=4
 zA:=(match env.quick with | some q=>q.zero | none=>[])
 nL:=(match env.quick with | some q=>q.np | none=>0)
 nS:=(match env.quick with | some q=>q.ns | none=>0)
 ops0:=G0U 0;ops1:=G0U 1;ops2:=G0U 2;ops3:=G0U 3;opsA:=qA;opsB:=qB'
 i0:=0;i1:=1;i2:=2;i3:=3;iA:=0;iB:=1
 o1:=(G0U 1).getD 0 default;o2:=(G0U 1).getD 1 default;o3:=(G0U 2).getD 3 default;oA1:=qA.getD 0 default;oA2:=qA.getD 1 default
 bef:=N0V (d0P Tryz.prog (.region 3 (G0U 3) true))
 hfn:=Tryz.func84
 hrun:=by kernel_rfl
 body:=by kernel_rfl
 np:=by kernel_rfl
 nt:=by kernel_rfl
 res:=by kernel_rfl
 c0:=by kernel_rfl
 h1:=by kernel_rfl
 o1c:=by kernel_rfl
 o2g:=by kernel_rfl
 o2d:=by kernel_rfl
 o2o:=by kernel_rfl
 c2:=by kernel_rfl
 o3i:=by kernel_rfl
 o3g:=by kernel_rfl
 o3d:=by kernel_rfl
 ats:=W0i ((G0U 2).getD 3 default)
 o3o:=by kernel_rfl
 c3:=by kernel_rfl
 nz:=by decide
 zf:=by kernel_rfl
 zp:=by kernel_rfl
 hfnD:=Tryz.func112
 runD:=by kernel_rfl
 bodyD:=by kernel_rfl
 ntD:=by kernel_rfl
 resD:=by kernel_rfl
 hA:=by kernel_rfl
 oA1g:=by kernel_rfl
 oA1d:=by kernel_rfl
 oA1o:=by kernel_rfl
 oA2g:=by kernel_rfl
 oA2d:=by kernel_rfl
 oA2f:=fun ρ w h h'=>O0C (t:=opT (qA.getD 1 default)) (t':=opT (qA.getD 1 default)) (ifs:=S0o (Tryz.prog.underlying (opT (qA.getD 1 default)))) (by kernel_rfl) (by kernel_rfl) ρ w h h'
 oA2t:=fun ρ w ty u h h'=>G0H (t:=opT (qA.getD 1 default)) (t':=opT (qA.getD 1 default)) (ifs:=S0o (Tryz.prog.underlying (opT (qA.getD 1 default)))) (by kernel_rfl) (by kernel_rfl) ρ w ty u h h'
 blB:=by kernel_rfl
 cB:=by kernel_rfl
end
end Go.Proofs.YtilekhkgobmolaaGreat.AI
