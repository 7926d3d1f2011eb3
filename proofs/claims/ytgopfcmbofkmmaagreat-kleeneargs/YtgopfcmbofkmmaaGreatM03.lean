/- Part 4 of the proof. -/
import Derived.Recover
import Derived.Test.YtgopfcmbofkmmaaGreatM02
set_option linter.unusedVariables false
set_option linter.unusedSimpArgs false
set_option linter.unusedSectionVars false
namespace Go.Proofs.YtgopfcmbofkmmaaGreat.AI
open Go
section
variable {X:Cx} {φ φ':Inj} {H H':a0c} {w w':World} {fl:Nat} {t:a0U} {a:Act}
theorem Rel.row_lt (hR:Rel X φ H w) {b B o:Nat} {ro:Bool} {e:TypeId} {cs:List Value} (h:φ b=some (B,o)) (c:H.bk b=.row ro e cs):B < w.heap.size:=by
 exact (hR.row b B o ro e cs h c).lt
theorem Rel.agree (hR:Rel X φ H w) (hb:X.base<=w'.heap.size) (j:∀ B x,(shq w) B=some x->(shq w') B=some x)
  (c:∀ b B o ro e cs,φ b=some (B,o)->H.bk b=.row ro e cs->w'.heap[B]? = w.heap[B]?):Rel X φ H w' :=
 ⟨hb,hR.lt,fun b B o ro e cs k q =>
  (hR.row b B o ro e cs k q).mo (fun _ _ h=>h) j (c b B o ro e cs k q),hR.sep⟩
def ad (φ:Inj) (n B o:Nat):Inj:=fun b=>if b=n then some (B,o) else φ b
theorem u1V {n B o:Nat}:ad φ n B o n=some (B,o):=by unfold ad;rw [M1Z rfl]
theorem u0Y (hR:Rel X φ H w) {B o b:Nat} {x:Nat × Nat} (h:φ b=some x):ad φ H.size B o b=some x:=by
 unfold ad;rw [M1V (by have:=hR.lt b x h;omega)];exact h
theorem h0I (hR:Rel X φ H w) {B o b:Nat} {x:Nat × Nat} (h:ad φ H.size B o b=some x):(b=H.size/\x=(B,o)) ∨ (b < H.size/\φ b=some x):=by
 unfold ad at h
 split at h
 ·rename_i hb;exact .inl ⟨hb,by simpa using h.symm⟩
 ·exact .inr ⟨hR.lt b x h,h⟩
theorem Rel.adopt (hR:Rel X φ H w) {B o:Nat} {e:TypeId} {cs:List Value} {c:Array Value} (hB:w.heap[B]? = some (.cells c e (0,0))) (R:o + cs.length<=c.size)
  (hc:CR X φ (shq w) cs ((c.toList.drop o).take cs.length)) (u:X.base<=B) (G:∀ b o ro M q,φ b=some (B,o)->H.bk b ≠ .row ro M q):Rel X (ad φ H.size B o) (H.push (.row false e cs)) w:=by
 have k:∀ b x,φ b=some x->ad φ H.size B o b=some x:=fun b x h=>u0Y hR h
 have y:∀ b o,φ b=some (B,o)->H.bk b=.dead:=by
  intro b o h
  cases hk:H.bk b with
  | dead=>rfl
  | row ro M q=>exact N1i hk (G b o ro M q h)
 refine ⟨hR.bs,?_,?_,?_⟩
 ·intro b x h
  rw [N1T]
  rcases h0I hR h with ⟨z,_⟩ | ⟨z,_⟩ <;> omega
 ·intro b L J ro N r z j
  rw [a0z] at j
  rcases h0I hR z with ⟨rfl,s⟩ | ⟨s,I⟩
  ·rw [M1Z rfl] at j;cases j;cases s
   exact .inl ⟨c,e,(0,0),hB,R,hc.mo k (fun _ _ h=>h),fun _=>⟨u,rfl,rfl⟩,fun h=>by cases h⟩
  ·rw [M1V (by omega)] at j
   exact (hR.row b L J ro N r I j).mo k (fun _ _ h=>h) rfl
 ·intro b S L J Y N r z j F s
  rw [a0z] at s ⊢
  rcases h0I hR z with ⟨rfl,I⟩ | ⟨I,U⟩
  ·cases I
   rcases h0I hR j with ⟨rfl,_⟩ | ⟨O,Q⟩
   ·exact N1i rfl F
   ·rw [M1V (by omega)];exact y S Y Q
  ·rw [M1V (by omega)] at s
   rcases h0I hR j with ⟨rfl,O⟩ | ⟨O,Q⟩
   ·cases O;exact N1i s (G b J _ _ _ U)
   ·rw [M1V (by omega)];exact hR.sep b S L J Y N r U Q F s
theorem Rel.adopt0 (hR:Rel X φ H w) (B o:Nat):Rel X (ad φ H.size B o) (H.push .dead) w:=by
 have r:∀ b x,φ b=some x->ad φ H.size B o b=some x:=fun b x h=>u0Y hR h
 refine ⟨hR.bs,?_,?_,?_⟩
 ·intro b x h
  rw [N1T]
  rcases h0I hR h with ⟨q,_⟩ | ⟨q,_⟩ <;> omega
 ·intro b s F ro u c q j
  rw [a0z] at j
  rcases h0I hR q with ⟨rfl,k⟩ | ⟨k,y⟩
  ·rw [M1Z rfl] at j;cases j
  ·rw [M1V (by omega)] at j
   exact (hR.row b s F ro u c y j).mo r (fun _ _ h=>h) rfl
 ·intro b G s F M u c q j z k
  rw [a0z] at k ⊢
  rcases h0I hR q with ⟨rfl,y⟩ | ⟨y,I⟩
  ·rw [M1Z rfl] at k;cases k
  ·rw [M1V (by omega)] at k
   rcases h0I hR j with ⟨rfl,J⟩ | ⟨J,L⟩
   ·rw [M1Z rfl]
   ·rw [M1V (by omega)];exact hR.sep b G s F M u c I L z k
theorem VR.back {q:Nat} (hR:Rel X φ H w) (h:b0R X q φ H w φ' H' w') {S S':Shp} {v u j:Value} (k:VR X φ S v u) (k':VR X φ' S' v j):VR X φ S' v j:=by
 refine (VR.cut (m:=H.size) (fun b y hb=>hR.lt b y hb) k k').mo (fun b x r=>?_) (fun _ _ h=>h)
 obtain ⟨s,c⟩:=a0X.1 r
 cases hb:φ b with
 | none=>have:=h.fresh b x c hb;omega
 | some y=>rw [h.ext b y hb] at c;exact c
theorem CR.back {j:Nat} (hR:Rel X φ H w) (h:b0R X j φ H w φ' H' w') {S S':Shp} {l m c:List Value} (k:CR X φ S l m) (k':CR X φ' S' l c):CR X φ S' l c :=
 ⟨k'.1,fun i hi=>VR.back hR h (k.2 i hi) (k'.2 i hi)⟩
theorem b0R.own_new (hR:Rel X φ H w) (h:b0R X H.size φ H w φ' H' w') {b B o:Nat} (hb:φ' b=some (B,o)) (k:φ b=none):w.heap.size<=B:=by
 rcases h.newB b B o hb k with c | ⟨j,s,e,cs,c,q,r⟩
 ·exact c
 ·have:=hR.lt j _ c;omega
theorem b0R.old (hR:Rel X φ H w) (h:b0R X H.size φ H w φ' H' w') {B:Nat} (hB:B < w.heap.size):w'.heap[B]? = w.heap[B]? :=
 h.frame B hB fun b o e cs c j=>by have:=hR.lt b _ c;omega
theorem b0R.rel0 (hR:Rel X φ H w) (h:b0R X H.size φ H w φ' H' w'):Rel X φ H w' :=
 hR.agree (N1n hR.bs h.wsz) h.shp fun b B o ro e cs c j=>h.old hR (hR.row_lt c j)
theorem q0h {call:Nat->FuncId->List Value->a0c->Res (Value × a0c)} (hcall:b0x X call) {ops:Array Oper} {Q:Exit->Act->World->Prop} {rest:List Nat} {t':a0U} {H':a0c} :
  ∀ (r:List a0v) (k:Nat) (t:a0U) (H:a0c) (φ:Inj) (w:World) (a:Act),
  (∀ i s,r[i]? = some s->∃ o,ops[k + i]? = some o/\g0V X.P ops true o=some s)->Rel X φ H w->CR X φ (shq w) t a.tmps.toList->fl<=H.size->f0h call fl r t H=.fin .normal t' H' ->
  (∀ φ' G w',CR X φ' (shq w') t' G.tmps.toList->b0R X fl φ H w φ' H' w'->G.defers=a.defers->wpOps X.P ops Q rest G w') ->
  wpOps X.P ops Q (List.range' k r.length ++ rest) a w
 | [],k,t,H,φ,w,a,_,hR,hT,_,he,hK=>by
  simp only [f0h,Out.fin.injEq] at he
  obtain ⟨_,rfl,rfl⟩:=he
  exact hK φ a w hT (b0R.refl hR) rfl
 | s :: r,k,t,H,φ,w,a,hops,hR,hT,hfl,he,hK=>by
  obtain ⟨o,ho,z⟩:=hops 0 s rfl
  simp only [N1O] at ho
  obtain ⟨hc,R,q⟩:=c0T z
  have O:=o0J z hT
  have c:∀ i F,r[i]? = some F->∃ o,ops[k + 1 + i]? = some o/\g0V X.P ops true o=some F:=fun i F hi=>by
   obtain ⟨S,x,y⟩:=hops (i + 1) F (by simpa using hi)
   exact ⟨S,by rw [<- x];congr 1;omega,y⟩
  rw [N1I,O1Z,O1y]
  unfold wpOps
  simp only [ho]
  simp only [f0h] at he
  by_cases j:a0Q t s.g=true
  ·rw [O,M1Z j]
   simp only [j,N1E] at he
   refine .inl ?_
   cases hs:b0i call fl t H s.op with
   | bad=>simp [hs] at he
   | pan v=>simp [hs] at he
   | ok vH =>
    obtain ⟨v,H1⟩:=vH
    simp only [hs] at he
    refine l0Q hcall hc R hR hT hfl hs a rfl (fun φ' v' w' M h=>?_)
    have L:CR X φ' (shq w') t a.tmps.toList:=hT.mo h.ext h.shp
    refine q0h hcall r (k + 1) (put t s.dst v) H1 φ' w' (a.put o.dst v') c h.rel (by rw [q];exact j0B L M o.dst) (N1n hfl h.hsz) he (fun u I N x y J=>?_)
    exact hK u I N x (h.trans y (M1U _) hR) (by rw [J,c0l])
  ·rw [O,M1V j]
   simp only [Bool.not_eq_true] at j
   simp only [j,N1g,N1G] at he
   refine q0h hcall r (k + 1) (put t s.dst undef) H φ w (a.put o.dst undef) c hR (by rw [q];exact j0B hT VR.undef o.dst) hfl he (fun u I N x y J=>?_)
   exact hK u I N x y (by rw [J,c0l])
def k0w (j:Nat) (o:Oper):Bool:=o.guard.isNone && j0Y o && o.op.operands.toList.all fun | .tmp i=>i != j | _=>true
theorem w0G {j:Nat} {o:Oper} (hb:k0w j o=true) {a b:Act} (h:∀ i,i ≠ j->b.tmps.getD i undef=a.tmps.getD i undef):execOp b.eval o=execOp a.eval o:=by
 unfold k0w at hb
 simp only [M1W,N1H] at hb
 obtain ⟨⟨u,c⟩,k⟩:=hb
 refine execOp_congr o (fun cs s q=>by unfold j0Y at c;rw [q] at c;cases c) ?_
 intro x r
 cases x with
 | tmp d =>
  have:=k (.tmp d) (by simpa using r)
  simp only [bne_iff_ne,ne_eq] at this
  simp only [Act.eval]
  exact h d this
 | const v=>rfl
 | func f=>rfl
 | global g=>rfl
theorem A0h {j:Nat} {a b:Act} (h:∀ i,i ≠ j->b.tmps.getD i undef=a.tmps.getD i undef) (hs:b.tmps.size=a.tmps.size) (d:Option Nat) (v:Value) :
  (∀ i,i ≠ j->(b.put d v).tmps.getD i undef=(a.put d v).tmps.getD i undef)/\(b.put d v).tmps.size=(a.put d v).tmps.size:=by
 cases d with
 | none=>exact ⟨h,hs⟩
 | some d =>
  refine ⟨fun i hi=>?_,by simpa [Act.put] using hs⟩
  simp only [Act.put,M1Y,N1l,hs]
  have:=h i hi
  simp only [M1Y] at this
  by_cases c:d=i
  ·simp [c]
  ·simp [c,this]
theorem r0Z {call:Nat->FuncId->List Value->a0c->Res (Value × a0c)} (hcall:b0x X call) {j:Nat} {ops:Array Oper} {Q:Exit->Act->World->Prop} {t':a0U} {H':a0c} (x:ops.toList.all (k0w j)=true) :
  ∀ (r:List a0v) (k:Nat) (t:a0U) (H:a0c) (φ:Inj) (w:World) (a b:Act),
  (∀ i s,r[i]? = some s->s.g=none/\∃ o,ops[k + i]? = some o/\g0V X.P ops true o=some s)->Rel X φ H w->CR X φ (shq w) t a.tmps.toList->fl<=H.size->(∀ i,i ≠ j->b.tmps.getD i undef=a.tmps.getD i undef)->b.tmps.size=a.tmps.size ->
  f0h call fl r t H=.fin .normal t' H'->(∀ φ' N w',b0R X fl φ H w φ' H' w'->N.defers=b.defers->Q .normal N w') ->
  wpOps X.P ops Q (List.range' k r.length) b w
 | [],k,t,H,φ,w,a,b,_,hR,hT,_,_,_,he,hK=>by
  simp only [f0h,Out.fin.injEq] at he
  obtain ⟨_,rfl,rfl⟩:=he
  exact hK φ b w (b0R.refl hR) rfl
 | s :: r,k,t,H,φ,w,a,b,hops,hR,hT,hfl,hag,hsz,he,hK=>by
  obtain ⟨J,o,ho,G⟩:=hops 0 s rfl
  simp only [N1O] at ho
  obtain ⟨hc,U,y⟩:=c0T G
  have q:∀ i z,r[i]? = some z->z.g=none/\∃ o,ops[k + 1 + i]? = some o/\g0V X.P ops true o=some z:=fun i z hi=>by
   obtain ⟨R,Y,O,u⟩:=hops (i + 1) z (by simpa using hi)
   exact ⟨R,Y,by rw [<- O];congr 1;omega,u⟩
  have h:k0w j o=true:=N1H.1 x o (by
   have:=N1y.1 ho
   obtain ⟨O,u⟩:=this
   rw [<- u];simp)
  have I:o.guard=none:=by
   unfold k0w at h
   simp only [M1W,O1D] at h
   exact h.1.1
  rw [N1I,O1Z]
  unfold wpOps
  simp only [ho]
  rw [show Region.wanted o (yielded ops b.tmps)=true by simp [Region.wanted,I],M1Z rfl]
  simp only [f0h,J,a0Q,N1E] at he
  refine .inl ?_
  cases hs:b0i call fl t H s.op with
  | bad=>simp [hs] at he
  | pan v=>simp [hs] at he
  | ok vH =>
   obtain ⟨v,H1⟩:=vH
   simp only [hs] at he
   refine l0Q hcall hc U hR hT hfl hs b (w0G h hag) (fun φ' v' w' L c=>?_)
   have F:CR X φ' (shq w') t a.tmps.toList:=hT.mo c.ext c.shp
   obtain ⟨Z,p2⟩:=A0h hag hsz o.dst v'
   refine r0Z hcall x r (k + 1) (put t s.dst v) H1 φ' w' (a.put o.dst v') (b.put o.dst v') q c.rel (by rw [y];exact j0B F L o.dst) (N1n hfl c.hsz) Z p2 he (fun M b2 w2 u S=>?_)
   exact hK M b2 w2 (c.trans u (M1U _) hR) (by rw [S,c0l])
end
section
def q0 (tL tS tA tI tB:Nat) (zA:List Value):List a0v :=
 [⟨some 2,none,.box tL (.tmp 0)⟩,⟨some 3,none,.box tS (.tmp 1)⟩,⟨some 4,none,.alloc tA zA⟩,⟨some 5,none,.alloc tI [.int .i64 0]⟩,⟨some 6,none,.alloc tB [.bool false]⟩]
def q1 (fD:FuncId):List a0v:=[⟨some 7,none,.mkfn (.func fD) [] [.tmp 4,.tmp 5,.tmp 6]⟩]
def q2a (nL nS:Nat):List a0v:=[⟨some 9,none,.build [] []⟩,⟨some 10,none,.load true nL (.tmp 2)⟩,⟨some 11,none,.load true nS (.tmp 3)⟩]
def q2b (nA:Nat):List a0v:=[⟨some 8,none,.mv (.tmp 12)⟩,⟨some 13,none,.ext (.tmp 8) 0⟩,⟨some 14,none,.ext (.tmp 8) 1⟩,⟨none,none,.store nA (.tmp 4) (.tmp 13)⟩,⟨none,none,.store 1 (.tmp 5) (.tmp 14)⟩]
def q2c (fS:FuncId):a0v:=⟨some 12,none,.call fS [.tmp 9,.tmp 10,.tmp 11] true⟩
def q3 (nA:Nat):List a0v:=[⟨some 15,none,.load true nA (.tmp 4)⟩,⟨some 16,none,.load false 1 (.tmp 5)⟩,⟨none,none,.store nA (.tmp 4) (.tmp 15)⟩,⟨none,none,.store 1 (.tmp 5) (.tmp 16)⟩,⟨none,none,.store 1 (.tmp 6) (.const (.bool true))⟩]
def qB (nA:Nat) (zA:List Value):List a0v:=[⟨some 5,none,.build zA []⟩,⟨none,none,.store nA (.tmp 0) (.tmp 5)⟩,⟨none,none,.store 1 (.tmp 1) (.const (.int .i64 0))⟩,⟨none,none,.store 1 (.tmp 2) (.const (.bool false))⟩]
structure QF (P:Program) where
 (fQ fD fS:FuncId) (fn fnD:Func) (tL tS tA tI tB:Nat) (zA:List Value) (nL nS:Nat)
 (ops0 ops1 ops2 ops3 opsA opsB:Array Oper) (i0 i1 i2 i3 iA iB:Nat)
 (o1 o2 o3 oA1 oA2:Oper) (bef:List Nat)
 (hfn:P.funcs[fQ]? = some fn)
 (hrun:s0q P fQ=true)
 (body:fn.body=some (.seq (.region i0 ops0 false) (.seq (.region i1 ops1 false) (.seq (.region i2 ops2 false) (.seq (.region i3 ops3 true) .ret)))))
 (np:fn.params.size=2)
 (nt:fn.ntmps=17)
 (res:fn.results.toList.mapM (v1i P)=some [.cell 4 true zA.length,.cell 5 false 1,.cell 6 false 1])
 (c0:d0f P (.region i0 ops0 false)=some (.reg (q0 tL tS tA tI tB zA)))
 (h1:ops1 = #[o1,o2])
 (o1c:g0V P ops1 true o1=some ⟨some 7,none,.mkfn (.func fD) [] [.tmp 4,.tmp 5,.tmp 6]⟩)
 (o2g:o2.guard=none) (o2d:o2.dst=none) (o2o:o2.op=.defer { callee:=.value (.tmp 7),args:=#[],argTypes:=#[] })
 (c2:d0f P (.region i2 ops2 false)=some (.reg (q2a nL nS ++ q2c fS :: q2b zA.length)))
 (o3i:ops2[3]? = some o3) (o3g:o3.guard=none) (o3d:o3.dst=some 12) (ats:Array TypeId)
 (o3o:o3.op=.call { callee:=.value (.func fS),args:=#[.tmp 9,.tmp 10,.tmp 11],argTypes:=ats })
 (c3:d0f P (.region i3 ops3 true)=some (.draw (q3 zA.length) bef [(1,2)]))
 (nz:zA.length ≠ 0) (zf:zA.all r0g=true) (zp:zA.all a0n=true)
 (hfnD:P.funcs[fD]? = some fnD) (runD:s0q P fD=true)
 (bodyD:fnD.body=some (.seq (.region iA opsA false) (.cond (.tmp 4) (.region iB opsB false) .skip)))
 (ntD:fnD.ntmps=6) (resD:fnD.results = #[])
 (hA:opsA = #[oA1,oA2])
 (oA1g:oA1.guard=none) (oA1d:oA1.dst=some 3) (oA1o:oA1.op=.call { callee:=.builtin .recover,args:=#[],argTypes:=#[] })
 (oA2g:oA2.guard=none) (oA2d:oA2.dst=some 4)
 (oA2f:∀ (ρ:Operand->Value) (w:World),ρ (.tmp 3)=.nilIface->ρ (.const .nilIface)=.nilIface->(execOp ρ oA2).run P w=.ok (.value (.bool false)) w)
 (oA2t:∀ (ρ:Operand->Value) (w:World) (ty:TypeId) (u:Value),ρ (.tmp 3)=.iface ty u->ρ (.const .nilIface)=.nilIface->(execOp ρ oA2).run P w=.ok (.value (.bool true)) w)
 (blB:opsB.toList.all (k0w 3)=true)
 (cB:d0f P (.region iB opsB false)=some (.reg (qB zA.length zA)))
variable {X:Cx} {call:Nat->FuncId->List Value->a0c->Res (Value × a0c)} {φ:Inj} {H H':a0c} {w:World} {fl:Nat}
def hp5 (F:QF X.P) (p s:Array Value) (H:a0c):a0c :=
 ((((H.push (.row false F.tL p.toList)).push (.row false F.tS s.toList)).push (.row false F.tA F.zA)).push (.row false F.tI [.int .i64 0])).push (.row false F.tB [.bool false])
def pt (n:Nat):Value:=.pointer (some ⟨n,0,none⟩)
def un (k:Nat):List Value:=List.replicate k undef
def tm5 (p s:Array Value) (n:Nat):a0U:=[.agg p,.agg s,pt n,pt (n + 1),pt (n + 2),pt (n + 3),pt (n + 4)] ++ un 10
def tm7 (fD:FuncId) (p s:Array Value) (n:Nat):a0U:=[.agg p,.agg s,pt n,pt (n + 1),pt (n + 2),pt (n + 3),pt (n + 4),.func (.func fD) #[] #[pt (n + 2),pt (n + 3),pt (n + 4)]] ++ un 9
def s0k (fD:FuncId) (p s:Array Value) (n:Nat):a0U:=[.agg p,.agg s,pt n,pt (n + 1),pt (n + 2),pt (n + 3),pt (n + 4),.func (.func fD) #[] #[pt (n + 2),pt (n + 3),pt (n + 4)],undef,.agg #[],.agg p,.agg s] ++ un 5
theorem v0m (F:QF X.P) (p s:Array Value):(hp5 F p s H).size=H.size + 5:=by simp [hp5]
theorem k0B (F:QF X.P) (p s:Array Value) (k:Nat) (c:k < 5):(hp5 F p s H).bk (H.size + k)=[Blk.row false F.tL p.toList,.row false F.tS s.toList,.row false F.tA F.zA,.row false F.tI [.int .i64 0],.row false F.tB [.bool false]].getD k .dead:=by
 simp only [hp5,a0z,N1T]
 match k,c with
 | 0,_=>rw [M1V (by omega),M1V (by omega),M1V (by omega),M1V (by omega),M1Z (by omega)];rfl
 | 1,_=>simp
 | 2,_=>simp
 | 3,_=>simp
 | 4,_=>simp
theorem C1b (F:QF X.P) (p s:Array Value):a0K call H.size 1 (.reg (q0 F.tL F.tS F.tA F.tI F.tB F.zA)) ([.agg p,.agg s] ++ un 15) H=.fin .normal (tm5 p s H.size) (hp5 F p s H):=by
 simp [a0K,q0,f0h,a0Q,b0i,opA,ev,get,put,un,tm5,hp5,pt,a0t,List.replicate]
theorem M1E (p s:Array Value) {c:FuncId} {n:Nat} {G:a0c}:f0h call fl (q1 c) (tm5 p s n) G=.fin .normal (tm7 c p s n) G:=by
 simp [q1,f0h,a0Q,b0i,opA,ev,get,put,un,tm5,tm7,pt,List.replicate]
theorem M1F (F:QF X.P) {p s:Array Value} (hp:p.size=F.nL) (hs:s.size=F.nS) (r:F.nL ≠ 0) (u:F.nS ≠ 0) :
  f0h call fl (q2a F.nL F.nS) (tm7 F.fD p s H.size) (hp5 F p s H)=.fin .normal (s0k F.fD p s H.size) (hp5 F p s H):=by
 have h:=k0B (H:=H) F p s 0 (by omega)
 have j:=k0B (H:=H) F p s 1 (by omega)
 simp only [N1O,List.getD_cons_zero,List.getD_cons_succ] at h j
 have k:b0w (hp5 F p s H) true F.nL (pt H.size)=some (.agg p):=by
  have c:a0c.cells? (hp5 F p s H) H.size 0 F.nL=some p.toList:=by
   unfold a0c.cells?;rw [h];simp only [N1q,O1c];rw [M1Z (by simp [hp]),N1c (by simp [hp])]
  simp [b0w,pt,r,c]
 have q:b0w (hp5 F p s H) true F.nS (pt (H.size + 1))=some (.agg s):=by
  have c:a0c.cells? (hp5 F p s H) (H.size + 1) 0 F.nS=some s.toList:=by
   unfold a0c.cells?;rw [j];simp only [N1q,O1c];rw [M1Z (by simp [hs]),N1c (by simp [hs])]
  simp [b0w,pt,u,c]
 simp [q2a,f0h,a0Q,b0i,opA,ev,get,put,un,tm7,s0k,List.replicate,k,q,a0R,d0M,b0c]
def g0L (F:QF X.P) (G:a0c):a0c:=((((G.push .dead).push .dead).push (.row false F.tA F.zA)).push (.row false F.tI [.int .i64 0])).push (.row false F.tB [.bool false])
structure F1C (X:Cx) (F:QF X.P) (φ:Inj) (H:a0c) (w w1:World) (B o:Nat->Nat):Prop where
 lo:∀ k,k < 5->w.heap.size<=B k
 hi:∀ k,k < 5->B k < w1.heap.size
 ne:∀ j k,j < 5->k < 5->j ≠ k->B j ≠ B k
 base:∀ k,k < 5->X.base<=B k
 rA:∃ c,w1.heap[B 2]? = some (.cells c F.tA (0,0))/\o 2 + F.zA.length<=c.size/\∀ φ S,CR X φ S F.zA ((c.toList.drop (o 2)).take F.zA.length)
 rI:∃ c,w1.heap[B 3]? = some (.cells c F.tI (0,0))/\o 3 + 1<=c.size/\∀ φ S,CR X φ S [.int .i64 0] ((c.toList.drop (o 3)).take 1)
 rB:∃ c,w1.heap[B 4]? = some (.cells c F.tB (0,0))/\o 4 + 1<=c.size/\∀ φ S,CR X φ S [.bool false] ((c.toList.drop (o 4)).take 1)
theorem H0i {φ φ':Inj} {S S':Shp} {v u:Value} (c:r0g v=true) (h:VR X φ S v u):VR X φ' S' v u:=by
 have:u=v:=by
  cases h <;> simp [r0g] at c <;> try rfl
  ·rename_i f a b j k r w s x
   cases f <;> simp [r0g] at c
   obtain ⟨rfl,rfl⟩:=c
   have q:j = #[]:=by simpa using r.symm
   have e2:k = #[]:=by simpa using s.symm
   rw [q,e2]
 rw [this];exact l0K c
theorem r0h {φ φ':Inj} {S S':Shp} {l m:List Value} (c:l.all r0g=true) (h:CR X φ S l m):CR X φ' S' l m :=
 ⟨h.1,fun i hi=>H0i (by
  have:=N1H.1 c (l.getD i undef) (by rw [M1R,M1X hi];exact N1j hi)
  exact this) (h.2 i hi)⟩
theorem w1r (F:QF X.P) {p s:Array Value} {G:Inj} {I:World} (hR:Rel X φ H w) (u:b0R X H.size φ H w G (hp5 F p s H) I) {B o:Nat->Nat} (hφ:∀ k,k < 5->G (H.size + k)=some (B k,o k))
  (z:∀ k,k < 5->X.base<=B k->∃ e n,shq I (B k)=some (some e,n)):F1C X F φ H w I B o:=by
 have y:∀ k,φ (H.size + k)=none:=fun k=>by
  cases h:φ (H.size + k) with
  | none=>rfl
  | some x=>have:=hR.lt _ _ h;omega
 have r:∀ k,k < 5->∃ e cs,(hp5 F p s H).bk (H.size + k)=.row false e cs:=fun k q=>by
  rw [k0B F p s k q]
  match k,q with
  | 0,_=>exact ⟨_,_,rfl⟩
  | 1,_=>exact ⟨_,_,rfl⟩
  | 2,_=>exact ⟨_,_,rfl⟩
  | 3,_=>exact ⟨_,_,rfl⟩
  | 4,_=>exact ⟨_,_,rfl⟩
 have rows:∀ k e cs,k < 5->(hp5 F p s H).bk (H.size + k)=.row false e cs->cs.all r0g=true->∃ c,I.heap[B k]? = some (.cells c e (0,0))/\o k + cs.length<=c.size/\∀ φ S,CR X φ S cs ((c.toList.drop (o k)).take cs.length):=by
  intro k e cs q hb hf
  obtain ⟨c,U,Y,M,N,O,J,_⟩:=(u.rel.row _ _ _ _ _ _ (hφ k q) hb).cells (z k q)
  obtain ⟨_,rfl,rfl⟩:=J rfl
  exact ⟨c,M,N,fun φ' S'=>r0h hf O⟩
 refine ⟨fun k q=>u.own_new hR (hφ k q) (y k),fun k q=>?_,fun j k Q q a0 L=>?_,fun k q=>?_,?_,?_,?_⟩
 ·obtain ⟨e,cs,h⟩:=r k q
  exact u.rel.row_lt (hφ k q) h
 ·obtain ⟨e,cs,h⟩:=r j Q
  obtain ⟨e',R,Z⟩:=r k q
  have:=u.rel.sep _ _ _ _ _ _ _ (hφ j Q) (by rw [L];exact hφ k q) (by omega) h
  rw [Z] at this;cases this
 ·obtain ⟨e,cs,h⟩:=r k q
  obtain ⟨c,U,Y,M,N,O,J,_⟩:=(u.rel.row _ _ _ _ _ _ (hφ k q) h).cells (z k q)
  exact (J rfl).1
 ·exact rows 2 F.tA F.zA (by omega) (by rw [k0B F p s 2 (by omega)];rfl) F.zf
 ·exact rows 3 F.tI [.int .i64 0] (by omega) (by rw [k0B F p s 3 (by omega)];rfl) rfl
 ·exact rows 4 F.tB [.bool false] (by omega) (by rw [k0B F p s 4 (by omega)];rfl) rfl
def A0d (φ:Inj) (n:Nat) (B o:Nat->Nat):Inj:=ad (ad (ad (ad (ad φ n (B 0) (o 0)) (n + 1) (B 1) (o 1)) (n + 2) (B 2) (o 2)) (n + 3) (B 3) (o 3)) (n + 4) (B 4) (o 4)
theorem r0z (F:QF X.P) {φ':Inj} {U J:World} {B o:Nat->Nat} (O:F1C X F φ H w U B o) (G:Rel X φ' H' J) (s:∀ k,k < 5->J.heap[B k]? = U.heap[B k]?)
  (I:∀ k,k < 5->∀ b u ro r j,φ' b=some (B k,u)->H'.bk b ≠ .row ro r j):Rel X (A0d φ' H'.size B o) (g0L F H') J:=by
 have r0:=G.adopt0 (B 0) (o 0)
 have r1:=r0.adopt0 (B 1) (o 1)
 have s1:(H'.push Blk.dead).size=H'.size + 1:=by simp
 rw [s1] at r1
 have L:∀ k,2<=k->k < 5->∀ b u ro r j,ad (ad φ' H'.size (B 0) (o 0)) (H'.size + 1) (B 1) (o 1) b=some (B k,u)->a0c.bk ((H'.push Blk.dead).push .dead) b ≠ .row ro r j:=by
  intro k hk q b u ro r j h
  unfold ad at h
  simp only [a0z,N1T]
  split at h
  ·rename_i hb;simp at h;exact N1i h.1 (O.ne 1 k (by omega) q (by omega))
  ·split at h
   ·rename_i hb;simp at h;exact N1i h.1 (O.ne 0 k (by omega) q (by omega))
   ·rename_i h1 h2;rw [M1V (by omega),M1V (by omega)];exact I k q b u ro r j h
 obtain ⟨Y,x,y,z⟩:=O.rA
 have r2:=r1.adopt (B:=B 2) (o:=o 2) (e:=F.tA) (cs:=F.zA) (c:=Y) (by rw [s 2 (by omega)];exact x) y (z _ _) (O.base 2 (by omega)) (L 2 (by omega) (by omega))
 have R:((H'.push Blk.dead).push Blk.dead).size=H'.size + 2:=by simp
 rw [R] at r2
 have M:∀ k,3<=k->k < 5->∀ b u ro r j,ad (ad (ad φ' H'.size (B 0) (o 0)) (H'.size + 1) (B 1) (o 1)) (H'.size + 2) (B 2) (o 2) b=some (B k,u)->a0c.bk (((H'.push Blk.dead).push .dead).push (.row false F.tA F.zA)) b ≠ .row ro r j:=by
  intro k hk q b u ro r j h
  unfold ad at h
  rw [a0z,R]
  split at h
  ·rename_i hb;simp at h;exact N1i h.1 (O.ne 2 k (by omega) q (by omega))
  ·rename_i hb;rw [M1V hb];exact L k (by omega) q b u ro r j h
 obtain ⟨Z,x,y,z⟩:=O.rI
 have N:=r2.adopt (B:=B 3) (o:=o 3) (e:=F.tI) (cs:=[.int .i64 0]) (c:=Z) (by rw [s 3 (by omega)];exact x) y (z _ _) (O.base 3 (by omega)) (M 3 (by omega) (by omega))
 have S:(((H'.push Blk.dead).push Blk.dead).push (.row false F.tA F.zA)).size=H'.size + 3:=by simp
 rw [S] at N
 obtain ⟨c4,x,y,z⟩:=O.rB
 have Q:=N.adopt (B:=B 4) (o:=o 4) (e:=F.tB) (cs:=[.bool false]) (c:=c4) (by rw [s 4 (by omega)];exact x) y (z _ _) (O.base 4 (by omega)) (by
  intro b u ro r j h
  unfold ad at h
  rw [a0z,S]
  split at h
  ·rename_i hb;simp at h;exact N1i h.1 (O.ne 3 4 (by omega) (by omega) (by omega))
  ·rename_i hb;rw [M1V hb];exact M 4 (by omega) (by omega) b u ro r j h)
 have s4:((((H'.push Blk.dead).push Blk.dead).push (.row false F.tA F.zA)).push (.row false F.tI [.int .i64 0])).size=H'.size + 4:=by simp
 rw [s4] at Q
 exact Q
theorem s0m {φ φ':Inj} {S S':Shp} {u:Value} (h:VR X φ S undef u):VR X φ' S' undef u:=by
 unfold undef at h ⊢
 cases h with
 | tuple a a' h1 h2=>exact .tuple _ _ h1 (fun i hi=>by simp at hi)
theorem U0S {φ φ':Inj} {S S':Shp}:∀ {k:Nat} {l:List Value},CR X φ S (un k) l->CR X φ' S' (un k) l
 | 0,l,h=>by rw [h.nil_left];exact CR.nil
 | k + 1,l,h=>by
  obtain ⟨v',q,rfl,j,c⟩:=(show CR X φ S (undef :: un k) l from h).cons_left
  exact CR.cons (s0m j) (U0S c)
theorem i0n {φ φ':Inj} {S S':Shp} {n m:Nat} {x:Nat × Nat} {u:Value} (j:∀ b x,S b=some x->S' b=some x) (hφ:φ n=some x) (c:φ' m=some x) (h:VR X φ S (pt n) u):VR X φ' S' (pt m) u:=by
 unfold pt at h ⊢
 cases h with
 | ptr a a' B o h1 h2 h3 h4 =>
  rw [hφ] at h2;cases h2
  exact .ptr _ _ B o rfl c h3 (fun hb=>by obtain ⟨e,n,h⟩:=h4 hb;exact ⟨e,n,j _ _ h⟩)
theorem n0k {j q:Inj} {G:a0c} {z:World} {p s:Array Value} {N:FuncId} {B o:Nat->Nat} {m:Nat} {F S2:Shp} {u0 u1:Value} (hR:Rel X φ H w) (J:b0R X H.size φ H w j G z)
  (hp:VR X φ F (.agg p) u0) (hs:VR X φ F (.agg s) u1) (hφ:∀ k,k < 5->j (H.size + k)=some (B k,o k)) (r:∀ k,k < 5->q (m + k)=some (B k,o k)) (Q:∀ b x,φ b=some x->q b=some x)
  (c:∀ b x,(shq z) b=some x->S2 b=some x) {l:List Value} (h:CR X j (shq z) (s0k N p s H.size) l):CR X q S2 (s0k N p s m) l:=by
 unfold s0k at h ⊢
 simp only [O1y,O1R] at h ⊢
 obtain ⟨x0,l,rfl,k0,h⟩:=h.cons_left
 obtain ⟨x1,l,rfl,R,h⟩:=h.cons_left
 obtain ⟨x2,l,rfl,S,h⟩:=h.cons_left
 obtain ⟨x3,l,rfl,U,h⟩:=h.cons_left
 obtain ⟨x4,l,rfl,Y,h⟩:=h.cons_left
 obtain ⟨x5,l,rfl,Z,h⟩:=h.cons_left
 obtain ⟨x6,l,rfl,k6,h⟩:=h.cons_left
 obtain ⟨x7,l,rfl,k7,h⟩:=h.cons_left
 obtain ⟨x8,l,rfl,k8,h⟩:=h.cons_left
 obtain ⟨x9,l,rfl,k9,h⟩:=h.cons_left
 obtain ⟨a0,l,rfl,L,h⟩:=h.cons_left
 obtain ⟨a1,l,rfl,M,h⟩:=h.cons_left
 have y:∀ {v u O},VR X φ F v u->VR X j (shq z) v O->VR X q S2 v O:=fun k k'=>(VR.back hR J k k').mo Q c
 refine CR.cons (y hp k0) (CR.cons (y hs R) (CR.cons (i0n c (hφ 0 (by omega)) (r 0 (by omega)) S) (CR.cons (i0n c (hφ 1 (by omega)) (r 1 (by omega)) U) (CR.cons (i0n c (hφ 2 (by omega)) (r 2 (by omega)) Y)
  (CR.cons (i0n c (hφ 3 (by omega)) (r 3 (by omega)) Z) (CR.cons (i0n c (hφ 4 (by omega)) (r 4 (by omega)) k6) (CR.cons ?_ (CR.cons (s0m k8) (CR.cons ?_ (CR.cons (y hp L) (CR.cons (y hs M) (U0S h))))))))))))
 ·cases k7 with
  | func f a b a' b' g1 g2 g3 g4 =>
   refine .func _ _ _ _ _ g1 (fun i hi=>by simp at hi) g3 (fun i hi=>?_)
   have I:i < 3:=by simpa using hi
   match i,I with
   | 0,_=>exact i0n c (hφ 2 (by omega)) (r 2 (by omega)) (by simpa using g4 0 (by simp))
   | 1,_=>exact i0n c (hφ 3 (by omega)) (r 3 (by omega)) (by simpa using g4 1 (by simp))
   | 2,_=>exact i0n c (hφ 4 (by omega)) (r 4 (by omega)) (by simpa using g4 2 (by simp))
 ·cases k9 with
  | agg a a' g1 g2=>exact .agg _ _ g1 (fun i hi=>by simp at hi)
theorem p0D {n:Nat} {B o:Nat->Nat} (k:Nat) (c:k < 5):A0d φ n B o (n + k)=some (B k,o k):=by
 unfold A0d ad
 match k,c with
 | 0,_=>rw [M1V (by omega),M1V (by omega),M1V (by omega),M1V (by omega),M1Z (by omega)]
 | 1,_=>rw [M1V (by omega),M1V (by omega),M1V (by omega),M1Z (by omega)]
 | 2,_=>rw [M1V (by omega),M1V (by omega),M1Z (by omega)]
 | 3,_=>rw [M1V (by omega),M1Z (by omega)]
 | 4,_=>rw [M1Z (by omega)]
theorem t0w {n b:Nat} {B o:Nat->Nat} (hb:b < n):A0d φ n B o b=φ b:=by
 unfold A0d ad;rw [M1V (by omega),M1V (by omega),M1V (by omega),M1V (by omega),M1V (by omega)]
theorem H0F {n b:Nat} {B o:Nat->Nat} {x:Nat × Nat} (hb:n<=b) (h:A0d φ n B o b=some x):(∃ k,k < 5/\x=(B k,o k)) ∨ φ b=some x:=by
 unfold A0d ad at h
 split at h
 ·exact .inl ⟨4,by omega,by simpa using h.symm⟩
 split at h
 ·exact .inl ⟨3,by omega,by simpa using h.symm⟩
 split at h
 ·exact .inl ⟨2,by omega,by simpa using h.symm⟩
 split at h
 ·exact .inl ⟨1,by omega,by simpa using h.symm⟩
 split at h
 ·exact .inl ⟨0,by omega,by simpa using h.symm⟩
 exact .inr h
theorem H0E (hR:Rel X φ H w) {w':World} (h:Pan X H.size φ H w w'):b0R X H.size φ H w φ H w':=by
 have j:∀ B,B < w.heap.size->w'.heap[B]? = w.heap[B]?:=fun B hB=>h.frame B hB fun b o e cs k c=>by have:=hR.lt b _ k;omega
 exact { ext := fun _ _ h => h
         rel:=hR.agree (N1n hR.bs h.wsz) h.shp fun b B o ro e cs k c=>j B (hR.row_lt k c)
         shp:=h.shp,wsz:=h.wsz,os:=h.os,tape:=h.tape,out:=h.out,hsz:=M1U _,keep:=fun _ _=>rfl,kind:=fun b e cs _ h=>⟨cs,h⟩
         fresh:=fun b x k c=>by rw [k] at c;cases c
         newB:=fun b B o k c=>by rw [k] at c;cases c
         frame:=fun B hB _=>j B hB }
theorem z0J (F:QF X.P) {φ':Inj} {y M:World} {B o:Nat->Nat} (hR:Rel X φ H w) (O:F1C X F φ H w y B o) (s:Rel X φ H y) (q:b0R X H.size φ H y φ' H' M) :
  ∀ k,k < 5->∀ b G ro r j,φ' b=some (B k,G)->H'.bk b ≠ .row ro r j:=by
 intro k u b G ro r j hb h
 have Y:=O.lo k u
 have Z:=O.hi k u
 cases hφ:φ b with
 | none=>have:=q.own_new s hb hφ;omega
 | some x =>
  have:=q.ext b x hφ
  rw [hb] at this;cases this
  cases ro with
  | true =>
   rcases q.rel.row _ _ _ _ _ _ hb h with ⟨c,N,Q,z,R,S,U,J⟩ | ⟨z,_⟩
   ·have:=J rfl
    have:=O.base k u
    omega
   ·cases z
  | false =>
   obtain ⟨I,L⟩:=q.kind b r j (hR.lt b _ hφ) h
   have:=hR.row_lt hφ L
   omega
theorem v0i (F:QF X.P) {U φ' Y:Inj} {p s:Array Value} {I J S:World} {H4:a0c} {B o:Nat->Nat} (hR:Rel X φ H w) (a0:fl<=H.size) (c:b0R X H.size φ H w U (hp5 F p s H) I) (O:F1C X F φ H w I B o)
  (j:b0R X H.size φ H I φ' H' J) (r:b0R X H'.size (A0d φ' H'.size B o) (g0L F H') J Y H4 S):b0R X fl φ H w φ' H' S:=by
 have u:Rel X φ H I:=c.rel0 hR
 have Q:=z0J F hR O u j
 have q:∀ C,C < J.heap.size->(∀ k,k < 5->C ≠ B k)->S.heap[C]? = J.heap[C]?:=by
  intro C L N
  refine r.frame C L fun b R e cs hb M _=>?_
  rcases H0F M hb with ⟨k,y,h⟩ | h
  ·simp at h;exact N k y h.1
  ·have:=j.rel.lt b _ h;omega
 refine { ext:=j.ext,rel:=?_,shp:=fun C x h=>r.shp _ _ (j.shp _ _ (c.shp _ _ h)),wsz:=?_,os:=?_,tape:=?_,out:=?_,hsz:=j.hsz,keep:=fun b hb=>j.keep b (by omega),kind:=j.kind,fresh:=j.fresh,newB:=?_,frame:=?_ }
 ·exact j.rel.agree (N1n j.rel.bs r.wsz) r.shp fun b C R ro e cs z G=>q C (j.rel.row_lt z G) fun k y Z=>by
   subst Z;exact Q k y b R ro e cs z G
 ·have:=c.wsz;have:=j.wsz;have:=r.wsz;omega
 ·rw [r.os,j.os,c.os]
 ·rw [r.tape,j.tape,c.tape]
 ·rw [r.out,j.out,c.out]
 ·intro b C R z G
  have:=j.own_new u z G
  have:=c.wsz
  exact .inl (by omega)
 ·intro C L _
  have h6:=c.wsz
  have h7:=j.wsz
  rw [q C (by omega) (fun k y Z=>by have:=O.lo k y;omega),j.old u (by omega),c.old hR L]
theorem m0l (F:QF X.P):(g0L F H).size=H.size + 5:=by simp [g0L]
theorem q0P (F:QF X.P):(g0L F H).bk (H.size + 2)=.row false F.tA F.zA:=by
 simp only [g0L,a0z,N1T]
 repeat (first | rw [M1Z (show _=_ by omega)] | rw [M1V (show ¬ (_=_) by omega)])
 simp
theorem q0Q (F:QF X.P):(g0L F H).bk (H.size + 3)=.row false F.tI [.int .i64 0]:=by
 simp only [g0L,a0z,N1T]
 repeat (first | rw [M1Z (show _=_ by omega)] | rw [M1V (show ¬ (_=_) by omega)])
 simp
theorem q0R (F:QF X.P):(g0L F H).bk (H.size + 4)=.row false F.tB [.bool false]:=by
 simp only [g0L,a0z,N1T]
 repeat (first | rw [M1Z (show _=_ by omega)] | rw [M1V (show ¬ (_=_) by omega)])
 simp
theorem o0L:∀ (vs j cs:List Value),cs.length=vs.length->b0e (j ++ cs) j.length vs=j ++ vs
 | [],j,cs,h=>by have:cs=[]:=N1r.1 h;simp [b0e,this]
 | v :: r,j,c :: cs,h=>by
  simp only [N1I,Nat.add_right_cancel_iff] at h
  have k:(j ++ c :: cs).set j.length v=(j ++ [v]) ++ cs:=by
   simp [List.set_append]
  have:=o0L r (j ++ [v]) cs h
  simp only [b0e]
  rw [k]
  simpa using this
theorem s0o {cs vs:List Value} (h:cs.length=vs.length):b0e cs 0 vs=vs:=by simpa using o0L vs [] cs h
theorem l0p {G:a0c} {b:Nat} {e:TypeId} {cs vs:List Value} (hb:G.bk b=.row false e cs) (c:fl<=b) (h:cs.length=vs.length) (hp:vs.all a0n=true):G.write? fl b 0 vs=some (G.setIfInBounds b (.row false e vs)):=by
 unfold a0c.write?
 rw [hb]
 simp only
 rw [M1Z ⟨c,by omega,hp⟩,s0o h]
structure u1E (t:a0U) (m:Nat):Prop where
 l:t.length=17
 a:get t 4=pt (m + 2)
 i:get t 5=pt (m + 3)
 b:get t 6=pt (m + 4)
theorem M1H (F:QF X.P) {p s a:Array Value} {k:IntKind} {n:Int} (h:a.size=F.zA.length) (c:a.toList.all a0n=true) :
  ∃ t' G,f0h call H'.size (q2b F.zA.length) (put (s0k F.fD p s H'.size) (some 12) (.tuple #[.agg a,.int k n])) (g0L F H')=.fin .normal t' G/\u1E t' H'.size/\H'.size + 5<=G.size /\
   G.bk (H'.size + 2)=.row false F.tA a.toList/\G.bk (H'.size + 3)=.row false F.tI [.int k n]/\G.bk (H'.size + 4)=.row false F.tB [.bool false]:=by
 have q:(g0L F H').write? H'.size (H'.size + 2) 0 a.toList=some ((g0L F H').setIfInBounds (H'.size + 2) (.row false F.tA a.toList)):=l0p (q0P F) (by omega) (by simp [h]) c
 have hsz:=m0l (H:=H') F
 have j:a0c.bk ((g0L F H').setIfInBounds (H'.size + 2) (.row false F.tA a.toList)) (H'.size + 3)=.row false F.tI [.int .i64 0]:=by
  rw [a0I _ _ _ _ (by omega),M1V (by omega)];exact q0Q F
 have r:a0c.write? ((g0L F H').setIfInBounds (H'.size + 2) (.row false F.tA a.toList)) H'.size (H'.size + 3) 0 [.int k n]=some (((g0L F H').setIfInBounds (H'.size + 2) (.row false F.tA a.toList)).setIfInBounds (H'.size + 3) (.row false F.tI [.int k n])) :=
  l0p j (by omega) rfl rfl
 refine ⟨put (put (put (put (s0k F.fD p s H'.size) (some 12) (.tuple #[.agg a,.int k n])) (some 8) (.tuple #[.agg a,.int k n])) (some 13) (.agg a)) (some 14) (.int k n),((g0L F H').setIfInBounds (H'.size + 2) (.row false F.tA a.toList)).setIfInBounds (H'.size + 3) (.row false F.tI [.int k n]),?_,?_,?_,?_,?_,?_⟩
 ·simp only [put,s0k,un,pt,List.replicate,O1y,O1R,List.set_cons_succ,List.set_cons_zero]
  simp [q2b,f0h,a0Q,b0i,opA,ev,get,put,a0t,h,q,r,a0R]
 ·exact ⟨by simp [put,s0k,un],by simp [put,get,s0k,un,List.replicate],by simp [put,get,s0k,un,List.replicate],by simp [put,get,s0k,un,List.replicate]⟩
 ·simp [hsz]
 ·rw [a0I _ _ _ _ (by simp;omega),M1V (by omega),a0I _ _ _ _ (by omega),M1Z rfl]
 ·rw [a0I _ _ _ _ (by simp;omega),M1Z rfl]
 ·rw [a0I _ _ _ _ (by simp;omega),M1V (by omega),a0I _ _ _ _ (by omega),M1V (by omega)];exact q0R F
theorem S0w {G:a0c} {b:Nat} {e:TypeId} {cs:List Value} (hb:G.bk b=.row false e cs) (h:cs.length ≠ 0):b0w G true cs.length (pt b)=some (.agg cs.toArray):=by
 have c:G.cells? b 0 cs.length=some cs:=by
  unfold a0c.cells?;rw [hb];simp only [N1q,O1c];rw [M1Z (M1U _),N1c (M1U _)]
 simp [b0w,pt,h,c]
theorem z0j {G:a0c} {b:Nat} {e:TypeId} {v:Value} (hb:G.bk b=.row false e [v]):b0w G false 1 (pt b)=some v:=by
 have c:G.cells? b 0 1=some [v]:=by unfold a0c.cells?;rw [hb];simp
 simp [b0w,pt,c]
theorem M1G (F:QF X.P) {t:a0U} {G:a0c} {m:Nat} {a:List Value} {k:IntKind} {n:Int} {bef:List Nat} (L:u1E t m) (Z:a.length=F.zA.length) (x:a.all a0n=true)
  (b2:G.bk (m + 2)=.row false F.tA a) (j:G.bk (m + 3)=.row false F.tI [.int k n]) (S:G.bk (m + 4)=.row false F.tB [.bool false]) :
  ∃ t' h,a0K call m 1 (.draw (q3 F.zA.length) bef [(1,2)]) t G=.fin .normal t' h/\u1E t' m /\
   h.bk (m + 2)=.row false F.tA a/\h.bk (m + 3)=.row false F.tI [.int k n]/\h.bk (m + 4)=.row false F.tB [.bool true]:=by
 have a0:=F.nz
 have l1:=S0w b2 (by omega)
 rw [Z] at l1
 have l2:=z0j j
 have w1:=l0p (fl:=m) b2 (by omega) rfl x
 have H:=a0r b2
 have I:=a0r j
 have J:=a0r S
 have c3:a0c.bk (G.setIfInBounds (m + 2) (.row false F.tA a)) (m + 3)=.row false F.tI [.int k n]:=by rw [a0I _ _ _ _ H,M1V (by omega)];exact j
 have w2:=l0p (fl:=m) (vs:=[.int k n]) c3 (by omega) rfl rfl
 have c4:a0c.bk ((G.setIfInBounds (m + 2) (.row false F.tA a)).setIfInBounds (m + 3) (.row false F.tI [.int k n])) (m + 4)=.row false F.tB [.bool false]:=by
  rw [a0I _ _ _ _ (by simpa using I),M1V (by omega),a0I _ _ _ _ H,M1V (by omega)];exact S
 have w3:=l0p (fl:=m) (vs:=[.bool true]) c4 (by omega) rfl rfl
 have w:=L.l
 have s:∀ v u:Value,get (put (put t (some 15) v) (some 16) u) 4=pt (m + 2):=fun v u=>by
  have:=L.a;simp only [get,put,M1R,N1C] at this ⊢;simpa using this
 have U:∀ v u:Value,get (put (put t (some 15) v) (some 16) u) 5=pt (m + 3):=fun v u=>by
  have:=L.i;simp only [get,put,M1R,N1C] at this ⊢;simpa using this
 have Y:∀ v u:Value,get (put (put t (some 15) v) (some 16) u) 6=pt (m + 4):=fun v u=>by
  have:=L.b;simp only [get,put,M1R,N1C] at this ⊢;simpa using this
 have q:∀ v u:Value,get (put (put t (some 15) v) (some 16) u) 15=v:=fun v u=>by
  simp [get,put,N1C,w]
 have r:∀ v u:Value,get (put (put t (some 15) v) (some 16) u) 16=u:=fun v u=>by
  simp [get,put,N1C,w]
 have c:∀ v:Value,get (put t (some 15) v) 5=pt (m + 3):=fun v=>by
  have:=L.i;simp only [get,put,M1R,N1C] at this ⊢;simpa using this
 refine ⟨put (put t (some 15) (.agg a.toArray)) (some 16) (.int k n),((G.setIfInBounds (m + 2) (.row false F.tA a)).setIfInBounds (m + 3) (.row false F.tI [.int k n])).setIfInBounds (m + 4) (.row false F.tB [.bool true]),?_,⟨by simp [put,w],s _ _,U _ _,Y _ _⟩,?_,?_,?_⟩
 ·have y:b0i call m t G (.load true F.zA.length (.tmp 4))=.ok (.agg a.toArray,G):=by simp [b0i,opA,ev,L.a,l1,a0R]
  have z:b0i call m (put t (some 15) (.agg a.toArray)) G (.load false 1 (.tmp 5))=.ok (.int k n,G):=by simp [b0i,opA,ev,c,l2,a0R]
  have M:b0i call m (put (put t (some 15) (.agg a.toArray)) (some 16) (.int k n)) G (.store F.zA.length (.tmp 4) (.tmp 15))=.ok (undef,G.setIfInBounds (m + 2) (.row false F.tA a)):=by
   simp only [b0i,opA,ev,s,q,pt,a0t,Z,O1J];simp [w1]
  have N:b0i call m (put (put t (some 15) (.agg a.toArray)) (some 16) (.int k n)) (G.setIfInBounds (m + 2) (.row false F.tA a)) (.store 1 (.tmp 5) (.tmp 16))=.ok (undef,(G.setIfInBounds (m + 2) (.row false F.tA a)).setIfInBounds (m + 3) (.row false F.tI [.int k n])):=by
   simp only [b0i,opA,ev,U,r,pt,a0t];simp [w2]
  have O:b0i call m (put (put t (some 15) (.agg a.toArray)) (some 16) (.int k n)) ((G.setIfInBounds (m + 2) (.row false F.tA a)).setIfInBounds (m + 3) (.row false F.tI [.int k n])) (.store 1 (.tmp 6) (.const (.bool true))) =
    .ok (undef,((G.setIfInBounds (m + 2) (.row false F.tA a)).setIfInBounds (m + 3) (.row false F.tI [.int k n])).setIfInBounds (m + 4) (.row false F.tB [.bool true])):=by
   simp only [b0i,opA,ev,Y,pt,a0t];simp [w3]
  have pn:∀ (t:a0U) (v:Value),put t none v=t:=fun _ _=>rfl
  have Q:c0j (put t (some 15) (.agg a.toArray)) (.load false 1 (.tmp 5))=([m + 3],[]):=by simp [c0j,ev,c,pt,blkOf]
  have R:c0j (put (put t (some 15) (.agg a.toArray)) (some 16) (.int k n)) (.store F.zA.length (.tmp 4) (.tmp 15))=([],[m + 2]):=by simp only [c0j,ev,s];simp [pt,blkOf]
  simp only [a0K,q3,b0T,j0u,a0Q,N1g,N1G,N1E,y,z,M,N,O,pn,e0B,a0W,Q,R]
  simp [c0u,t0e]
 ·rw [a0I _ _ _ _ (by simpa using J),M1V (by omega),a0I _ _ _ _ (by simpa using I),M1V (by omega),a0I _ _ _ _ H,M1Z rfl]
 ·rw [a0I _ _ _ _ (by simpa using J),M1V (by omega),a0I _ _ _ _ (by simpa using I),M1Z rfl]
 ·rw [a0I _ _ _ _ (by simpa using J),M1Z rfl]
theorem M1I (F:QF X.P) {t:a0U} (O:t.length=6) (x:get t 0=pt (H.size + 2)) (y:get t 1=pt (H.size + 3)) (z:get t 2=pt (H.size + 4)) :
  ∃ t' c,a0K call H.size 1 (.reg (qB F.zA.length F.zA)) t (g0L F H)=.fin .normal t' c /\
   c.bk (H.size + 2)=.row false F.tA F.zA/\c.bk (H.size + 3)=.row false F.tI [.int .i64 0]/\c.bk (H.size + 4)=.row false F.tB [.bool false]:=by
 have b2:=q0P (H:=H) F
 have u:=q0Q (H:=H) F
 have w:=q0R (H:=H) F
 have h:=a0r b2
 have j:=a0r u
 have k:=a0r w
 have S:=l0p (fl:=H.size) b2 (by omega) rfl F.zp
 have G:a0c.bk ((g0L F H).setIfInBounds (H.size + 2) (.row false F.tA F.zA)) (H.size + 3)=.row false F.tI [.int .i64 0]:=by rw [a0I _ _ _ _ h,M1V (by omega)];exact u
 have U:=l0p (fl:=H.size) (vs:=[.int .i64 0]) G (by omega) rfl rfl
 have I:a0c.bk (((g0L F H).setIfInBounds (H.size + 2) (.row false F.tA F.zA)).setIfInBounds (H.size + 3) (.row false F.tI [.int .i64 0])) (H.size + 4)=.row false F.tB [.bool false]:=by
  rw [a0I _ _ _ _ (by simpa using j),M1V (by omega),a0I _ _ _ _ h,M1V (by omega)];exact w
 have Y:=l0p (fl:=H.size) (vs:=[.bool false]) I (by omega) rfl rfl
 have J:∀ v:Value,get (put t (some 5) v) 0=pt (H.size + 2):=fun v=>by simp only [get,put,M1R,N1C] at x ⊢;simpa using x
 have L:∀ v:Value,get (put t (some 5) v) 1=pt (H.size + 3):=fun v=>by simp only [get,put,M1R,N1C] at y ⊢;simpa using y
 have M:∀ v:Value,get (put t (some 5) v) 2=pt (H.size + 4):=fun v=>by simp only [get,put,M1R,N1C] at z ⊢;simpa using z
 have N:∀ v:Value,get (put t (some 5) v) 5=v:=fun v=>by simp [get,put,N1C,O]
 refine ⟨put t (some 5) (.agg F.zA.toArray),(((g0L F H).setIfInBounds (H.size + 2) (.row false F.tA F.zA)).setIfInBounds (H.size + 3) (.row false F.tI [.int .i64 0])).setIfInBounds (H.size + 4) (.row false F.tB [.bool false]),?_,?_,?_,?_⟩
 ·have Q:b0i call H.size t (g0L F H) (.build F.zA [])=.ok (.agg F.zA.toArray,g0L F H):=by simp [b0i,opA,b0c,d0M,a0R]
  have q:b0i call H.size (put t (some 5) (.agg F.zA.toArray)) (g0L F H) (.store F.zA.length (.tmp 0) (.tmp 5))=.ok (undef,(g0L F H).setIfInBounds (H.size + 2) (.row false F.tA F.zA)):=by
   simp only [b0i,opA,ev,J,N,pt,a0t,O1J];simp [S]
  have r:b0i call H.size (put t (some 5) (.agg F.zA.toArray)) ((g0L F H).setIfInBounds (H.size + 2) (.row false F.tA F.zA)) (.store 1 (.tmp 1) (.const (.int .i64 0))) =
    .ok (undef,((g0L F H).setIfInBounds (H.size + 2) (.row false F.tA F.zA)).setIfInBounds (H.size + 3) (.row false F.tI [.int .i64 0])):=by
   simp only [b0i,opA,ev,L,pt,a0t];simp [U]
  have s:b0i call H.size (put t (some 5) (.agg F.zA.toArray)) (((g0L F H).setIfInBounds (H.size + 2) (.row false F.tA F.zA)).setIfInBounds (H.size + 3) (.row false F.tI [.int .i64 0])) (.store 1 (.tmp 2) (.const (.bool false))) =
    .ok (undef,(((g0L F H).setIfInBounds (H.size + 2) (.row false F.tA F.zA)).setIfInBounds (H.size + 3) (.row false F.tI [.int .i64 0])).setIfInBounds (H.size + 4) (.row false F.tB [.bool false])):=by
   simp only [b0i,opA,ev,M,pt,a0t];simp [Y]
  have R:∀ (t:a0U) (v:Value),put t none v=t:=fun _ _=>rfl
  simp only [a0K,qB,f0h,a0Q,N1E,Q,q,r,s,R]
 ·rw [a0I _ _ _ _ (by simpa using k),M1V (by omega),a0I _ _ _ _ (by simpa using j),M1V (by omega),a0I _ _ _ _ h,M1Z rfl]
 ·rw [a0I _ _ _ _ (by simpa using k),M1V (by omega),a0I _ _ _ _ (by simpa using j),M1Z rfl]
 ·rw [a0I _ _ _ _ (by simpa using k),M1Z rfl]
theorem n0a (F:QF X.P) (ρ:Operand->Value) (w:World):(execOp ρ F.oA1).run X.P w=.ok .recover w:=by
 unfold execOp;rw [F.oA1o];rfl
theorem G0e (F:QF X.P) {cap:Array Value} (hc:cap.size=3):CallsD X.P F.fD cap .returning w fun e u w'=>(∃ v,e=.returned v)/\u = .returning/\w' = w:=by
 refine callsD_of_wpS F.hfnD F.bodyD ?_
 intro q cs r
 refine wpS_seq (wpS_region ?_)
 have hsz:(cap ++ Array.replicate (F.fnD.ntmps - cap.size) undef).size=6:=by simp [hc,F.ntD]
 rw [show List.range F.opsA.size=[0,1] by rw [F.hA];rfl]
 unfold wpOpsS
 rw [show F.opsA[0]? = some F.oA1 by rw [F.hA];rfl]
 simp only [Region.wanted,F.oA1g,N1E,n0a]
 have c:recoverD (q :: cs)=none:=by simp [recoverD,r]
 rw [c]
 simp only
 unfold wpOpsS
 rw [show F.opsA[1]? = some F.oA2 by rw [F.hA];rfl]
 simp only [Region.wanted,F.oA2g,N1E]
 generalize j:({ tmps:=cap ++ Array.replicate (F.fnD.ntmps - cap.size) undef,defers:=[] }:Act).put F.oA1.dst .nilIface=a1
 have h:a1.tmps.size=6:=by rw [<- j,F.oA1d];simp [Act.put,hsz]
 have k:a1.defers=[]:=by rw [<- j];cases F.oA1.dst <;> rfl
 have s:a1.eval (.tmp 3)=.nilIface:=by
  rw [<- j,F.oA1d]
  simp [Act.put,Act.eval,M1Y,N1l,hsz]
 rw [F.oA2f a1.eval w s rfl]
 simp only [Oper.upon]
 unfold wpOpsS
 show (Code.cond (.tmp 4) (.region F.iB F.opsB false) .skip).wpS X.P _ _ _ _
 refine wpS_cond (t:=false) ?_ ?_
 ·rw [F.oA2d];simp [Act.put,Act.eval,M1Y,N1l,h]
 ·simp only [N1g,N1G]
  refine wpS_of_wp (wp_skip ?_)
  refine ⟨by rw [c0l];exact k,q.mode,rfl,.tuple #[],?_,⟨⟨_,rfl⟩,r,rfl⟩⟩
  simp [results,F.resD]
theorem G0d (F:QF X.P) (hcall:b0x X call) (O:q0y X call) {c:Inj} {v:Value} {S:TypeId} {u:Value} (hv:v=.iface S u) {cap:Array Value} (hR:Rel X c (g0L F H) w)
  (hc:CR X c (shq w) [pt (H.size + 2),pt (H.size + 3),pt (H.size + 4)] cap.toList) :
  CallsD X.P F.fD cap (.panicking [{ v,recovered:=false }]) w fun e u' w'=>(∃ x,e=.returned x)/\u' = .panicking [{ v,recovered:=true }]/\∃ q r,b0R X H.size c (g0L F H) w q r w' /\
   r.bk (H.size + 2)=.row false F.tA F.zA/\r.bk (H.size + 3)=.row false F.tI [.int .i64 0]/\r.bk (H.size + 4)=.row false F.tB [.bool false]:=by
 refine callsD_of_wpS F.hfnD F.bodyD ?_
 intro U cs hu
 refine wpS_seq (wpS_region ?_)
 have G:cap.size=3:=by have:=hc.1;simpa using this.symm
 have hsz:(cap ++ Array.replicate (F.fnD.ntmps - cap.size) undef).size=6:=by simp [G,F.ntD]
 rw [show List.range F.opsA.size=[0,1] by rw [F.hA];rfl]
 unfold wpOpsS
 rw [show F.opsA[0]? = some F.oA1 by rw [F.hA];rfl]
 simp only [Region.wanted,F.oA1g,N1E,n0a]
 have J:recoverD (U :: cs)=some (v,{ U with mode:=.panicking ({ v,recovered:=true } :: []) } :: cs):=by simp [recoverD,hu]
 rw [J]
 simp only
 unfold wpOpsS
 rw [show F.opsA[1]? = some F.oA2 by rw [F.hA];rfl]
 simp only [Region.wanted,F.oA2g,N1E]
 have L:CR X c (shq w) ([pt (H.size + 2),pt (H.size + 3),pt (H.size + 4)] ++ un 3) (cap ++ Array.replicate (F.fnD.ntmps - cap.size) undef).toList:=by
  rw [O1G,Array.toList_replicate,G,F.ntD]
  exact hc.append (CR.cons VR.undef (CR.cons VR.undef (CR.cons VR.undef CR.nil)))
 generalize h:({ tmps:=cap ++ Array.replicate (F.fnD.ntmps - cap.size) undef,defers:=[] }:Act)=a0
 have k:a0.tmps.size=6:=by rw [<- h];exact hsz
 have N:a0.defers=[]:=by rw [<- h]
 have y:CR X c (shq w) ([pt (H.size + 2),pt (H.size + 3),pt (H.size + 4)] ++ un 3) a0.tmps.toList:=by rw [<- h];exact L
 have h3:(a0.put F.oA1.dst v).eval (.tmp 3)=.iface S u:=by
  rw [F.oA1d]
  simp [Act.put,Act.eval,M1Y,N1l,k,hv]
 rw [F.oA2t (a0.put F.oA1.dst v).eval w S u h3 rfl]
 simp only [Oper.upon]
 unfold wpOpsS
 show (Code.cond (.tmp 4) (.region F.iB F.opsB false) .skip).wpS X.P _ _ _ _
 refine wpS_cond (t:=true) ?_ ?_
 ·rw [F.oA2d,F.oA1d];simp [Act.put,Act.eval,M1Y,N1l,k]
 ·simp only [N1E]
  have z:=F.cB
  simp only [d0f,M1S,M1P,M1T,M1Q,SCode.reg.injEq] at z
  obtain ⟨l,hl,Q⟩:=z
  subst Q
  have I:F.opsB.size=(qB F.zA.length F.zA).length:=by rw [j0T hl];simp
  obtain ⟨t',r,Y,g2,g3,g4⟩:=M1I (call:=call) (H:=H) F (t:=put ([pt (H.size + 2),pt (H.size + 3),pt (H.size + 4)] ++ un 3) (some 4) (.bool true)) (by simp [put,un]) (by simp [put,get,un,List.replicate]) (by simp [put,get,un,List.replicate]) (by simp [put,get,un,List.replicate])
  simp only [a0K] at Y
  refine wpS_of_wp (wp_region ?_)
  rw [List.range_eq_range',I]
  have M:CR X c (shq w) (put ([pt (H.size + 2),pt (H.size + 3),pt (H.size + 4)] ++ un 3) (some 4) (.bool true)) (a0.put (some 4) (.bool true)).tmps.toList:=j0B y (.bool true) (some 4)
  refine r0Z hcall (j:=3) F.blB (qB F.zA.length F.zA) 0 _ (g0L F H) c w (a0.put (some 4) (.bool true)) _ (fun i s hi=>?_) hR M (by rw [m0l];omega) ?_ ?_ Y ?_
  ·refine ⟨?_,?_⟩
   ·unfold qB at hi
    match i,hi with
    | 0,hi=>simp at hi;rw [<- hi]
    | 1,hi=>simp at hi;rw [<- hi]
    | 2,hi=>simp at hi;rw [<- hi]
    | 3,hi=>simp at hi;rw [<- hi]
    | i + 4,hi=>simp at hi
   ·obtain ⟨x,h1,h2⟩:=l0M hl i s hi
    exact ⟨x,by simpa using h1,h2⟩
  ·intro i hi
   rw [F.oA2d,F.oA1d]
   simp only [Act.put,M1Y,N1l]
   by_cases Z:4=i
   ·subst Z;simp [k]
   ·simp [Z,show ¬ 3=i by omega]
  ·rw [F.oA2d,F.oA1d];simp [Act.put]
  ·intro q b' w' R hd
   refine ⟨?_,.panicking [{ v,recovered:=true }],rfl,.tuple #[],?_,⟨_,rfl⟩,rfl,q,r,R,g2,g3,g4⟩
   ·rw [hd,c0l,c0l];exact N
   ·simp [results,F.resD]
end
section
variable {X:Cx} {call:Nat->FuncId->List Value->a0c->Res (Value × a0c)} {φ:Inj} {H H':a0c} {w:World} {fl:Nat}
theorem E0G (F:QF X.P) {t:a0U} {G:a0c} {m:Nat} {a:List Value} {k:IntKind} {n:Int} {b:Bool} (L:u1E t m) (q:a.length=F.zA.length)
  (b2:G.bk (m + 2)=.row false F.tA a) (h:G.bk (m + 3)=.row false F.tI [.int k n]) (j:G.bk (m + 4)=.row false F.tB [.bool b]) :
  c0N G t [.cell 4 true F.zA.length,.cell 5 false 1,.cell 6 false 1]=some [.agg a.toArray,.int k n,.bool b]:=by
 have r:=F.nz
 have c:=S0w b2 (by omega)
 rw [q] at c
 simp only [c0N,q0j,L.a,L.i,L.b,c,z0j h,z0j j]
theorem n0b (F:QF X.P) {t:a0U} {G:a0c} {c:Inj} {k:World} {a:Act} {vs:List Value} (hR:Rel X c G k) (hT:CR X c (shq k) t a.tmps.toList)
  (s:c0N G t [.cell 4 true F.zA.length,.cell 5 false 1,.cell 6 false 1]=some vs):∃ v',(results F.fn a.tmps).run X.P k=.ok v' k/\VR X c (shq k) (b0K vs) v':=by
 obtain ⟨u,q,j⟩:=E0H F.res s hR hT
 refine ⟨_,?_,v0x q⟩
 have r:results F.fn a.tmps=(do let vs <- F.fn.results.mapM (m0X a.tmps);pure (if h:vs.size=1 then vs[0] else .tuple vs)):=rfl
 rw [r,O1Y]
 simp only [Sem.run_bind,Sem.run_map,j]
 rfl
theorem L1J {S:Shp} {a b c v:Value} (h:VR X φ S (.tuple #[a,b,c]) v):∃ j k c',v=.tuple #[j,k,c']/\VR X φ S a j/\VR X φ S b k/\VR X φ S c c':=by
 cases h with
 | tuple _ m h1 h2 =>
  have h:CR X φ S [a,b,c] m.toList:=VR.tuple_iff.1 (.tuple _ m h1 h2)
  obtain ⟨j,r,q,s,h⟩:=h.cons_left
  obtain ⟨k,r,rfl,u,h⟩:=h.cons_left
  obtain ⟨c',r,rfl,w,h⟩:=h.cons_left
  obtain rfl:=h.nil_left
  exact ⟨j,k,c',by rw [show m = #[j,k,c'] from O1K.1 q],s,u,w⟩
theorem F0q {S:Shp} {a b c h j c':Value} (k:VR X φ S a h) (q:VR X φ S b j) (r:VR X φ S c c'):VR X φ S (.tuple #[a,b,c]) (.tuple #[h,j,c']) :=
 VR.tuple_iff.2 (CR.cons k (CR.cons q (CR.cons r CR.nil)))
theorem z0e {φ':Inj} {S S':Shp} {k:IntKind} {n:Int} {u:Value} (h:VR X φ S (.int k n) u):VR X φ' S' (.int k n) u:=by cases h;exact .int _ _
theorem v0e {φ':Inj} {S S':Shp} {b:Bool} {u:Value} (h:VR X φ S (.bool b) u):VR X φ' S' (.bool b) u:=by cases h;exact .bool _
theorem o0r (F:QF X.P) (hcall:b0x X call) (hdraw:q0y X call) (hnp:F.nL ≠ 0) (hns:F.nS ≠ 0) :
  b0x X fun fl f args H=>if f=F.fQ then match args with | [.agg p,.agg s]=>(if p.size=F.nL/\s.size=F.nS then d0I F.zA H (call (max fl H.size) F.fS [.agg #[],.agg p,.agg s] H) else .bad) | _=>.bad else .bad:=by
 intro fl f args H φ w args' hR hA hfl
 refine And.intro ?_ ?_
 case refine_2 =>
  intro v he
  exfalso
  simp only at he
  split at he
  ·split at he
   ·split at he
    ·unfold d0I at he
     split at he
     ·cases he
     ·cases he
     ·cases he
     ·split at he
      ·split at he <;> cases he
      ·cases he
     ·cases he
    ·cases he
   ·cases he
  ·cases he
 intro v H' he
 simp only at he
 split at he
 case isFalse=>cases he
 rename_i hf
 subst hf
 split at he
 case h_2=>cases he
 rename_i p s
 split at he
 case isFalse=>cases he
 rename_i hsz
 rw [show max fl H.size=H.size by omega] at he
 obtain ⟨u0,r,hl0,hp0,hA1⟩:=hA.cons_left
 obtain ⟨u1,r,rfl,hs0,hA2⟩:=hA1.cons_left
 obtain rfl:=hA2.nil_left
 have has:args'.size=2:=by have:=congrArg List.length hl0;simpa using this
 refine ⟨F.hrun,calls_of_wp_defers F.hfn F.body ?_⟩
 -- region 0
 generalize ha0:({ tmps:=args' ++ Array.replicate (F.fn.ntmps - args'.size) undef,defers:=[] }:Act)=a0
 have hd0:a0.defers=[]:=by rw [<- ha0]
 have hT0:CR X φ (shq w) ([.agg p,.agg s] ++ un 15) a0.tmps.toList:=by
  rw [<- ha0,has,F.nt,O1G,Array.toList_replicate]
  refine hA.append ?_
  show CR X φ (shq w) (un 15) (List.replicate 15 undef)
  unfold un
  generalize 15=m
  induction m with
  | zero=>exact CR.nil
  | succ m ih=>exact CR.cons VR.undef ih
 refine wp_seq (wp_mono (d0h hcall hdraw 1 _ _ H.size _ H φ w a0 F.c0 hR hT0 (M1U _) hd0 (by rw [C1b];simp)).wp ?_)
 intro e a1 w1 hp
 rw [C1b F p s] at hp
 obtain ⟨rfl,hd1,φ1,hT1,hst1⟩:=hp
 -- region 1
 show (Code.seq _ _).wp _ _ a1 w1
 refine wp_seq (wp_region ?_)
 rw [show List.range F.ops1.size=List.range' 0 (q1 F.fD).length ++ [1] by rw [F.h1];rfl]
 refine q0h hcall (fl:=H.size) (q1 F.fD) 0 _ (hp5 F p s H) φ1 w1 a1 (fun i s hi=>?_) hst1.rel hT1 (by rw [v0m];omega) (M1E p s) ?_
 ·unfold q1 at hi
  match i,hi with
  | 0,hi=>simp at hi;subst hi;exact ⟨F.o1,by rw [F.h1];rfl,F.o1c⟩
  | i + 1,hi=>simp at hi
 intro φ2 a2 w2 hT2 hst2 hd2
 have hst02:=hst1.trans hst2 (M1U _) hR
 unfold wpOps
 rw [show F.ops1[1]? = some F.o2 by rw [F.h1];rfl]
 simp only [Region.wanted,F.o2g,N1E]
 refine .inl ?_
 have h7:=hT2.get 7
 rw [show (tm7 F.fD p s H.size).getD 7 undef=.func (.func F.fD) #[] #[pt (H.size + 2),pt (H.size + 3),pt (H.size + 4)] from rfl,<- a0E] at h7
 generalize hu7:a2.tmps.getD 7 undef=u7 at h7
 cases h7 with
 | func _ _ _ a' cap g1 g2 g3 g4 =>
 have ha':a' = #[]:=by simpa using g1.symm
 subst ha'
 have hdef:(execOp a2.eval F.o2).run X.P w2=.ok (.defer { target:=.fn (.func F.fD) cap,args:=#[] }) w2:=by
  have:a2.eval (.tmp 7)=.func (.func F.fD) #[] cap:=hu7
  simp [execOp,F.o2o,resolve,Deferred.ofValue,this]
 unfold Oper.wp
 rw [hdef,Oper.upon_defer,F.o2d]
 unfold wpOps
 have hcap:cap.size=3:=by have:=g3;simpa using this.symm
 -- region 2
 generalize hD:([{ target:=.fn (.func F.fD) cap,args:=#[] }]:List Deferred)=D
 generalize ha3:({ a2 with defers:={ target:=.fn (.func F.fD) cap,args:=#[] } :: a2.defers }:Act).put none undef=a3
 have hd3:a3.defers=D:=by rw [<- ha3,<- hD];show _ :: a2.defers=_;rw [hd2,hd1]
 have ht3:a3.tmps=a2.tmps:=by rw [<- ha3];rfl
 show (Code.seq _ _).wp _ _ a3 w2
 refine wp_seq (wp_region ?_)
 have hc2:=F.c2
 simp only [d0f,M1S,M1P,M1T,M1Q,SCode.reg.injEq] at hc2
 obtain ⟨l2,hl2,hlq⟩:=hc2
 subst hlq
 have hlen2:F.ops2.size=9:=by have:=j0T hl2;simp [q2a,q2b] at this;omega
 rw [show List.range F.ops2.size=List.range' 0 (q2a F.nL F.nS).length ++ (3 :: List.range' 4 (q2b F.zA.length).length) by rw [hlen2];rfl]
 have hget2:=l0M hl2
 refine q0h hcall (fl:=H.size) (q2a F.nL F.nS) 0 _ (hp5 F p s H) φ2 w2 a3 (fun i s hi=>?_) hst2.rel (by rw [ht3];exact hT2) (by rw [v0m];omega) (M1F F hsz.1 hsz.2 hnp hns) ?_
 ·obtain ⟨x,h1,h2⟩:=hget2 i s (by
   have hlt:i < (q2a F.nL F.nS).length:=(N1b.1 hi).1
   rw [O1C hlt];exact hi)
  exact ⟨x,by simpa using h1,h2⟩
 intro φ3 a4 w3 hT3 hst3 hd4
 have hst03:=hst02.trans hst3 (M1U _) hR
 have hR3:Rel X φ H w3:=hst03.rel0 hR
 have hd4':a4.defers=D:=hd4.trans hd3
 -- where the own blocks lie
 have hown:∀ k,k < 5->∃ x,φ3 (H.size + k)=some x/\(X.base<=x.1->∃ e n,shq w3 x.1=some (some e,n)):=by
  intro k hk
  have h:=hT3.get (k + 2)
  have e:(s0k F.fD p s H.size).getD (k + 2) undef=pt (H.size + k):=by
   match k,hk with
   | 0,_=>rfl
   | 1,_=>rfl
   | 2,_=>rfl
   | 3,_=>rfl
   | 4,_=>rfl
  rw [e] at h
  unfold pt at h
  generalize a4.tmps.toList.getD (k + 2) undef=u at h
  cases h with
  | ptr _ _ B o h1 h2 h3 h4=>exact ⟨_,h2,h4⟩
 obtain ⟨B,o,hφ⟩:∃ B o:Nat->Nat,∀ k,k < 5->φ3 (H.size + k)=some (B k,o k) :=
  ⟨fun k=>((φ3 (H.size + k)).getD (0,0)).1,fun k=>((φ3 (H.size + k)).getD (0,0)).2,fun k hk=>by obtain ⟨x,hx,_⟩:=hown k hk;simp [hx]⟩
 have hsh:∀ k,k < 5->X.base<=B k->∃ e n,shq w3 (B k)=some (some e,n):=fun k hk hb=>by
  obtain ⟨x,h1,h2⟩:=hown k hk
  rw [hφ k hk] at h1;cases h1
  exact h2 hb
 have O:=w1r F hR hst03 hφ hsh
 have hφ2:∀ k,k < 5->φ2 (H.size + k)=some (B k,o k):=by
  intro k hk
  have h:=hT2.get (k + 2)
  have e:(tm7 F.fD p s H.size).getD (k + 2) undef=pt (H.size + k):=by
   match k,hk with
   | 0,_=>rfl
   | 1,_=>rfl
   | 2,_=>rfl
   | 3,_=>rfl
   | 4,_=>rfl
  rw [e] at h
  unfold pt at h
  generalize a2.tmps.toList.getD (k + 2) undef=u at h
  cases h with
  | ptr _ _ B' o' h1 h2 h3 h4=>rw [h2,<- hst3.ext _ _ h2,hφ k hk]
 have hcapG:∀ (φ':Inj) (S:Shp) (m:Nat),(∀ k,k < 5->φ' (m + k)=some (B k,o k))->(∀ b x,shq w2 b=some x->S b=some x)->CR X φ' S [pt (m + 2),pt (m + 3),pt (m + 4)] cap.toList:=by
  intro φ' S m h hS
  refine ⟨by simp [hcap],fun i hi=>?_⟩
  rw [<- a0E]
  have hi3:i < 3:=by simpa using hi
  match i,hi3 with
  | 0,_=>exact i0n hS (hφ2 2 (by omega)) (h 2 (by omega)) (by simpa using g4 0 (by simp))
  | 1,_=>exact i0n hS (hφ2 3 (by omega)) (h 3 (by omega)) (by simpa using g4 1 (by simp))
  | 2,_=>exact i0n hS (hφ2 4 (by omega)) (h 4 (by omega)) (by simpa using g4 2 (by simp))
 -- the call
 unfold wpOps
 rw [F.o3i]
 simp only [Region.wanted,F.o3g,N1E]
 refine .inl ?_
 have h9:=hT3.get 9
 have h10:=hT3.get 10
 have h11:=hT3.get 11
 rw [show (s0k F.fD p s H.size).getD 9 undef=.agg #[] from rfl,<- a0E] at h9
 rw [show (s0k F.fD p s H.size).getD 10 undef=.agg p from rfl,<- a0E] at h10
 rw [show (s0k F.fD p s H.size).getD 11 undef=.agg s from rfl,<- a0E] at h11
 have hargs:CR X φ (shq w3) [.agg #[],.agg p,.agg s] (#[a4.tmps.getD 9 undef,a4.tmps.getD 10 undef,a4.tmps.getD 11 undef]:Array Value).toList:=by
  refine CR.cons ?_ (CR.cons (VR.back hR hst03 hp0 h10) (CR.cons (VR.back hR hst03 hs0 h11) CR.nil))
  generalize a4.tmps.getD 9 undef=u at h9
  cases h9 with
  | agg _ a' g1 g2=>exact .agg _ _ g1 (fun i hi=>by simp at hi)
 have hcl:=hcall H.size F.fS [.agg #[],.agg p,.agg s] H φ w3 #[a4.tmps.getD 9 undef,a4.tmps.getD 10 undef,a4.tmps.getD 11 undef] hR3 hargs (M1U _)
 have hex:(execOp a4.eval F.o3).run X.P w3=(callFunc F.fS #[a4.tmps.getD 9 undef,a4.tmps.getD 10 undef,a4.tmps.getD 11 undef]).run X.P w3:=by
  unfold execOp
  rw [F.o3o]
  simp [resolve,Deferred.ofValue,invoke,Act.eval]
 unfold Oper.wp
 rw [hex]
 cases hcr:call H.size F.fS [.agg #[],.agg p,.agg s] H with
 | bad=>rw [hcr] at he;simp [d0I] at he
 | pan v0 =>
  rw [hcr] at he
  obtain ⟨⟨ty,u,rfl⟩,hruns,hcalls⟩:=hcl.2 v0 hcr
  simp only [d0I,Res.ok.injEq,N1V] at he
  obtain ⟨rfl,rfl⟩:=he
  rw [c0W hruns]
  refine Calls.mono hcalls ?_
  rintro e w4 ⟨⟨ty',u',rfl⟩,hpan⟩
  have hst4:=H0E hR3 hpan
  have hold:∀ k,k < 5->w4.heap[B k]? = w3.heap[B k]?:=fun k hk=>hst4.old hR3 (O.hi k hk)
  have r5:=r0z F O hst4.rel hold (z0J F hR O hR3 hst4)
  have sl:=n0k (B:=B) (o:=o) (m:=H.size) (S2:=(shq w4)) hR hst03 hp0 hs0 hφ (fun k hk=>p0D (φ:=φ) k hk) (fun b x hb=>by rw [t0w (hR.lt b x hb)];exact hb) hst4.shp hT3
  show Leaves X.P F.fn a4.tmps _ a4.defers _ w4
  rw [hd4',<- hD]
  have hcapR:CR X (A0d φ H.size B o) (shq w4) [pt (H.size + 2),pt (H.size + 3),pt (H.size + 4)] cap.toList:=by
   exact hcapG _ _ _ (fun k hk=>p0D k hk) (fun b x hb=>hst4.shp _ _ (hst3.shp _ _ hb))
  refine leaves_cons (by simp) (by simp only [invoke];rw [c0W F.runD];simp) (CallsD.mono (G0d F hcall hdraw rfl r5 hcapR) ?_)
  rintro e u'' w5 ⟨⟨x,rfl⟩,rfl,φ5,G',hst5,b2,b3,b4⟩
  show Leaves X.P F.fn a4.tmps _ [] (settle (.panicking [{ v:=.iface ty' u',recovered:=true }])) w5
  have L:u1E (s0k F.fD p s H.size) H.size:=⟨rfl,rfl,rfl,rfl⟩
  obtain ⟨v',hrun,hvr⟩:=n0b F hst5.rel (sl.mo hst5.ext hst5.shp) (E0G F L rfl b2 b3 b4)
  refine ⟨v',hrun,v',φ,rfl,?_,v0i F hR hfl hst03 O hst4 hst5⟩
  have e1:b0K [.agg F.zA.toArray,.int .i64 0,.bool false]=.tuple #[.agg F.zA.toArray,.int .i64 0,.bool false]:=rfl
  rw [e1] at hvr
  obtain ⟨x1,x2,x3,rfl,k1,k2,k3⟩:=L1J hvr
  refine F0q ?_ (z0e k2) (v0e k3)
  cases k1 with
  | agg _ m h1 h2 =>
   refine VR.agg_iff.2 (r0h F.zf (VR.agg_iff.1 (.agg _ m h1 h2)))
 | ok r0 =>
  obtain ⟨v0,H0⟩:=r0
  rw [hcr] at he
  obtain ⟨hruns,hcalls⟩:=hcl.1 v0 H0 hcr
  obtain ⟨a,k,n,rfl,rfl,rfl,hasz,hapl⟩:∃ a k n,v0=.tuple #[.agg a,.int k n]/\v=.tuple #[.agg a,.int k n,.bool true]/\H' = H0/\a.size=F.zA.length/\a.toList.all a0n=true:=by
   cases v0 <;> simp only [d0I] at he <;> try cases he
   rename_i vs
   split at he
   ·rename_i a k n heq
    split at he
    ·rename_i hc
     simp only [Res.ok.injEq,N1V] at he
     obtain ⟨rfl,rfl⟩:=he
     exact ⟨a,k,n,by rw [show vs = #[.agg a,.int k n] from O1K.1 heq],rfl,rfl,hc.1,hc.2⟩
    ·cases he
   ·cases he
  rw [c0W hruns]
  refine Calls.mono hcalls ?_
  rintro e w4 ⟨v0',φ',rfl,hv0,hst4⟩
  have hold:∀ k,k < 5->w4.heap[B k]? = w3.heap[B k]?:=fun k hk=>hst4.old hR3 (O.hi k hk)
  have r5:=r0z F O hst4.rel hold (z0J F hR O hR3 hst4)
  have hext5:∀ b x,φ' b=some x->A0d φ' H'.size B o b=some x:=fun b x hb=>by rw [t0w (hst4.rel.lt b x hb)];exact hb
  have sl:=n0k (B:=B) (o:=o) (m:=H'.size) (S2:=(shq w4)) hR hst03 hp0 hs0 hφ (fun k hk=>p0D (φ:=φ') k hk) (fun b x hb=>hext5 b x (hst4.ext b x hb)) hst4.shp hT3
  have sl2:=j0B sl (hv0.mo hext5 (fun _ _ h=>h)) F.o3.dst
  obtain ⟨t4,G4,e4,L4,hG4,b2,b3,b4⟩:=M1H (call:=call) (H':=H') F (p:=p) (s:=s) (k:=k) (n:=n) hasz hapl
  have hd5:(a4.put F.o3.dst v0').defers=D:=by rw [c0l];exact hd4'
  have hops4:∀ i s',(q2b F.zA.length)[i]? = some s'->∃ o,F.ops2[4 + i]? = some o/\g0V X.P F.ops2 true o=some s':=fun i s' hi=>by
   obtain ⟨x,h1,h2⟩:=hget2 (4 + i) s' (by
    rw [show 4 + i=(q2a F.nL F.nS).length + (i + 1) by simp [q2a];omega,O1w (by omega)]
    simpa using hi)
   exact ⟨x,by simpa using h1,h2⟩
  show wpOps X.P F.ops2 _ (List.range' 4 (q2b F.zA.length).length) (a4.put F.o3.dst v0') w4
  refine c0F ?_ (q0i hcall (fl:=H'.size) (D:=D) (q2b F.zA.length) 4 _ (g0L F H') (A0d φ' H'.size B o) w4 (a4.put F.o3.dst v0') hops4 r5 (by rw [F.o3d] at sl2 ⊢;exact sl2) (by rw [m0l];omega) hd5 (by rw [e4];simp))
  rintro e a6 w5 hp
  rw [e4] at hp
  obtain ⟨rfl,hd6,φ5,hT6,hst5⟩:=hp
  show (Code.seq _ _).wp _ _ a6 w5
  obtain ⟨t5,G5,e5,L5,c2,c3,c4⟩:=M1G (call:=call) (bef:=F.bef) F L4 (by simp [hasz]) hapl b2 b3 b4
  refine wp_seq (wp_mono (d0h hcall hdraw 1 _ _ H'.size _ G4 φ5 w5 a6 F.c3 hst5.rel hT6 (by omega) hd6 (by rw [e5];simp)).wp ?_)
  rintro e a7 w6 hp
  rw [e5] at hp
  obtain ⟨rfl,hd7,φ6,hT7,hst6⟩:=hp
  show (Code.ret).wp _ _ a7 w6
  refine wp_ret ?_
  show Leaves X.P F.fn a7.tmps _ a7.defers .returning w6
  rw [hd7,<- hD]
  refine leaves_cons (by simp) (by simp only [invoke];rw [c0W F.runD];simp) (CallsD.mono (G0e F hcap) ?_)
  rintro e u'' w7 ⟨⟨x,rfl⟩,rfl,rfl⟩
  show Leaves X.P F.fn a7.tmps _ [] .returning w7
  have hst56:=hst5.trans hst6 (M1U _) r5
  obtain ⟨v',hrun,hvr⟩:=n0b F hst6.rel hT7 (E0G F L5 (by simp [hasz]) c2 c3 c4)
  refine ⟨v',hrun,v',φ',rfl,?_,v0i F hR hfl hst03 O hst4 hst56⟩
  have e1:b0K [.agg a.toList.toArray,.int k n,.bool true]=.tuple #[.agg a,.int k n,.bool true]:=by simp [b0K]
  rw [e1] at hvr
  obtain ⟨x1,x2,x3,rfl,k1,k2,k3⟩:=L1J hvr
  refine F0q ?_ (z0e k2) (v0e k3)
  -- the answer's own cells lead where they led
  obtain ⟨y,hy⟩:∃ y,VR X φ' (shq w4) (.agg a) y:=by
   cases hv0 with
   | tuple _ m h1 h2 =>
    have h:=h2 0 (by simp)
    exact ⟨_,by simpa using h⟩
  have ky:=VR.back r5 hst56 (hy.mo hext5 (fun _ _ h=>h)) k1
  refine (VR.cut (m:=H'.size) (fun b y hb=>hst4.rel.lt b y hb) hy ky).mo (fun b x hx=>?_) (fun _ _ h=>h)
  obtain ⟨g1,g2⟩:=a0X.1 hx
  rw [t0w g1] at g2;exact g2
end
section
def E0D:Code->Array Oper | .region _ ops _=>ops | _=>#[]
def H1N:Code->Code | .cond _ a _=>a | _=>.skip
def G1w:Nat->Code->Code
 | 0,.seq a _=>a
 | k + 1,.seq _ b=>G1w k b
 | _,c=>c
def V0s (f:Func):Code:=f.body.getD .skip
def V0A:Option SCode->List Nat | some (.draw _ b _)=>b | _=>[]
def opT (o:Oper):TypeId:=match o.op with | .binOp _ t _ _ _=>t | _=>0
def H1J (o:Oper):Array TypeId:=match o.op with | .call c=>c.argTypes | _=>#[]
def v1R:Option TypeDesc->Array (String × TypeId) | some (.interface x)=>x | _=>#[]
theorem w0L {P:Program} {t:TypeId} {ifs:Array (String × TypeId)} (c:P.underlying t=some (.interface ifs)) (w:World):(Op.equal t .nilIface .nilIface).run P w=.ok true w:=by
 unfold Op.equal Op.maxDepth;rw [Op.equalIn];simp only [Sem.run_bind,run_underlying c,Result.andThen_ok];rfl
theorem s0G {P:Program} {t:TypeId} {ifs:Array (String × TypeId)} (c:P.underlying t=some (.interface ifs)) (h:TypeId) (u:Value) (w:World):(Op.equal t (.iface h u) .nilIface).run P w=.ok false w:=by
 unfold Op.equal Op.maxDepth;rw [Op.equalIn];simp only [Sem.run_bind,run_underlying c,Result.andThen_ok];rfl
theorem X0l {P:Program} {o:Oper} {t t':TypeId} {ifs:Array (String × TypeId)} (ho:o.op=.binOp .neq t (.tmp 3) (.const .nilIface) t') (j:P.underlying t=some (.interface ifs)) (ρ:Operand->Value) (w:World)
  (h:ρ (.tmp 3)=.nilIface) (c:ρ (.const .nilIface)=.nilIface):(execOp ρ o).run P w=.ok (.value (.bool false)) w:=by
 simp [execOp,ho,h,c,eqGuard,binOp,w0L j]
theorem H0t {P:Program} {o:Oper} {t t':TypeId} {ifs:Array (String × TypeId)} (ho:o.op=.binOp .neq t (.tmp 3) (.const .nilIface) t') (j:P.underlying t=some (.interface ifs)) (ρ:Operand->Value) (w:World) (k:TypeId) (u:Value)
  (h:ρ (.tmp 3)=.iface k u) (c:ρ (.const .nilIface)=.nilIface):(execOp ρ o).run P w=.ok (.value (.bool true)) w:=by
 simp [execOp,ho,h,c,eqGuard,binOp,s0G j]
inductive Eff where
 | same
 | push (b:Blk)
 | set (k:Nat) (b:Blk)
 | mv (k:Nat) (b:Blk)
def Eff.app (H:a0c):Eff->a0c
 | .same=>H
 | .push b=>H.push b
 | .set k b=>H.setIfInBounds k b
 | .mv k b=>(H.setIfInBounds k .dead).push b
inductive OpResE where
 | bad
 | val (v:Value) (e:Eff)
 | pan (v:Value)
 | call (f:FuncId) (args:List Value) (lone:Bool)
def OpResE.on (H:a0c):OpResE->OpRes
 | .bad=>.bad
 | .val v e=>.val v (e.app H)
 | .pan v=>.pan v
 | .call f args lone=>.call f args lone
def evG (g:Nat->Value):Opd->Value
 | .tmp i=>g i
 | .const v=>v
 | .fn f=>.func (.func f) #[] #[]
theorem s0H (t:a0U):evG (get t)=ev t:=by funext x;cases x <;> rfl
def l0j (g:Nat->Value) (ps:List (Nat × Nat × Opd)):List (Nat × Nat × Value):=ps.map fun p=>(p.1,p.2.1,evG g p.2.2)
section
variable (bk:Nat->Blk) (size:Nat)
def d0p (b off n:Nat):Option (List Value) :=
 match bk b with
 | .row _ _ cs=>if off + n<=cs.length then some ((cs.drop off).take n) else none
 | .dead=>none
def s0n (fl b off:Nat) (vs:List Value):Option Eff :=
 match bk b with
 | .row false e cs=>if fl<=b/\off + vs.length<=cs.length/\vs.all a0n=true then some (.set b (.row false e (b0e cs off vs))) else none
 | _=>none
def G0k (e:TypeId):Value->Bool
 | .slice (some p) _ cap=>if cap=0 then true else match bk p.block with | .row true _ _=>true | .row false e' _=>e' == e | .dead=>false
 | _=>true
def r0p (agg:Bool) (n:Nat) (a:Value):Option Value :=
 match a with
 | .pointer (some p) =>
  if agg=true/\n=0 then some (.agg #[]) else
  if p.spot.isSome=true then none else
  match d0p bk p.block p.off (if agg then n else 1) with
  | some cs=>if agg then some (.agg cs.toArray) else cs.head?
  | none=>none
 | _=>none
def F0S (fl:Nat) (elem:TypeId) (sz:Nat) (base:Option Addr) (len cap n:Nat) (new:List Value):Option (Value × Eff) :=
 if new.all a0n=false then none else
 match base with
 | none=>if len=0/\cap=0 then some (.slice (some ⟨size,0,none⟩) n unk,.push (.row false elem new)) else none
 | some sp =>
  if len=0/\cap=0 then some (.slice (some ⟨size,0,none⟩) n unk,.push (.row false elem new)) else
  match d0p bk sp.block sp.off (len * sz) with
  | none=>none
  | some old =>
   if cap ≠ unk/\cap < len + n then some (.slice (some ⟨size,0,none⟩) (len + n) unk,.push (.row false elem (old ++ new)))
   else
    match bk sp.block with
    | .row false e _ =>
     if e=elem/\fl<=sp.block then some (.slice (some ⟨size,0,none⟩) (len + n) unk,.mv sp.block (.row false elem (old ++ new)))
     else none
    | _=>none
def u1b (fl:Nat) (elem:TypeId) (sz bytes:Nat) (s x:Value):Option (Value × Eff) :=
 match s,x with
 | .slice base len cap,.slice xb n _ =>
  if n=0 then some (.slice base len cap,.same) else
  if len + n<=1073741824/\bytes<=1024/\0 < sz then
   match xb with
   | none=>none
   | some xp =>
    match d0p bk xp.block xp.off (n * sz) with
    | none=>none
    | some new =>
     if new.all a0n=false then none else
     match base with
     | none=>if len=0/\cap=0 then some (.slice (some ⟨size,0,none⟩) n unk,.push (.row false elem new)) else none
     | some sp =>
      if len=0/\cap=0 then some (.slice (some ⟨size,0,none⟩) n unk,.push (.row false elem new)) else
      match d0p bk sp.block sp.off (len * sz) with
      | none=>none
      | some old =>
       if cap ≠ unk/\cap < len + n then some (.slice (some ⟨size,0,none⟩) (len + n) unk,.push (.row false elem (old ++ new)))
       else
        match bk sp.block with
        | .row false e _ =>
         if e=elem/\fl<=sp.block then some (.slice (some ⟨size,0,none⟩) (len + n) unk,.mv sp.block (.row false elem (old ++ new)))
         else none
        | _=>none
  else none
 | .slice base len cap,.string b =>
  if b.data.toList.length=0 then some (.slice base len cap,.same) else
  if len + b.data.toList.length<=1073741824/\bytes<=1024/\sz=1 then F0S bk size fl elem sz base len cap b.data.toList.length (i0w b.data.toList)
  else none
 | _,_=>none
def H0r (z:Value):Value->Value->Option Value
 | .map (some b),.int k n=>match bk b with | .row _ _ cs=>m0v z k n cs | _=>none
 | _,_=>none
def z0A (fl:Nat) (m i x:Value):Option Eff :=
 match m,i with
 | .map (some b),.int k n =>
  match bk b with
  | .row false e cs=>if fl<=b/\a0n x=true then (S0H k n x cs).map fun cs'=>.set b (.row false e cs') else none
  | _=>none
 | _,_=>none
def F1G:Value->Option Value
 | .slice none 0 0=>some (.string ⟨#[]⟩)
 | .slice (some p) n _=>match d0p bk p.block p.off n with | some cs=>(bytesOf cs).map fun l=>.string ⟨l.toArray⟩ | none=>none
 | _=>none
def g0k:Option Value->OpResE
 | some v=>.val v .same
 | none=>.bad
def X0n:Option (Value × Eff)->OpResE
 | some (v,e)=>.val v e
 | none=>.bad
def opE (fl:Nat) (g:Nat->Value):SOp->OpResE
 | .mv x=>.val (evG g x) .same
 | .pick c a b=>match evG g c with | .bool true=>.val (evG g a) .same | .bool false=>.val (evG g b) .same | _=>.bad
 | .alloc e z=>.val (.pointer (some ⟨size,0,none⟩)) (.push (.row false e z))
 | .box e x=>.val (.pointer (some ⟨size,0,none⟩)) (.push (.row false e (a0t (evG g x))))
 | .build z ps=>g0k ((d0M z (l0j g ps)).map fun cs=>.agg cs.toArray)
 | .lit e z n ps =>
  match d0M (e0W z n) (l0j g ps) with
  | some cs=>.val (.slice (some ⟨size,0,none⟩) n n) (.push (.row false e cs))
  | none=>.bad
 | .load agg n a=>g0k (r0p bk agg n (evG g a))
 | .store n a x =>
  match evG g a with
  | .pointer (some p) =>
   if p.spot.isSome=true ∨ (a0t (evG g x)).length ≠ n then .bad else
   match s0n bk fl p.block p.off (a0t (evG g x)) with
   | some e=>.val undef e
   | none=>.bad
  | _=>.bad
 | .chk x =>
  match evG g x with
  | .pointer (some a)=>.val (.pointer (some a)) .same
  | .func (.func f) a b=>.val (.func (.func f) a b) .same
  | .iface a b=>.val (.iface a b) .same
  | _=>.bad
 | .bin tag b x y=>g0k (c0k tag b (evG g x) (evG g y))
 | .un u x=>g0k (unA u (evG g x))
 | .conv k x=>match evG g x with | .int _ n=>.val (.int k (k.wrap n)) .same | _=>.bad
 | .iface ty x=>.val (.iface ty (evG g x)) .same
 | .mkfn f a b=>.val (.func f (a.map (evG g)).toArray (b.map (evG g)).toArray) .same
 | .mk e bytes z len cap =>
  match evG g len,evG g cap with
  | .int _ l,.int _ c =>
   if 0<=l/\l<=c/\c<=1073741824/\bytes<=1024 then .val (.slice (some ⟨size,0,none⟩) l.toNat c.toNat) (.push (.row false e (e0W z l.toNat))) else .bad
  | _,_=>.bad
 | .sl e sz x lo hi mx=>if G0k bk e (evG g x)=false then .bad else g0k (d0s sz (evG g x) (lo.map (evG g)) (hi.map (evG g)) (mx.map (evG g)))
 | .fa off a=>match evG g a with | .pointer (some p)=>if p.spot.isSome=true then .bad else .val (.pointer (some ⟨p.block,p.off + off,none⟩)) .same | _=>.bad
 | .fa0 e a =>
  match evG g a with
  | .pointer (some p) =>
   match bk p.block with
   | .row false e' _=>if p.spot.isSome=false/\e' = e/\p.off=0 then .val (.pointer (some ⟨p.block,0,none⟩)) .same else .bad
   | _=>.bad
  | _=>.bad
 | .fld agg off n x=>g0k (S0r agg off n (evG g x))
 | .ia sz x i =>
  match evG g x,evG g i with
  | .slice (some p) n _,.int _ j=>if 0<=j/\j < n then .val (.pointer (some ⟨p.block,p.off + j.toNat * sz,none⟩)) .same else .bad
  | _,_=>.bad
 | .ext x i=>match evG g x with | .tuple vs=>g0k vs[i]? | _=>.bad
 | .call f args lone=>.call f (args.map (evG g)) lone
 | .callv x args lone=>match evG g x with | .func (.func f) first captured=>.call f (first.toList ++ args.map (evG g) ++ captured.toList) lone | _=>.bad
 | .inv x tbl args lone =>
  match evG g x with
  | .iface ty v=>match tbl.lookup ty with | some f=>.call f (v :: args.map (evG g)) lone | none=>.bad
  | _=>.bad
 | .len x=>match evG g x with | .slice _ n _=>.val (.int .i64 n) .same | _=>.bad
 | .cap x=>g0k (V0v (evG g x))
 | .mnx big x ys=>g0k (v0t big (evG g x) (ys.map (evG g)))
 | .app e sz bytes s x=>X0n (u1b bk size fl e sz bytes (evG g s) (evG g x))
 | .appz e bytes z s x=>match t0a bytes (evG g s) (evG g x) with | some n=>.val (.slice (some ⟨size,0,none⟩) n unk) (.push (.row false e (e0W z n))) | none=>.bad
 | .pan x=>match evG g x with | .iface a b=>.pan (.iface a b) | _=>.bad
 | .mkmap t=>.val (.map (some size)) (.push (.row false t []))
 | .look z x i=>g0k (H0r bk z (evG g x) (evG g i))
 | .mupd m i x=>match z0A bk fl (evG g m) (evG g i) (evG g x) with | some e=>.val undef e | none=>.bad
 | .sop k xs=>g0k (F0h k (xs.map (evG g)))
 | .b2s x=>g0k (F1G bk (evG g x))
end
variable {H:a0c} {fl:Nat} {t:a0U}
theorem h0M (b off n:Nat):d0p H.bk b off n=H.cells? b off n:=by unfold d0p a0c.cells?;cases H.bk b <;> rfl
theorem v0p (c:Bool) (n:Nat) (a:Value):r0p H.bk c n a=b0w H c n a:=by
 unfold r0p b0w
 cases a <;> try rfl
 rename_i p;cases p with
 | none=>rfl
 | some p =>
  simp only [h0M]
  split
  ·rfl
  ·split
   ·rfl
   ·cases H.cells? p.block p.off (if c=true then n else 1) <;> rfl
theorem G0l (e:TypeId) (v:Value):G0k H.bk e v=elemOk H e v:=by
 unfold G0k elemOk
 cases v <;> try rfl
 rename_i p n c;cases p with
 | none=>rfl
 | some p =>
  simp only
  split
  ·rfl
  ·cases H.bk p.block with
   | dead=>rfl
   | row ro e' cs=>cases ro <;> rfl
theorem F0w (b off:Nat) (vs:List Value):H.write? fl b off vs=(s0n H.bk fl b off vs).map (·.app H):=by
 unfold s0n a0c.write?
 cases H.bk b with
 | dead=>rfl
 | row ro e cs =>
  cases ro with
  | true=>rfl
  | false=>simp only;split <;> rfl
theorem v0a (e sz bytes len cap n:Nat) (base:Option Addr) (new:List Value):q0C fl H e sz bytes base len cap n new=(F0S H.bk H.size fl e sz base len cap n new).map fun p=>(p.1,p.2.app H):=by
 unfold F0S q0C
 simp only [h0M]
 by_cases c:new.all a0n=false
 ·rw [M1Z c,M1Z c];rfl
 rw [M1V c,M1V c]
 cases base with
 | none=>simp only;split <;> rfl
 | some sp =>
  simp only
  by_cases h:len=0/\cap=0
  ·rw [M1Z h,M1Z h];rfl
  rw [M1V h,M1V h]
  cases H.cells? sp.block sp.off (len * sz) with
  | none=>rfl
  | some old =>
   simp only
   by_cases j:cap ≠ unk/\cap < len + n
   ·rw [M1Z j,M1Z j];rfl
   rw [M1V j,M1V j]
   cases H.bk sp.block with
   | dead=>rfl
   | row ro e' cs =>
    cases ro with
    | true=>rfl
    | false=>simp only;split <;> rfl
theorem V0m (e sz bytes:Nat) (s x:Value):n0w fl H e sz bytes s x=(u1b H.bk H.size fl e sz bytes s x).map fun p=>(p.1,p.2.app H):=by
 unfold u1b n0w
 simp only [h0M]
 split
 ·rename_i base len cap q n r
  simp only
  by_cases c:n=0
  ·rw [M1Z c,M1Z c];rfl
  rw [M1V c,M1V c]
  by_cases j:len + n<=1073741824/\bytes<=1024/\0 < sz
  ·rw [M1Z j,M1Z j]
   cases q with
   | none=>rfl
   | some xp =>
    simp only
    cases H.cells? xp.block xp.off (n * sz) with
    | none=>rfl
    | some new =>
     have h:=v0a (H:=H) (fl:=fl) e sz bytes len cap n base new
     unfold F0S at h
     simp only [h0M] at h
     exact h
  ·rw [M1V j,M1V j];rfl
 ·rename_i base len cap b
  simp only
  by_cases c:b.data.toList.length=0
  ·rw [M1Z c,M1Z c];rfl
  rw [M1V c,M1V c]
  by_cases j:len + b.data.toList.length<=1073741824/\bytes<=1024/\sz=1
  ·rw [M1Z j,M1Z j];exact v0a e sz bytes len cap _ base _
  ·rw [M1V j,M1V j];rfl
 ·rename_i h k
  split
  ·exact N1i rfl (h _ _ _ _ _ _ rfl)
  ·exact N1i rfl (k _ _ _ _ rfl)
  ·rfl
theorem e0e (o:Option Value):(g0k o).on H=a0R H o:=by cases o <;> rfl
theorem K1j (op:SOp):opA fl t H op=(opE H.bk H.size fl (get t) op).on H:=by
 cases op <;> simp only [opA,opE,s0H,l0j,b0c,v0p,G0l]
 case mv=>rfl
 case pick c a b =>
  generalize ev t c=v
  cases v <;> try rfl
  rename_i b;cases b <;> rfl
 case alloc=>rfl
 case box=>rfl
 case build=>exact (e0e _).symm
 case lit e z n ps =>
  cases d0M (e0W z n) (ps.map fun p=>(p.1,p.2.1,ev t p.2.2)) <;> rfl
 case load=>exact (e0e _).symm
 case store n a x =>
  generalize ev t a=v
  cases v <;> try rfl
  rename_i p;cases p with
  | none=>rfl
  | some p =>
   simp only
   split
   ·rfl
   ·rw [F0w];cases s0n H.bk fl p.block p.off (a0t (ev t x)) <;> rfl
 case chk x =>
  generalize ev t x=v
  cases v <;> try rfl
  ·rename_i p;cases p <;> rfl
  ·rename_i f _ _;cases f <;> rfl
 case bin=>exact (e0e _).symm
 case un=>exact (e0e _).symm
 case conv k x=>generalize ev t x=v;cases v <;> rfl
 case iface=>rfl
 case mkfn=>rfl
 case mk e bytes z len cap =>
  generalize ev t len=v;generalize ev t cap=u
  cases v <;> try rfl
  cases u <;> try rfl
  simp only;split <;> rfl
 case sl e sz x lo hi mx =>
  cases elemOk H e (ev t x)
  ·rfl
  ·exact (e0e _).symm
 case fa off a =>
  generalize ev t a=v
  cases v <;> try rfl
  rename_i p;cases p with
  | none=>rfl
  | some p=>simp only;split <;> rfl
 case fa0 e a =>
  generalize ev t a=v
  cases v <;> try rfl
  rename_i p;cases p with
  | none=>rfl
  | some p =>
   simp only
   cases H.bk p.block with
   | dead=>rfl
   | row ro e' cs =>
    cases ro with
    | true=>rfl
    | false=>simp only;split <;> rfl
 case fld=>exact (e0e _).symm
 case ia sz x i =>
  generalize ev t x=v;generalize ev t i=u
  cases v <;> try rfl
  rename_i p n _;cases p with
  | none=>rfl
  | some p => cases u <;> try rfl
              simp only;split <;> rfl
 case ext x i =>
  generalize ev t x=v
  cases v <;> try rfl
  exact (e0e _).symm
 case call=>rfl
 case callv x args lone =>
  generalize ev t x=v
  cases v <;> try rfl
  rename_i f _ _;cases f <;> rfl
 case inv x tbl args lone =>
  generalize ev t x=v
  cases v <;> try rfl
  rename_i h v
  simp only
  cases tbl.lookup h <;> rfl
 case len x=>generalize ev t x=v;cases v <;> rfl
 case mnx=>exact (e0e _).symm
 case app e sz bytes s x =>
  rw [V0m]
  cases u1b H.bk H.size fl e sz bytes (ev t s) (ev t x) <;> rfl
 case cap=>exact (e0e _).symm
 case appz e b z x y=>cases t0a b (ev t x) (ev t y) <;> rfl
 case mkmap=>rfl
 case look z x i =>
  have e:H0r H.bk z (ev t x) (ev t i)=p0g H z (ev t x) (ev t i):=by
   unfold H0r p0g
   cases ev t x <;> rfl
  rw [e];exact (e0e _).symm
 case mupd m i x =>
  have e:k0E fl H (ev t m) (ev t i) (ev t x)=(z0A H.bk fl (ev t m) (ev t i) (ev t x)).map (·.app H):=by
   unfold k0E z0A
   cases ev t m <;> try rfl
   rename_i b;cases b <;> try rfl
   rename_i b
   cases ev t i <;> try rfl
   rename_i k n
   simp only
   cases H.bk b with
   | dead=>rfl
   | row ro e cs =>
    cases ro with
    | true=>rfl
    | false =>
     simp only
     split
     ·cases S0H k n (ev t x) cs <;> rfl
     ·rfl
  rw [e]
  cases z0A H.bk fl (ev t m) (ev t i) (ev t x) <;> rfl
 case sop=>exact (e0e _).symm
 case b2s x =>
  have e:F1G H.bk (ev t x)=v1a H (ev t x):=by
   unfold F1G v1a
   cases ev t x <;> try rfl
   rename_i p n c;cases p with
   | none=>cases n <;> cases c <;> rfl
   | some p=>simp only [h0M];cases H.cells? p.block p.off n <;> rfl
  rw [e];exact (e0e _).symm
 case pan x=>generalize ev t x=v;cases v <;> rfl
section
def I1H (bk:Nat->Blk) (size fl:Nat) (g:Nat->Value) (x:Opd):OpResE :=
  match evG g x with
  | .pointer (some a)=>.val (.pointer (some a)) .same
  | .func (.func f) a b=>.val (.func (.func f) a b) .same
  | .iface a b=>.val (.iface a b) .same
  | _=>.bad
def M1x (bk:Nat->Blk) (size fl:Nat) (g:Nat->Value) (u:UnOp) (x:Opd):OpResE:=g0k (unA u (evG g x))
def V0C (bk:Nat->Blk) (size fl:Nat) (g:Nat->Value) (ty:TypeId) (x:Opd):OpResE:=.val (.iface ty (evG g x)) .same
def v1t (bk:Nat->Blk) (size fl:Nat) (g:Nat->Value) (f:Fn) (a:List Opd) (b:List Opd):OpResE:=.val (.func f (a.map (evG g)).toArray (b.map (evG g)).toArray) .same
def M1v (bk:Nat->Blk) (size fl:Nat) (g:Nat->Value) (e:TypeId) (bytes:Nat) (z:List Value) (len:Opd) (cap:Opd):OpResE :=
  match evG g len,evG g cap with
  | .int _ l,.int _ c =>
   if 0<=l/\l<=c/\c<=1073741824/\bytes<=1024 then .val (.slice (some ⟨size,0,none⟩) l.toNat c.toNat) (.push (.row false e (e0W z l.toNat))) else .bad
  | _,_=>.bad
def M1w (bk:Nat->Blk) (size fl:Nat) (g:Nat->Value) (e:TypeId) (sz:Nat) (x:Opd) (lo:Option Opd) (hi:Option Opd) (mx:Option Opd):OpResE:=if G0k bk e (evG g x)=false then .bad else g0k (d0s sz (evG g x) (lo.map (evG g)) (hi.map (evG g)) (mx.map (evG g)))
def I1I (bk:Nat->Blk) (size fl:Nat) (g:Nat->Value) (e:TypeId) (a:Opd):OpResE :=
  match evG g a with
  | .pointer (some p) =>
   match bk p.block with
   | .row false e' _=>if p.spot.isSome=false/\e' = e/\p.off=0 then .val (.pointer (some ⟨p.block,0,none⟩)) .same else .bad
   | _=>.bad
  | _=>.bad
def V0B (bk:Nat->Blk) (size fl:Nat) (g:Nat->Value) (x:Opd) (args:List Opd) (lone:Bool):OpResE:=match evG g x with | .func (.func f) first captured=>.call f (first.toList ++ args.map (evG g) ++ captured.toList) lone | _=>.bad
def I1J (bk:Nat->Blk) (size fl:Nat) (g:Nat->Value) (x:Opd) (tbl:List (TypeId × FuncId)) (args:List Opd) (lone:Bool):OpResE :=
  match evG g x with
  | .iface ty v=>match tbl.lookup ty with | some f=>.call f (v :: args.map (evG g)) lone | none=>.bad
  | _=>.bad
def I1K (bk:Nat->Blk) (size fl:Nat) (g:Nat->Value) (big:Bool) (x:Opd) (ys:List Opd):OpResE:=g0k (v0t big (evG g x) (ys.map (evG g)))
def I1L (bk:Nat->Blk) (size fl:Nat) (g:Nat->Value) (x:Opd):OpResE:=match evG g x with | .iface a b=>.pan (.iface a b) | _=>.bad
def I1G (bk:Nat->Blk) (size fl:Nat) (g:Nat->Value) (x:Opd):OpResE:=g0k (V0v (evG g x))
def v1r (bk:Nat->Blk) (size fl:Nat) (g:Nat->Value) (e:TypeId) (bytes:Nat) (z:List Value) (s x:Opd):OpResE:=match t0a bytes (evG g s) (evG g x) with | some n=>.val (.slice (some ⟨size,0,none⟩) n unk) (.push (.row false e (e0W z n))) | none=>.bad
def V0D (bk:Nat->Blk) (size fl:Nat) (g:Nat->Value) (t:TypeId):OpResE:=.val (.map (some size)) (.push (.row false t []))
def v1s (bk:Nat->Blk) (size fl:Nat) (g:Nat->Value) (z:Value) (x i:Opd):OpResE:=g0k (H0r bk z (evG g x) (evG g i))
def v1u (bk:Nat->Blk) (size fl:Nat) (g:Nat->Value) (m i x:Opd):OpResE:=match z0A bk fl (evG g m) (evG g i) (evG g x) with | some e=>.val undef e | none=>.bad
def I1M (bk:Nat->Blk) (size fl:Nat) (g:Nat->Value) (k:Nat) (xs:List Opd):OpResE:=g0k (F0h k (xs.map (evG g)))
def I1F (bk:Nat->Blk) (size fl:Nat) (g:Nat->Value) (x:Opd):OpResE:=g0k (F1G bk (evG g x))
