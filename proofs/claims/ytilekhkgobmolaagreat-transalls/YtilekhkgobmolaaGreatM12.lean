/- Part 13 of the proof: AiQuick3, AiQuick4, AiQuickF. -/
import Derived.Test.YtilekhkgobmolaaGreatChecked
import Derived.Test.YtilekhkgobmolaaGreatM04
import Derived.Test.YtilekhkgobmolaaGreatM11
set_option linter.unusedVariables false
set_option linter.unusedSimpArgs false
set_option linter.unusedSectionVars false
namespace Go.Proofs.YtilekhkgobmolaaGreat.AI
section
open Go
variable {X:Cx} {call:Nat→FuncId→List Value→a0e→Res (Value × a0e)} {φ:Inj} {H H':a0e} {w:World} {fl:Nat}
theorem G0d (F:QF X.P) {t:a0W} {G:a0e} {m:Nat} {a:List Value} {k:IntKind} {n:Int} {b:Bool} (L:S0t t m) (ha:a.length=F.zA.length)
  (b2:G.blk (m + 2)=.row false F.tA a) (b3:G.blk (m + 3)=.row false F.tI [.int k n]) (b4:G.blk (m + 4)=.row false F.tB [.bool b]) :
  e0s G t [.cell 4 true F.zA.length,.cell 5 false 1,.cell 6 false 1]=some [.agg a.toArray,.int k n,.bool b]:=by
 have hnz:=F.nz
 have l1:=J0U b2 (by omega)
 rw [ha] at l1
 simp only [e0s,q0g,L.a,L.i,L.b,l1,z0f b3,z0f b4]
theorem m0c (F:QF X.P) {t:a0W} {G:a0e} {φ4:Inj} {w4:World} {a:Act} {vs:List Value} (hR:Rel X φ4 G w4) (hT:CR X φ4 w4.shape? t a.tmps.toList)
  (hv:e0s G t [.cell 4 true F.zA.length,.cell 5 false 1,.cell 6 false 1]=some vs):∃ v',(results F.fn a.tmps).run X.P w4=.ok v' w4∧VR X φ4 w4.shape? (d0g vs) v':=by
 obtain ⟨vs',hcr,hrun⟩:=G0e F.res hv hR hT
 refine ⟨_,?_,u0T hcr⟩
 have e1:results F.fn a.tmps=(do let vs ← F.fn.results.mapM (l0X a.tmps);pure (if h:vs.size=1 then vs[0] else .tuple vs)):=rfl
 rw [e1,e1u]
 simp only [Sem.run_bind,Sem.run_map,hrun]
 rfl
theorem a1p {S:Shp} {a b c v:Value} (h:VR X φ S (.tuple #[a,b,c]) v):∃ a' b' c',v=.tuple #[a',b',c']∧VR X φ S a a'∧VR X φ S b b'∧VR X φ S c c':=by
 cases h with
 | tuple _ m h1 h2 =>
  have h:CR X φ S [a,b,c] m.toList:=VR.tuple_iff.1 (.tuple _ m h1 h2)
  obtain ⟨a',r,e1,ka,h⟩:=h.cons_left
  obtain ⟨b',r,rfl,kb,h⟩:=h.cons_left
  obtain ⟨c',r,rfl,kc,h⟩:=h.cons_left
  obtain rfl:=h.nil_left
  exact ⟨a',b',c',by rw [show m = #[a',b',c'] from Array.toList_inj.1 e1],ka,kb,kc⟩
theorem G0y {S:Shp} {a b c a' b' c':Value} (ka:VR X φ S a a') (kb:VR X φ S b b') (kc:VR X φ S c c'):VR X φ S (.tuple #[a,b,c]) (.tuple #[a',b',c']) :=
 VR.tuple_iff.2 (CR.cons ka (CR.cons kb (CR.cons kc CR.nil)))
theorem z0c {φ':Inj} {S S':Shp} {k:IntKind} {n:Int} {u:Value} (h:VR X φ S (.int k n) u):VR X φ' S' (.int k n) u:=by cases h;exact .int _ _
theorem u0s {φ':Inj} {S S':Shp} {b:Bool} {u:Value} (h:VR X φ S (.bool b) u):VR X φ' S' (.bool b) u:=by cases h;exact .bool _
theorem x0h (F:QF X.P) (hcall:d0R X call) (hdraw:q0h X call) (hnp:F.nL ≠ 0) (hns:F.nS ≠ 0) :
  d0R X fun fl f args H=>if f=F.fQ then match args with | [.agg p,.agg s]=>(if p.size=F.nL∧s.size=F.nS then d0I F.zA H (call (max fl H.size) F.fS [.agg #[],.agg p,.agg s] H) else .bad) | _=>.bad else .bad:=by
 intro fl f args H φ w args' hR hA hfl
 refine And.intro ?_ ?_
 case refine_2 =>
  intro v he
  exfalso
  simp only at he
  split at he
  ·split at he
   ·split at he
    ·unfold d0I at he
     split at he
     ·cases he
     ·cases he
     ·cases he
     ·split at he
      ·split at he <;> cases he
      ·cases he
     ·cases he
    ·cases he
   ·cases he
  ·cases he
 intro v H' he
 simp only at he
 split at he
 case isFalse=>cases he
 rename_i hf
 subst hf
 split at he
 case h_2=>cases he
 rename_i p s
 split at he
 case isFalse=>cases he
 rename_i hsz
 rw [show max fl H.size=H.size by omega] at he
 obtain ⟨u0,r,hl0,hp0,hA1⟩:=hA.cons_left
 obtain ⟨u1,r,rfl,hs0,hA2⟩:=hA1.cons_left
 obtain rfl:=hA2.nil_left
 have has:args'.size=2:=by have:=e1K List.length hl0;simpa using this
 refine ⟨F.hrun,calls_of_wp_defers F.hfn F.body ?_⟩
 -- region 0
 generalize ha0:({ tmps:=args' ++ Array.replicate (F.fn.ntmps - args'.size) undef,defers:=[] }:Act)=a0
 have hd0:a0.defers=[]:=by rw [← ha0]
 have hT0:CR X φ w.shape? ([.agg p,.agg s] ++ un 15) a0.tmps.toList:=by
  rw [← ha0,has,F.nt,d1W,Array.toList_replicate]
  refine hA.append ?_
  show CR X φ w.shape? (un 15) (List.replicate 15 undef)
  unfold un
  generalize 15=m
  induction m with
  | zero=>exact CR.nil
  | succ m ih=>exact CR.cons VR.undef ih
 refine wp_seq (wp_mono (d0Z hcall hdraw 1 _ _ H.size _ H φ w a0 F.c0 hR hT0 (b1S _) hd0 (by rw [a1n];simp)).wp ?_)
 intro e a1 w1 hp
 rw [a1n F p s] at hp
 obtain ⟨rfl,hd1,φ1,hT1,hst1⟩:=hp
 -- region 1
 show (Code.seq _ _).wp _ _ a1 w1
 refine wp_seq (wp_region ?_)
 rw [show List.range F.ops1.size=List.range' 0 (q1 F.fD).length ++ [1] by rw [F.h1];rfl]
 refine p0N hcall (fl:=H.size) (q1 F.fD) 0 _ (hp5 F p s H) φ1 w1 a1 (fun i s hi=>?_) hst1.rel hT1 (by rw [u0F];omega) (b1I p s) ?_
 ·unfold q1 at hi
  match i,hi with
  | 0,hi=>simp at hi;subst hi;exact ⟨F.o1,by rw [F.h1];rfl,F.o1c⟩
  | i + 1,hi=>simp at hi
 intro φ2 a2 w2 hT2 hst2 hd2
 have hst02:=hst1.trans hst2 (b1S _) hR
 unfold wpOps
 rw [show F.ops1[1]? = some F.o2 by rw [F.h1];rfl]
 simp only [Region.wanted,F.o2g,c1F]
 refine .inl ?_
 have h7:=hT2.get 7
 rw [show (tm7 F.fD p s H.size).getD 7 undef=.func (.func F.fD) #[] #[pt (H.size + 2),pt (H.size + 3),pt (H.size + 4)] from rfl,← a0O] at h7
 generalize hu7:a2.tmps.getD 7 undef=u7 at h7
 cases h7 with
 | func _ _ _ a' cap g1 g2 g3 g4 =>
 have ha':a' = #[]:=by simpa using g1.symm
 subst ha'
 have hdef:(execOp a2.eval F.o2).run X.P w2=.ok (.defer { target:=.fn (.func F.fD) cap,args:=#[] }) w2:=by
  have:a2.eval (.tmp 7)=.func (.func F.fD) #[] cap:=hu7
  simp [execOp,F.o2o,resolve,Deferred.ofValue,this]
 unfold Oper.wp
 rw [hdef,Oper.upon_defer,F.o2d]
 unfold wpOps
 have hcap:cap.size=3:=by have:=g3;simpa using this.symm
 -- region 2
 generalize hD:([{ target:=.fn (.func F.fD) cap,args:=#[] }]:List Deferred)=D
 generalize ha3:({ a2 with defers:={ target:=.fn (.func F.fD) cap,args:=#[] } :: a2.defers }:Act).put none undef=a3
 have hd3:a3.defers=D:=by rw [← ha3,← hD];show _ :: a2.defers=_;rw [hd2,hd1]
 have ht3:a3.tmps=a2.tmps:=by rw [← ha3];rfl
 show (Code.seq _ _).wp _ _ a3 w2
 refine wp_seq (wp_region ?_)
 have hc2:=F.c2
 simp only [d0S,b1X,b1R,b1Y,b1U,SCode.reg.injEq] at hc2
 obtain ⟨l2,hl2,hlq⟩:=hc2
 subst hlq
 have hlen2:F.ops2.size=9:=by have:=i0q hl2;simp [q2a,q2b] at this;omega
 rw [show List.range F.ops2.size=List.range' 0 (q2a F.nL F.nS).length ++ (3 :: List.range' 4 (q2b F.zA.length).length) by rw [hlen2];rfl]
 have hget2:=k0q hl2
 refine p0N hcall (fl:=H.size) (q2a F.nL F.nS) 0 _ (hp5 F p s H) φ2 w2 a3 (fun i s hi=>?_) hst2.rel (by rw [ht3];exact hT2) (by rw [u0F];omega) (b1J F hsz.1 hsz.2 hnp hns) ?_
 ·obtain ⟨x,h1,h2⟩:=hget2 i s (by
   have hlt:i < (q2a F.nL F.nS).length:=(c1p.1 hi).1
   rw [c1D hlt];exact hi)
  exact ⟨x,by simpa using h1,h2⟩
 intro φ3 a4 w3 hT3 hst3 hd4
 have hst03:=hst02.trans hst3 (b1S _) hR
 have hR3:Rel X φ H w3:=hst03.rel0 hR
 have hd4':a4.defers=D:=hd4.trans hd3
 -- where the own blocks lie
 have hown:∀ k,k < 5→∃ x,φ3 (H.size + k)=some x:=by
  intro k hk
  have h:=hT3.get (k + 2)
  have e:(r0Q F.fD p s H.size).getD (k + 2) undef=pt (H.size + k):=by
   match k,hk with
   | 0,_=>rfl
   | 1,_=>rfl
   | 2,_=>rfl
   | 3,_=>rfl
   | 4,_=>rfl
  rw [e] at h
  unfold pt at h
  generalize a4.tmps.toList.getD (k + 2) undef=u at h
  cases h with
  | ptr _ _ B o h1 h2 h3=>exact ⟨_,h2⟩
 obtain ⟨B,o,hφ⟩:∃ B o:Nat→Nat,∀ k,k < 5→φ3 (H.size + k)=some (B k,o k) :=
  ⟨fun k=>((φ3 (H.size + k)).getD (0,0)).1,fun k=>((φ3 (H.size + k)).getD (0,0)).2,fun k hk=>by obtain ⟨x,hx⟩:=hown k hk;simp [hx]⟩
 have O:=U0m F hR hst03 hφ
 have hφ2:∀ k,k < 5→φ2 (H.size + k)=some (B k,o k):=by
  intro k hk
  have h:=hT2.get (k + 2)
  have e:(tm7 F.fD p s H.size).getD (k + 2) undef=pt (H.size + k):=by
   match k,hk with
   | 0,_=>rfl
   | 1,_=>rfl
   | 2,_=>rfl
   | 3,_=>rfl
   | 4,_=>rfl
  rw [e] at h
  unfold pt at h
  generalize a2.tmps.toList.getD (k + 2) undef=u at h
  cases h with
  | ptr _ _ B' o' h1 h2 h3=>rw [h2,← hst3.ext _ _ h2,hφ k hk]
 have hcapG:∀ (φ':Inj) (S:Shp) (m:Nat),(∀ k,k < 5→φ' (m + k)=some (B k,o k))→CR X φ' S [pt (m + 2),pt (m + 3),pt (m + 4)] cap.toList:=by
  intro φ' S m h
  refine ⟨by simp [hcap],fun i hi=>?_⟩
  rw [← a0O]
  have hi3:i < 3:=by simpa using hi
  match i,hi3 with
  | 0,_=>exact g0I (hφ2 2 (by omega)) (h 2 (by omega)) (by simpa using g4 0 (by simp))
  | 1,_=>exact g0I (hφ2 3 (by omega)) (h 3 (by omega)) (by simpa using g4 1 (by simp))
  | 2,_=>exact g0I (hφ2 4 (by omega)) (h 4 (by omega)) (by simpa using g4 2 (by simp))
 -- the call
 unfold wpOps
 rw [F.o3i]
 simp only [Region.wanted,F.o3g,c1F]
 refine .inl ?_
 have h9:=hT3.get 9
 have h10:=hT3.get 10
 have h11:=hT3.get 11
 rw [show (r0Q F.fD p s H.size).getD 9 undef=.agg #[] from rfl,← a0O] at h9
 rw [show (r0Q F.fD p s H.size).getD 10 undef=.agg p from rfl,← a0O] at h10
 rw [show (r0Q F.fD p s H.size).getD 11 undef=.agg s from rfl,← a0O] at h11
 have hargs:CR X φ w3.shape? [.agg #[],.agg p,.agg s] (#[a4.tmps.getD 9 undef,a4.tmps.getD 10 undef,a4.tmps.getD 11 undef]:Array Value).toList:=by
  refine CR.cons ?_ (CR.cons (VR.back hR hst03 hp0 h10) (CR.cons (VR.back hR hst03 hs0 h11) CR.nil))
  generalize a4.tmps.getD 9 undef=u at h9
  cases h9 with
  | agg _ a' g1 g2=>exact .agg _ _ g1 (fun i hi=>by simp at hi)
 have hcl:=hcall H.size F.fS [.agg #[],.agg p,.agg s] H φ w3 #[a4.tmps.getD 9 undef,a4.tmps.getD 10 undef,a4.tmps.getD 11 undef] hR3 hargs (b1S _)
 have hex:(execOp a4.eval F.o3).run X.P w3=(callFunc F.fS #[a4.tmps.getD 9 undef,a4.tmps.getD 10 undef,a4.tmps.getD 11 undef]).run X.P w3:=by
  unfold execOp
  rw [F.o3o]
  simp [resolve,Deferred.ofValue,invoke,Act.eval]
 unfold Oper.wp
 rw [hex]
 cases hcr:call H.size F.fS [.agg #[],.agg p,.agg s] H with
 | bad=>rw [hcr] at he;simp [d0I] at he
 | pan v0 =>
  rw [hcr] at he
  obtain ⟨⟨ty,u,rfl⟩,hruns,hcalls⟩:=hcl.2 v0 hcr
  simp only [d0I,Res.ok.injEq,d1J] at he
  obtain ⟨rfl,rfl⟩:=he
  rw [d0w hruns]
  refine Calls.mono hcalls ?_
  rintro e w4 ⟨⟨ty',u',rfl⟩,hpan⟩
  have hst4:=H0N hR3 hpan
  have hold:∀ k,k < 5→w4.heap[B k]? = w3.heap[B k]?:=fun k hk=>hst4.old hR3 (O.hi k hk)
  have r5:=r0f F O hst4.rel hold (z0v F hR O hR3 hst4)
  have sl:=m0e (B:=B) (o:=o) (m:=H.size) (S2:=w4.shape?) hR hst03 hp0 hs0 hφ (fun k hk=>p0h (φ:=φ) k hk) (fun b x hb=>by rw [s0O (hR.lt b x hb)];exact hb) hst4.shp hT3
  show Leaves X.P F.fn a4.tmps _ a4.defers _ w4
  rw [hd4',← hD]
  have hcapR:CR X (z0S φ H.size B o) w4.shape? [pt (H.size + 2),pt (H.size + 3),pt (H.size + 4)] cap.toList:=by
   exact hcapG _ _ _ fun k hk=>p0h k hk
  refine leaves_cons (by simp) (by simp only [invoke];rw [d0w F.runD];simp) ((H0g F hcall hdraw rfl r5 hcapR).mono ?_)
  rintro e u'' w5 ⟨⟨x,rfl⟩,rfl,φ5,G',hst5,b2,b3,b4⟩
  show Leaves X.P F.fn a4.tmps _ [] (settle (.panicking [{ v:=.iface ty' u',recovered:=true }])) w5
  have L:S0t (r0Q F.fD p s H.size) H.size:=⟨rfl,rfl,rfl,rfl⟩
  obtain ⟨v',hrun,hvr⟩:=m0c F hst5.rel (sl.mono hst5.ext hst5.shp) (G0d F L rfl b2 b3 b4)
  refine ⟨v',hrun,v',φ,rfl,?_,u0B F hR hfl hst03 O hst4 hst5⟩
  have e1:d0g [.agg F.zA.toArray,.int .i64 0,.bool false]=.tuple #[.agg F.zA.toArray,.int .i64 0,.bool false]:=rfl
  rw [e1] at hvr
  obtain ⟨x1,x2,x3,rfl,k1,k2,k3⟩:=a1p hvr
  refine G0y ?_ (z0c k2) (u0s k3)
  cases k1 with
  | agg _ m h1 h2 =>
   refine VR.agg_iff.2 (q0Q F.zf (VR.agg_iff.1 (.agg _ m h1 h2)))
 | ok r0 =>
  obtain ⟨v0,H0⟩:=r0
  rw [hcr] at he
  obtain ⟨hruns,hcalls⟩:=hcl.1 v0 H0 hcr
  obtain ⟨a,k,n,rfl,rfl,rfl,hasz,hapl⟩:∃ a k n,v0=.tuple #[.agg a,.int k n]∧v=.tuple #[.agg a,.int k n,.bool true]∧H' = H0∧a.size=F.zA.length∧a.toList.all a0q=true:=by
   cases v0 <;> simp only [d0I] at he <;> try cases he
   rename_i vs
   split at he
   ·rename_i a k n heq
    split at he
    ·rename_i hc
     simp only [Res.ok.injEq,d1J] at he
     obtain ⟨rfl,rfl⟩:=he
     exact ⟨a,k,n,by rw [show vs = #[.agg a,.int k n] from Array.toList_inj.1 heq],rfl,rfl,hc.1,hc.2⟩
    ·cases he
   ·cases he
  rw [d0w hruns]
  refine Calls.mono hcalls ?_
  rintro e w4 ⟨v0',φ',rfl,hv0,hst4⟩
  have hold:∀ k,k < 5→w4.heap[B k]? = w3.heap[B k]?:=fun k hk=>hst4.old hR3 (O.hi k hk)
  have r5:=r0f F O hst4.rel hold (z0v F hR O hR3 hst4)
  have hext5:∀ b x,φ' b=some x→z0S φ' H'.size B o b=some x:=fun b x hb=>by rw [s0O (hst4.rel.lt b x hb)];exact hb
  have sl:=m0e (B:=B) (o:=o) (m:=H'.size) (S2:=w4.shape?) hR hst03 hp0 hs0 hφ (fun k hk=>p0h (φ:=φ') k hk) (fun b x hb=>hext5 b x (hst4.ext b x hb)) hst4.shp hT3
  have sl2:=h0T sl (hv0.mono hext5 (fun _ _ h=>h)) F.o3.dst
  obtain ⟨t4,G4,e4,L4,hG4,b2,b3,b4⟩:=b1L (call:=call) (H':=H') F (p:=p) (s:=s) (k:=k) (n:=n) hasz hapl
  have hd5:(a4.put F.o3.dst v0').defers=D:=by rw [c0v];exact hd4'
  have hops4:∀ i s',(q2b F.zA.length)[i]? = some s'→∃ o,F.ops2[4 + i]? = some o∧g0e X.P F.ops2 true o=some s':=fun i s' hi=>by
   obtain ⟨x,h1,h2⟩:=hget2 (4 + i) s' (by
    rw [show 4 + i=(q2a F.nL F.nS).length + (i + 1) by simp [q2a];omega,c1K (by omega)]
    simpa using hi)
   exact ⟨x,by simpa using h1,h2⟩
  show wpOps X.P F.ops2 _ (List.range' 4 (q2b F.zA.length).length) (a4.put F.o3.dst v0') w4
  refine c0U ?_ (p0O hcall (fl:=H'.size) (D:=D) (q2b F.zA.length) 4 _ (f0V F H') (z0S φ' H'.size B o) w4 (a4.put F.o3.dst v0') hops4 r5 (by rw [F.o3d] at sl2 ⊢;exact sl2) (by rw [k0P];omega) hd5 (by rw [e4];simp))
  rintro e a6 w5 hp
  rw [e4] at hp
  obtain ⟨rfl,hd6,φ5,hT6,hst5⟩:=hp
  show (Code.seq _ _).wp _ _ a6 w5
  obtain ⟨t5,G5,e5,L5,c2,c3,c4⟩:=b1K (call:=call) (bef:=F.bef) F L4 (by simp [hasz]) hapl b2 b3 b4
  refine wp_seq (wp_mono (d0Z hcall hdraw 1 _ _ H'.size _ G4 φ5 w5 a6 F.c3 hst5.rel hT6 (by omega) hd6 (by rw [e5];simp)).wp ?_)
  rintro e a7 w6 hp
  rw [e5] at hp
  obtain ⟨rfl,hd7,φ6,hT7,hst6⟩:=hp
  show (Code.ret).wp _ _ a7 w6
  refine wp_ret ?_
  show Leaves X.P F.fn a7.tmps _ a7.defers .returning w6
  rw [hd7,← hD]
  refine leaves_cons (by simp) (by simp only [invoke];rw [d0w F.runD];simp) ((H0h F hcap).mono ?_)
  rintro e u'' w7 ⟨⟨x,rfl⟩,rfl,rfl⟩
  show Leaves X.P F.fn a7.tmps _ [] .returning w7
  have hst56:=hst5.trans hst6 (b1S _) r5
  obtain ⟨v',hrun,hvr⟩:=m0c F hst6.rel hT7 (G0d F L5 (by simp [hasz]) c2 c3 c4)
  refine ⟨v',hrun,v',φ',rfl,?_,u0B F hR hfl hst03 O hst4 hst56⟩
  have e1:d0g [.agg a.toList.toArray,.int k n,.bool true]=.tuple #[.agg a,.int k n,.bool true]:=by simp [d0g]
  rw [e1] at hvr
  obtain ⟨x1,x2,x3,rfl,k1,k2,k3⟩:=a1p hvr
  refine G0y ?_ (z0c k2) (u0s k3)
  -- the answer's own cells lead where they led
  obtain ⟨y,hy⟩:∃ y,VR X φ' w4.shape? (.agg a) y:=by
   cases hv0 with
   | tuple _ m h1 h2 =>
    have h:=h2 0 (by simp)
    exact ⟨_,by simpa using h⟩
  have ky:=VR.back r5 hst56 (hy.mono hext5 (fun _ _ h=>h)) k1
  refine (VR.cut (m:=H'.size) (fun b y hb=>hst4.rel.lt b y hb) hy ky).mono (fun b x hx=>?_) (fun _ _ h=>h)
  obtain ⟨g1,g2⟩:=b0u.1 hx
  rw [s0O g1] at g2;exact g2
end
section
open Go
def G0a:Code→Array Oper | .region _ ops _=>ops | _=>#[]
def Y0p:Code→Code | .cond _ a _=>a | _=>.skip
def W0h:Nat→Code→Code
 | 0,.seq a _=>a
 | k + 1,.seq _ b=>W0h k b
 | _,c=>c
def P0B (f:Func):Code:=f.body.getD .skip
def P0G:Option SCode→List Nat | some (.draw _ b _)=>b | _=>[]
def opT (o:Oper):TypeId:=match o.op with | .binOp _ t _ _ _=>t | _=>0
def Y0k (o:Oper):Array TypeId:=match o.op with | .call c=>c.argTypes | _=>#[]
def T0Z:Option TypeDesc→Array (String × TypeId) | some (.interface x)=>x | _=>#[]
theorem w0A {P:Program} {t:TypeId} {ifs:Array (String × TypeId)} (ht:P.underlying t=some (.interface ifs)) (w:World):(Op.equal t .nilIface .nilIface).run P w=.ok true w:=by
 unfold Op.equal Op.maxDepth;rw [Op.equalIn];simp only [Sem.run_bind,run_underlying ht,Result.andThen_ok];rfl
theorem s0n {P:Program} {t:TypeId} {ifs:Array (String × TypeId)} (ht:P.underlying t=some (.interface ifs)) (ty:TypeId) (u:Value) (w:World):(Op.equal t (.iface ty u) .nilIface).run P w=.ok false w:=by
 unfold Op.equal Op.maxDepth;rw [Op.equalIn];simp only [Sem.run_bind,run_underlying ht,Result.andThen_ok];rfl
theorem Q0r {P:Program} {o:Oper} {t t':TypeId} {ifs:Array (String × TypeId)} (ho:o.op=.binOp .neq t (.tmp 3) (.const .nilIface) t') (ht:P.underlying t=some (.interface ifs)) (ρ:Operand→Value) (w:World)
  (h:ρ (.tmp 3)=.nilIface) (h':ρ (.const .nilIface)=.nilIface):(execOp ρ o).run P w=.ok (.value (.bool false)) w:=by
 simp [execOp,ho,h,h',eqGuard,binOp,w0A ht]
theorem H0D {P:Program} {o:Oper} {t t':TypeId} {ifs:Array (String × TypeId)} (ho:o.op=.binOp .neq t (.tmp 3) (.const .nilIface) t') (ht:P.underlying t=some (.interface ifs)) (ρ:Operand→Value) (w:World) (ty:TypeId) (u:Value)
  (h:ρ (.tmp 3)=.iface ty u) (h':ρ (.const .nilIface)=.nilIface):(execOp ρ o).run P w=.ok (.value (.bool true)) w:=by
 simp [execOp,ho,h,h',eqGuard,binOp,s0n ht]
noncomputable def H0R (k:Nat):Array Oper:=G0a (W0h k (P0B Tryz.f84))
noncomputable def qA:Array Oper:=G0a (W0h 0 (P0B Tryz.f112))
noncomputable def qB':Array Oper:=G0a (Y0p (W0h 1 (P0B Tryz.f112)))
noncomputable def qf:QF Tryz.prog where
 fQ:=H0o;fD:=Z0x;fS:=q0F;fn:=Tryz.f84;fnD:=Tryz.f112
 tL:=b0G;tS:=a0G;tA:=b0H;tI:=e0l;tB:=4
 zA:=(match env.quick with | some q=>q.zero | none=>[])
 nL:=(match env.quick with | some q=>q.np | none=>0)
 nS:=(match env.quick with | some q=>q.ns | none=>0)
 ops0:=H0R 0;ops1:=H0R 1;ops2:=H0R 2;ops3:=H0R 3;opsA:=qA;opsB:=qB'
 i0:=0;i1:=1;i2:=2;i3:=3;iA:=0;iB:=1
 o1:=(H0R 1).getD 0 default;o2:=(H0R 1).getD 1 default;o3:=(H0R 2).getD 3 default;oA1:=qA.getD 0 default;oA2:=qA.getD 1 default
 bef:=P0G (d0S Tryz.prog (.region 3 (H0R 3) true))
 hfn:=Tryz.func84
 hrun:=by kernel_rfl
 body:=by kernel_rfl
 np:=by kernel_rfl
 nt:=by kernel_rfl
 res:=by kernel_rfl
 c0:=by kernel_rfl
 h1:=by kernel_rfl
 o1c:=by kernel_rfl
 o2g:=by kernel_rfl
 o2d:=by kernel_rfl
 o2o:=by kernel_rfl
 c2:=by kernel_rfl
 o3i:=by kernel_rfl
 o3g:=by kernel_rfl
 o3d:=by kernel_rfl
 ats:=Y0k ((H0R 2).getD 3 default)
 o3o:=by kernel_rfl
 c3:=by kernel_rfl
 nz:=by decide
 zf:=by kernel_rfl
 zp:=by kernel_rfl
 hfnD:=Tryz.func112
 runD:=by kernel_rfl
 bodyD:=by kernel_rfl
 ntD:=by kernel_rfl
 resD:=by kernel_rfl
 hA:=by kernel_rfl
 oA1g:=by kernel_rfl
 oA1d:=by kernel_rfl
 oA1o:=by kernel_rfl
 oA2g:=by kernel_rfl
 oA2d:=by kernel_rfl
 oA2f:=fun ρ w h h'=>Q0r (t:=opT (qA.getD 1 default)) (t':=opT (qA.getD 1 default)) (ifs:=T0Z (Tryz.prog.underlying (opT (qA.getD 1 default)))) (by kernel_rfl) (by kernel_rfl) ρ w h h'
 oA2t:=fun ρ w ty u h h'=>H0D (t:=opT (qA.getD 1 default)) (t':=opT (qA.getD 1 default)) (ifs:=T0Z (Tryz.prog.underlying (opT (qA.getD 1 default)))) (by kernel_rfl) (by kernel_rfl) ρ w ty u h h'
 blB:=by kernel_rfl
 cB:=by kernel_rfl
end
end Go.Proofs.YtilekhkgobmolaaGreat.AI
