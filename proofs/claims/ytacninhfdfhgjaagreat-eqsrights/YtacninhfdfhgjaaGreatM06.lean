/- Part 7 of the proof. -/
import Derived.Test.YtacninhfdfhgjaaGreatRows
import Derived.Test.YtacninhfdfhgjaaGreatM02
import Derived.Test.YtacninhfdfhgjaaGreatM05
set_option linter.unusedVariables false
set_option linter.unusedSimpArgs false
set_option linter.unusedSectionVars false
namespace Go.Proofs.YtacninhfdfhgjaaGreat.AI
section
open Go
def b0u (nt i:Nat) (Inv:Nat→(Nat→Value)→a0c→Prop) (t:a0Q) (H:a0c):Prop:=∃ ρ2,t=T nt ρ2∧Inv (i + 1) ρ2 H
theorem b0u.mk {nt i:Nat} {Inv:Nat→(Nat→Value)→a0c→Prop} {ρ:Nat→Value} {H:a0c} (h:Inv (i + 1) ρ H):b0u nt i Inv (T nt ρ) H:=⟨ρ,rfl,h⟩
theorem a0D {n:Nat} (h:n < 4611686018427387904):IntKind.i64.wrap ((n:Int) + 1)=((n + 1:Nat):Int):=by rw [a0S (by omega) (by omega)];omega
def d0l (E:Env) (fl nt:Nat) (rx:List a0w) (R:a0E) (i:Nat) (Inv:Nat→(Nat→Value)→a0c→Prop) (t:a0Q) (H:a0c):Prop :=
 WR E fl rx t H (b0u nt i Inv) R
def c0i (E:Env) (fl nt tc b b2 n:Nat) (body:SCode) (rx:List a0w) (Z:a0Q→a0c→Prop) (Q:c0S) (R:a0E) (i:Nat) (Inv:Nat→(Nat→Value)→a0c→Prop) (t:a0Q) (H:a0c):Prop :=
 ∃ ρ',t=T nt ρ'∧ρ' tc=.bool (decide (i < n))∧(i < n→W E fl body (T nt ρ') H (q0c b2 b (d0l E fl nt rx R i Inv) Z Q) R)∧(i=n→Z (T nt ρ') H)
section
variable {E:Env} {fl nt tc b b2 n i:Nat} {body:SCode} {rx rc:List a0w} {Z:a0Q→a0c→Prop} {Q:c0S} {R:a0E} {Inv:Nat→(Nat→Value)→a0c→Prop} {ρ:Nat→Value} {H:a0c}
theorem c0i.mk (h1:ρ tc=.bool (decide (i < n))) (h2:i < n→W E fl body (T nt ρ) H (q0c b2 b (d0l E fl nt rx R i Inv) Z Q) R) (h3:i=n→Z (T nt ρ) H):c0i E fl nt tc b b2 n body rx Z Q R i Inv (T nt ρ) H:=⟨ρ,rfl,h1,h2,h3⟩
theorem b0D (Inv:Nat→(Nat→Value)→a0c→Prop) (n:Nat) (htc:tc < nt) (hI:Inv 0 ρ H)
  (step:∀ i ρ G,i≤n→Inv i ρ G→WR E fl rc (T nt ρ) G (c0i E fl nt tc b b2 n body rx Z Q R i Inv) R) :
  W E fl (.loop (.seq (.seq (.reg rc) (.cond (.tmp tc) .skip (.exit b))) (.seq (.block b2 body) (.reg rx)))) (T nt ρ) H (d0w b (f0L Z Q)) R:=by
 refine b0A (fun k t G=>∃ i ρ,i + k=n∧t=T nt ρ∧Inv i ρ G) Z n ⟨0,ρ,by omega,rfl,hI⟩ ?_ (fun _ _ h=>h)
 clear hI
 rintro k t G ⟨i,ρ,hik,rfl,hI⟩
 refine e0c (e0c (i0q ((step i ρ G (by omega) hI).mono ?_)))
 rintro t' G' ⟨ρ',rfl,h1,h2,h3⟩
 simp only [d0a]
 by_cases hi:i < n
 ·have hd:ρ' tc=.bool true:=by rw [h1,decide_eq_true hi]
  refine i0p true (by rw [h0G,b0o htc,hd]) (fun _=>o0d ?_) (by simp)
  simp only [d0a]
  refine e0c (k0j ((h2 hi).mono fun e t2 G2 hq=>?_))
  have fin:d0l E fl nt rx R i Inv t2 G2→f0L (fun t' H'=>W E fl (.reg rx) t' H' (k0v b (fun t' H'=>∃ k',k' < k∧∃ i ρ,i + k' = n∧t' = T nt ρ∧Inv i ρ H') Z Q) R) (k0v b (fun t' H'=>∃ k',k' < k∧∃ i ρ,i + k' = n∧t' = T nt ρ∧Inv i ρ H') Z Q) .normal t2 G2:=by
   intro h
   refine i0q (h.mono ?_)
   rintro t3 G3 ⟨ρ3,rfl,h4⟩
   exact ⟨k - 1,by omega,i + 1,ρ3,by omega,rfl,h4⟩
  cases e with
  | normal=>exact fin hq
  | exit j =>
   simp only [q0c] at hq
   show (if j=b2 then _ else _)
   by_cases hj:j=b2
   ·rw [R0k hj] at hq ⊢;exact fin hq
   ·rw [R0c hj] at hq ⊢
    show (if j=b then _ else _)
    by_cases hj2:j=b
    ·rw [R0k hj2] at hq ⊢;exact hq
    ·rw [R0c hj2] at hq ⊢;exact hq
  | ret=>exact hq
 ·have he:i=n:=by omega
  have hd:ρ' tc=.bool false:=by rw [h1,decide_eq_false hi]
  refine i0p false (by rw [h0G,b0o htc,hd]) (by simp) (fun _=>o0c ?_)
  show (if b=b then _ else _)
  rw [R0k rfl]
  exact h3 he
end
end
section
open Go
set_option maxHeartbeats 4000000
variable {fl:Nat} {H G:a0c} {R:a0E} {v w:Value}
theorem l0x {i j:Bool × List Nat} (h:b0j H v i) (k:b0j H w j) (hf:fl≤H.size) (hn:i.2.length < 1073741824):a0N env fl G0X [v,w] H (fun r H'=>r=.bool (decide (i=j))∧Ext H H') R:=by
 obtain ⟨s,rfl,hs⟩:=h
 obtain ⟨u,rfl,hu⟩:=k
 obtain ⟨bi,li⟩:=i
 obtain ⟨bj,lj⟩:=j
 simp only at hs hu hn ⊢
 refine a0d Q0b hf (h:=?_)
 intro ρ h0
 simp [M0B,C0n,h0]
 generalize hG:Array.push (Array.push H _) _=G
 have hx2:Ext H G:=by rw [← hG];exact (Ext.refl H).push.push
 have b0:a0c.blk G H.size=.row false a0a [.bool bi,s]:=by rw [← hG];simp
 have b1:a0c.blk G (H.size + 1)=.row false a0a [.bool bj,u]:=by rw [← hG];simp
 have hx:=Ext.refl H
 clear hG
 (try replace b0:=hx2.blk b0);(try replace b1:=hx2.blk b1);(try replace hx:=hx.trans hx2)
 have ks:=hs.mono hx
 have ku:=hu.mono hx
 by_cases hb:bi=bj
 ·subst hb
  by_cases hl:li.length=lj.length
  ·simp [p0b,C0o,h0,b0,b1,hs.slen,hu.slen,hl]
   refine b0D (fun n ρ G'=>ρ 2=.pointer (some ⟨H.size,0,none⟩)∧ρ 3=.pointer (some ⟨H.size + 1,0,none⟩)∧ρ 5=.int .i64 (n:Int)∧G' = G∧li.take n=lj.take n) li.length (by decide) (by simp) ?_
   rintro n ρ _ hn1 ⟨g2,g3,g5,rfl,hpre⟩
   simp [C0p,g2,g5,b0,ks.slen]
   refine c0i.mk (by simp) (fun hlt=>?_) (fun heq=>?_)
   ·have hltj:n < lj.length:=by omega
    simp
    refine a0Y ?_
    simp [C0q,g2,g3,g5,b0,b1,ks.ia hlt,ku.ia hltj,ks.load hlt (Ext.refl _),ku.load hltj (Ext.refl _)]
    have e1:li.getD n 0=li[n]:=by simp [Q0T,hlt]
    have e2:lj.getD n 0=lj[n]:=by simp [Q0T,hltj]
    refine ⟨fun hne=>?_,fun heq=>?_⟩
    ·simp [C0r]
     exact fun _ he=>hne (by subst he;rfl)
    ·unfold d0l
     simp [C0s,g5,a0D (show n < 4611686018427387904 by omega)]
     refine b0u.mk ⟨by simp [g2],by simp [g3],by simp,rfl,?_⟩
     rw [R0l hlt,R0l hltj,hpre,← e1,← e2,Q0T,Q0T,heq]
   ·subst heq
    rw [Q0Z,hl,Q0Z] at hpre
    simp [C0t]
    exact fun _=>hpre
  ·simp [p0b,v0o,h0,b0,b1,hs.slen,hu.slen,hl]
   exact fun _ he=>hl (by rw [he])
 ·simp [p0b,v0o,h0,b0,b1,hs.slen,hu.slen,hb]
theorem l0w {a b:b0B} (h:c0K H v a) (k:c0K H w b) (hf:fl≤H.size) (hn:e0g a < 1073741824):a0N env fl I0i [v,w] H (fun r H'=>r=.bool (decide (a=b))∧Ext H H') R:=by
 obtain ⟨s,u,rfl,hs,hu⟩:=h
 obtain ⟨s',u',rfl,hs',hu'⟩:=k
 have hn1:a.1.2.length < 1073741824:=by unfold e0g at hn;omega
 have hn2:a.2.2.length < 1073741824:=by unfold e0g at hn;omega
 refine a0d P0C hf (h:=?_)
 intro ρ h0
 simp [M0e,A0m,h0]
 generalize hG:Array.push (Array.push H _) _=G
 have hx2:Ext H G:=by rw [← hG];exact (Ext.refl H).push.push
 have b0:a0c.blk G H.size=.row false a0h [.bool a.1.1,s,.bool a.2.1,u]:=by rw [← hG];simp
 have b1:a0c.blk G (H.size + 1)=.row false a0h [.bool b.1.1,s',.bool b.2.1,u']:=by rw [← hG];simp
 have hx:=Ext.refl H
 clear hG
 (try replace b0:=hx2.blk b0);(try replace b1:=hx2.blk b1);(try replace hx:=hx.trans hx2)
 simp [A0n,h0,b0,b1]
 refine (l0x (i:=a.1) (j:=b.1) ⟨s,rfl,hs.mono hx⟩ ⟨s',rfl,hs'.mono hx⟩ hx.1 hn1).mono ?_
 rintro _ G2 ⟨rfl,hx2⟩
 (try replace b0:=hx2.blk b0);(try replace b1:=hx2.blk b1);(try replace hx:=hx.trans hx2)
 by_cases h1:a.1=b.1
 ·simp [h1,b0,b1]
  refine (l0x (i:=a.2) (j:=b.2) ⟨u,rfl,hu.mono hx⟩ ⟨u',rfl,hu'.mono hx⟩ hx.1 hn2).mono ?_
  rintro _ G2 ⟨rfl,hx2⟩
  have:(a=b)=(a.2=b.2):=propext ⟨fun h=>by rw [h],fun h=>Prod.ext h1 h⟩
  simp [h1,this]
 ·simp [h1]
  exact fun _ h=>h1 (by rw [h])
theorem h0D {a b:d0d} (h:g0q H v a) (k:g0q H w b) (hf:fl≤H.size) (hn:e0g a.2 < 1073741824):a0N env fl G0Q [v,w] H (fun r H'=>r=.bool (decide (a=b))∧Ext H H') R:=by
 obtain ⟨s,u,rfl,hs,hu⟩:=h
 obtain ⟨s',u',rfl,hs',hu'⟩:=k
 refine a0d P0i hf (h:=?_)
 intro ρ h0
 simp [L0K,y0J,h0]
 generalize hG:Array.push (Array.push H _) _=G
 have hx2:Ext H G:=by rw [← hG];exact (Ext.refl H).push.push
 have b0:a0c.blk G H.size=.row false a0x [.int .i64 a.1,.bool a.2.1.1,s,.bool a.2.2.1,u]:=by rw [← hG];simp
 have b1:a0c.blk G (H.size + 1)=.row false a0x [.int .i64 b.1,.bool b.2.1.1,s',.bool b.2.2.1,u']:=by rw [← hG];simp
 have hx:=Ext.refl H
 clear hG
 (try replace b0:=hx2.blk b0);(try replace b1:=hx2.blk b1);(try replace hx:=hx.trans hx2)
 simp [y0K,h0,b0,b1]
 by_cases h1:a.1=b.1
 ·simp [h1,b0,b1]
  refine (l0w (a:=a.2) (b:=b.2) ⟨s,u,rfl,hs.mono hx,hu.mono hx⟩ ⟨s',u',rfl,hs'.mono hx,hu'.mono hx⟩ hx.1 hn).mono ?_
  rintro _ G2 ⟨rfl,hx2⟩
  have:(a=b)=(a.2=b.2):=propext ⟨fun h=>by rw [h],fun h=>Prod.ext h1 h⟩
  simp [h1,this]
 ·simp [h1]
  exact fun _ h=>h1 (by rw [h])
theorem k0h {a b:List d0d} (ha:c0R H v a) (hb:c0R H w b) (hf:fl≤H.size) (hfa:v0U a) (hal:a.length < 1073741824) :
  a0N env fl H0T [v,w] H (fun r H'=>r=.bool (decide (a=b))∧Ext H H') R:=by
 refine a0d P0e hf (h:=?_)
 intro ρ h0
 by_cases hl:a.length=b.length
 ·simp [K0S,s0B,s0C,y0f,h0,ha.slen,hb.slen,hl]
  refine b0D (fun n ρ G=>ρ 0=v∧ρ 1=w∧ρ 5=.int .i64 (n:Int)∧Ext H G∧a.take n=b.take n) a.length (by decide) (by simp [h0]) ?_
  clear h0 ρ
  rintro n ρ G hn1 ⟨g0,g1,g5,hx,hpre⟩
  have ka:=ha.mono d0A hx
  have kb:=hb.mono d0A hx
  simp [y0g,g0,g5,ka.slen]
  refine c0i.mk (by simp) (fun hlt=>?_) (fun heq=>?_)
  ·have hltb:n < b.length:=by omega
   obtain ⟨wa,hla,k0⟩:=c0R.load ka hlt
   obtain ⟨wb,hlb,k1⟩:=c0R.load kb hltb
   simp
   refine a0Y ?_
   simp [y0h,g0,g1,g5,ka.ia hlt,kb.ia hltb,hla,hlb]
   refine (h0D k0 k1 hx.1 (by have:=hfa _ (R0g hlt);omega)).mono ?_
   rintro _ G2 ⟨rfl,hx2⟩
   (try replace hx:=hx.trans hx2);(try replace k0:=k0.mono hx2);(try replace k1:=k1.mono hx2)
   by_cases he:a[n]=b[n]
   ·simp [he]
    unfold d0l
    simp [y0j,g5,a0D (show n < 4611686018427387904 by omega)]
    refine b0u.mk ⟨by simp [g0],by simp [g1],by simp,hx,?_⟩
    rw [R0l hlt,R0l hltb,hpre,he]
   ·simp [he,y0i]
    exact fun _ h=>he (by subst h;rfl)
  ·subst heq
   rw [Q0Z,hl,Q0Z] at hpre
   simp [y0k]
   exact fun _=>hpre
 ·have hl':¬ ((a.length:Int)=(b.length:Int)):=by omega
  simp [K0S,s0B,s0C,y0e,h0,ha.slen,hb.slen,hl,hl']
  exact fun h=>hl (by rw [h])
theorem Sls.at_ {α:Type} {P:a0c→List Value→α→Prop} {e sz:Nat} {l:List α} (h:Sls P H e sz v l) {j:Nat} (hj:j < l.length) (hs:0 < sz) :
  ∃ b o cs,adr sz v j=.pointer (some ⟨b,o,none⟩)∧cs.length=sz∧P H cs l[j]∧b0y H true sz (.pointer (some ⟨b,o,none⟩))=some (.agg cs.toArray) ∧
   (∀ k n,k + n≤sz→0 < n→b0y H true n (.pointer (some ⟨b,o + k,none⟩))=some (.agg ((cs.drop k).take n).toArray)) ∧
   ∀ k,k < sz→b0y H false 1 (.pointer (some ⟨b,o + k,none⟩))=some (cs.getD k undef):=by
 obtain ⟨cs,⟨hl,h1⟩,h2⟩:=h
 have h3:=h2 j hj
 rcases h1 with ⟨rfl,h1⟩ | ⟨b,off,cap,ro,cells,rfl,hb,ho,rfl⟩
 ·omega
 ·have hj2:(j + 1) * sz≤l.length * sz:=R0h sz hj
  rw [R0o,R0S] at hj2
  have e1:(((cells.drop off).take (l.length * sz)).drop (j * sz)).take sz=(cells.drop (off + j * sz)).take sz:=by
   rw [S0M,S0A,S0i,R0I (by omega)]
  rw [e1] at h3
  have agg:∀ k n,k + n≤sz→0 < n→b0y H true n (.pointer (some ⟨b,off + j * sz + k,none⟩))=some (.agg ((((cells.drop (off + j * sz)).take sz).drop k).take n).toArray):=by
   intro k n hk hn
   have hc:=f0m (off:=off + j * sz + k) (n:=n) hb (by omega)
   simp only [b0y]
   rw [R0c (by omega),R0c (by simp)]
   simp only [R0T,hc]
   rw [S0M,S0A,S0i,R0I (by omega)]
  refine ⟨b,off + j * sz,_,rfl,by simp;omega,h3,?_,agg,?_⟩
  ·have:=agg 0 sz (by omega) hs
   simpa [S0A] using this
  ·intro k hk
   have hc:=f0m (off:=off + j * sz + k) (n:=1) hb (by omega)
   simp only [b0y]
   rw [R0c (by simp),R0c (by simp)]
   simp only [hc,R0p,R0K]
   rw [List.head?_take,R0c (by simp),List.head?_drop,Q0T,S0y,R0k (by omega),S0m]
   rw [R0a (by omega)]
   rfl
def e0D (a:b0B):Bool:=decide (6 < a.1.2.length) || decide (6 < a.2.2.length)
def g0z (e:d0d):Bool:=e0D e.2
theorem i0k {l:List b0B} (h:c0w H v l) (hf:fl≤H.size) (hl:l.length < 1073741824):a0N env fl G0R [v] H (fun r H'=>r=.bool (c0L e0D l)∧Ext H H') R:=by
 refine a0d P0k hf (h:=?_)
 intro ρ h0
 simp [L0M,y0Q,y0R,h0]
 refine b0D (fun n ρ G=>ρ 0=v∧ρ 3=.int .i64 (n:Int)∧Ext H G∧c0L e0D (l.take n)=false) l.length (by decide) (by simp [h0,d0f]) ?_
 clear h0 ρ
 rintro n ρ G hn1 ⟨g0,g3,hx,hpre⟩
 have k:=h.mono g0A hx
 simp [y0S,g0,g3,k.slen]
 refine c0i.mk (by simp) (fun hlt=>?_) (fun heq=>?_)
 ·obtain ⟨b,o,cs,ha,hcl,hp,hall,hagg,hc⟩:=k.at_ hlt (by decide)
  obtain ⟨s,u,hcs,hs,hu⟩:=hp
  have hcs2:cs=[.bool l[n].1.1,s,.bool l[n].2.1,u]:=by simpa using T0f (fun v=>match v with | Value.agg a=>a.toList | _=>[]) hcs
  subst hcs2
  have c1:=hc 1 (by decide)
  have c3:=hc 3 (by decide)
  simp at c1 c3
  have hb:c0L e0D (l.take (n + 1))=e0D l[n]:=by rw [c0j hlt,hpre,S0R]
  have yes:e0D l[n]=true→c0L e0D l=true:=d0g hlt
  by_cases h1:6 < l[n].1.2.length
  ·have h1':(6:Int) < (l[n].1.2.length:Int):=by omega
   simp [o0U,g0,g3,k.ia hlt,ha,c1,c3,hs.slen,hu.slen,h1,h1',u0k]
   exact fun _=>yes (by simp [e0D,h1])
  ·have h1':¬ (6:Int) < (l[n].1.2.length:Int):=by omega
   by_cases h2:6 < l[n].2.2.length
   ·have h2':(6:Int) < (l[n].2.2.length:Int):=by omega
    simp [o0U,g0,g3,k.ia hlt,ha,c1,c3,hs.slen,hu.slen,h1,h1',h2,h2',u0k]
    exact fun _=>yes (by simp [e0D,h2])
   ·have h2':¬ (6:Int) < (l[n].2.2.length:Int):=by omega
    simp [o0U,g0,g3,k.ia hlt,ha,c1,c3,hs.slen,hu.slen,h1,h1',h2,h2']
    unfold d0l
    simp [y0T,g3,a0D (show n < 4611686018427387904 by omega)]
    refine b0u.mk ⟨by simp [g0],by simp,hx,?_⟩
    rw [hb];simp [e0D,h1,h2]
 ·subst heq
  rw [Q0Z] at hpre
  simp [y0U]
  exact fun _=>hpre
theorem v0C {a:b0B} {p:Nat} {ro:Bool} {cs:List Value} (hb:H.blk p=.row ro a0h cs) (h:c0K H (.agg cs.toArray) a):c0w H (.slice (some ⟨p,0,none⟩) 1 1) [a]:=by
 have hl:cs.length=4:=by
  obtain ⟨s,u,hc,_⟩:=h
  have hc':cs=[.bool a.1.1,s,.bool a.2.1,u]:=by simpa using T0f (fun v=>match v with | Value.agg a=>a.toList | _=>[]) hc
  rw [hc'];rfl
 refine ⟨cs,⟨by simp [hl],.inr ⟨p,0,1,ro,cs,rfl,hb,by simp [hl],by simp [← hl]⟩⟩,?_⟩
 intro j hj
 have:j=0:=by simpa using hj
 subst this
 simp only [Nat.zero_mul,S0j,List.getElem_cons_zero]
 rw [← hl,Q0Z]
 exact h
theorem m0u {l:List d0d} (h:c0R H v l) (hf:fl≤H.size):a0N env fl f_7 [v] H (fun r H'=>r=.bool (decide (100 < l.length) || c0L g0z l)∧Ext H H') R:=by
 refine a0d e_7 hf (h:=?_)
 intro ρ h0
 by_cases h1:100 < l.length
 ·have h1':(100:Int) < (l.length:Int):=by omega
  simp [s_7,G0m,G0n,K0s,h0,h.slen,h1,h1']
 have h1':¬ (100:Int) < (l.length:Int):=by omega
 have hl:l.length < 1073741824:=by omega
 simp [s_7,G0m,G0n,K0t,h0,h.slen,h1,h1']
 refine b0D (fun n ρ G=>ρ 0=v∧ρ 3=.int .i64 (n:Int)∧Ext H G∧c0L g0z (l.take n)=false) l.length (by decide) (by simp [h0,d0f]) ?_
 clear h0 ρ
 rintro n ρ G hn1 ⟨g0,g3,hx,hpre⟩
 have k:=h.mono d0A hx
 simp [K0u,g0,g3,k.slen]
 refine c0i.mk (by simp) (fun hlt=>?_) (fun heq=>?_)
 ·obtain ⟨b,o,cs,ha,hcl,hp,hall,hagg,hc⟩:=k.at_ hlt (by decide)
  obtain ⟨s,u,hcs,hs,hu⟩:=hp
  have hcs2:cs=[.int .i64 l[n].1,.bool l[n].2.1.1,s,.bool l[n].2.2.1,u]:=by simpa using T0f (fun v=>match v with | Value.agg a=>a.toList | _=>[]) hcs
  subst hcs2
  have c1:=hagg 1 4 (by decide) (by decide)
  simp at c1
  have hb:c0L g0z (l.take (n + 1))=g0z l[n]:=by rw [c0j hlt,hpre,S0R]
  have yes:g0z l[n]=true→c0L g0z l=true:=d0g hlt
  simp [K0v,g0,g3,k.ia hlt,ha,c1]
  generalize hG:Array.push G _=G1
  obtain ⟨hx2,b0⟩:=e0L hG
  clear hG
  replace hx:=hx.trans hx2
  replace k:=k.mono d0A hx2
  have k0:c0w G1 (.slice (some ⟨G.size,0,none⟩) 1 1) [l[n].2]:=v0C b0 ⟨s,u,rfl,hs.mono hx2,hu.mono hx2⟩
  refine (i0k k0 hx.1 (by simp)).mono ?_
  rintro _ G2 ⟨rfl,hx2⟩
  replace hx:=hx.trans hx2
  have hone:c0L e0D [l[n].2]=g0z l[n]:=by simp [c0L,g0z]
  by_cases h2:g0z l[n]=true
  ·simp [hone,h2,K0w]
   exact fun _=>yes h2
  ·rw [Bool.not_eq_true] at h2
   simp [hone,h2]
   unfold d0l
   simp [K0x,g3,a0D (show n < 4611686018427387904 by omega)]
   refine b0u.mk ⟨by simp [g0],by simp,hx,?_⟩
   rw [hb,h2]
 ·subst heq
  rw [Q0Z] at hpre
  simp [K0y]
  exact fun _=>hpre
end
section
open Go
variable {H:a0c} {v:Value} {m:Nat} {cs:List Value}
theorem i0B {α:Type} {Q:Nat→α→Prop}:∀ n,(∀ i,i < n→∃ x,Q i x)→∃ l:List α,l.length=n∧∀ i (h:i < l.length),Q i l[i]
 | 0,_=>⟨[],rfl,fun i h=>by simp at h⟩
 | n + 1,h=>by
  obtain ⟨l,h1,h2⟩:=i0B n (fun i hi=>h i (by omega))
  obtain ⟨x,hx⟩:=h n (by omega)
  refine ⟨l ++ [x],by simp [h1],fun i hi=>?_⟩
  by_cases h3:i < l.length
  ·rw [S0Y h3];exact h2 i h3
  ·have:i=n:=by simp at hi;omega
   subst this
   rw [S0z (by omega)]
   simpa [h1] using hx
theorem k0t {α:Type} {Pr:Program} {P:a0c→List Value→α→Prop} {t e:TypeId} {sz:Nat} (hu:Pr.underlying t=some (.slice e)) (hc:Pr.cellsOf e=sz)
  (hel:∀ cs,cs.length=sz→IsT Pr H m e cs→∃ x,P H cs x) (h:IsT Pr H (m + 1) t [v]):∃ l,Sls P H e sz v l:=by
 unfold IsT at h
 rw [hu] at h
 rcases h with h | ⟨b,len,cap,cells,h1,h2,h3,h4,h5,h6⟩
 ·have:v=.slice none 0 0:=by simpa using h
  subst this
  exact ⟨[],Sls.nil⟩
 ·have:v=.slice (some ⟨b,0,none⟩) len cap:=by simpa using h1
  subst this
  rw [hc] at h5 h6
  have hj:∀ i,i < len→i * sz + sz≤cells.length:=by
   intro i hi
   have:(i + 1) * sz≤len * sz:=R0h _ hi
   rw [R0o,R0S] at this
   omega
  obtain ⟨l,hl,hk⟩:=i0B (Q:=fun i x=>P H ((cells.drop (i * sz)).take sz) x) len (fun i hi=>hel _ (by have:=hj i hi;simp;omega) (h6 i hi))
  subst hl
  refine ⟨l,cells,⟨h5,.inr ⟨b,0,cap,true,cells,rfl,h4,by omega,?_⟩⟩,hk⟩
  rw [S0j,← h5,Q0Z]
structure h0c (P:Program):Prop where
 u3:P.underlying 3=some (.int .i64)
 u4:P.underlying 4=some .bool
 u103:P.underlying 112=some (.int .u32)
 u28:P.underlying 42=some (.slice 112)
 u30:∃ f g:Field,P.underlying 44=some (.struct #[f,g])∧f.type=4∧g.type=42
 u32:∃ f g:Field,P.underlying 46=some (.struct #[f,g])∧f.type=44∧g.type=44
 u34:∃ f g:Field,P.underlying 48=some (.struct #[f,g])∧f.type=3∧g.type=46
 u37:P.underlying 56=some (.slice 46)
 u27:P.underlying 36=some (.slice 48)
 u23:P.underlying 28=some (.slice 56)
 u25:∃ f:Field,P.underlying 30=some (.struct #[f])∧f.type=28
 c103:P.cellsOf 112=1
 c37:P.cellsOf 56=1
 c32:P.cellsOf 46=4
 c34:P.cellsOf 48=5
variable {P:Program}
theorem O0J (hP:h0c P) (h:IsT P H (m + 2) 42 [v]):∃ l,Lim H v l:=by
 obtain ⟨l,h⟩:=k0t (P:=fun _ cs (x:Nat)=>cs=[.int .u32 (x:Nat)]∧x < 4294967296) (sz:=1) hP.u28 hP.c103 (fun cs _ h=>by
  unfold IsT at h
  rw [hP.u103] at h
  obtain ⟨n,rfl,hn⟩:=h
  simp only [Lit.wf,R0f,R0E] at hn
  have h0:0≤n:=hn.1
  have h1:n≤4294967295:=hn.2
  exact ⟨n.toNat,by rw [S0J h0],by omega⟩) h
 obtain ⟨cs,h1,h2⟩:=h
 refine ⟨l,?_,fun x hx=>?_⟩
 ·have:cs=b0r l:=by
   apply List.ext_getElem
   ·have:=h1.1;simp [b0r];omega
   ·intro i h3 h4
    have h5:i < l.length:=by simpa using h4
    have h6:=(h2 i h5).1
    rw [R0O,R0L h3,List.take_succ_cons] at h6
    have h7:=(List.cons.inj h6).1
    rw [h7];simp [b0r]
  rw [← this];exact h1
 ·obtain ⟨i,hi,rfl⟩:=S0X hx
  exact (h2 i hi).2
theorem I0O (hP:h0c P) (h:IsT P H (m + 1) 4 cs):∃ b,cs=[.bool b]:=by
 unfold IsT at h
 rw [hP.u4] at h;exact h
theorem g0d (hP:h0c P) (h:IsT P H (m + 1) 3 cs):∃ n,cs=[.int .i64 n]:=by
 unfold IsT at h
 rw [hP.u3] at h
 obtain ⟨n,h,_⟩:=h;exact ⟨n,h⟩
theorem O0K (hP:h0c P) (h:IsT P H (m + 1) 42 cs):∃ v,cs=[v]:=by
 unfold IsT at h
 rw [hP.u28] at h
 rcases h with h | ⟨b,len,cap,cells,h,_⟩ <;> exact ⟨_,h⟩
theorem w0H (hP:h0c P) (h:IsT P H (m + 3) 44 cs):∃ b s l,cs=[.bool b,s]∧Lim H s l:=by
 obtain ⟨f,g,hu,h1,h2⟩:=hP.u30
 unfold IsT at h
 rw [hu] at h
 obtain ⟨parts,rfl,hl,hp⟩:=h
 obtain ⟨p,q,rfl⟩:∃ p q,parts=[p,q]:=by
  match parts,hl with
  | [p,q],_=>exact ⟨p,q,rfl⟩
 obtain ⟨b,rfl⟩:=I0O hP (by simpa [h1] using hp 0 _ rfl)
 have h1':IsT P H (m + 2) 42 q:=by simpa [h2] using hp 1 _ rfl
 obtain ⟨s,rfl⟩:=O0K hP h1'
 obtain ⟨l,hl⟩:=O0J hP h1'
 exact ⟨b,s,l,rfl,hl⟩
theorem I0R (hP:h0c P) (h:IsT P H (m + 4) 46 cs):∃ a,c0K H (.agg cs.toArray) a:=by
 obtain ⟨f,g,hu,h1,h2⟩:=hP.u32
 unfold IsT at h
 rw [hu] at h
 obtain ⟨parts,rfl,hl,hp⟩:=h
 obtain ⟨p,q,rfl⟩:∃ p q,parts=[p,q]:=by
  match parts,hl with
  | [p,q],_=>exact ⟨p,q,rfl⟩
 obtain ⟨b,s,l,rfl,hs⟩:=w0H hP (by simpa [h1] using hp 0 _ rfl)
 obtain ⟨c,u,k,rfl,hu⟩:=w0H hP (by simpa [h2] using hp 1 _ rfl)
 exact ⟨((b,l),(c,k)),s,u,rfl,hs,hu⟩
theorem O0I (hP:h0c P) (h:IsT P H (m + 5) 48 cs):∃ e,g0q H (.agg cs.toArray) e:=by
 obtain ⟨f,g,hu,h1,h2⟩:=hP.u34
 unfold IsT at h
 rw [hu] at h
 obtain ⟨parts,rfl,hl,hp⟩:=h
 obtain ⟨p,q,rfl⟩:∃ p q,parts=[p,q]:=by
  match parts,hl with
  | [p,q],_=>exact ⟨p,q,rfl⟩
 obtain ⟨n,rfl⟩:=g0d hP (by simpa [h1] using hp 0 _ rfl)
 obtain ⟨a,s,u,hc,hs,hu⟩:=I0R hP (by simpa [h2] using hp 1 _ rfl)
 have hc2:q=[.bool a.1.1,s,.bool a.2.1,u]:=by simpa using T0f (fun v=>match v with | Value.agg a=>a.toList | _=>[]) hc
 subst hc2
 exact ⟨(n,a),s,u,rfl,hs,hu⟩
theorem I0S (hP:h0c P) (h:IsT P H (m + 5) 56 [v]):∃ l,c0w H v l:=k0t hP.u37 hP.c32 (fun _ _ h=>I0R hP h) h
theorem I0P (hP:h0c P) (h:IsT P H (m + 6) 36 [v]):∃ l,c0R H v l:=k0t hP.u27 hP.c34 (fun _ _ h=>O0I hP h) h
theorem I0T (hP:h0c P) (h:IsT P H (m + 6) 28 [v]):∃ l,f0v H v l:=k0t hP.u23 hP.c37 (fun cs hc h=>by
 obtain ⟨w,rfl⟩:∃ w,cs=[w]:=by
  match cs,hc with
  | [w],_=>exact ⟨w,rfl⟩
 obtain ⟨l,hl⟩:=I0S hP h
 exact ⟨l,w,rfl,hl⟩) h
theorem w0l (hP:h0c P) (h:IsV P H (m + 7) 30 v):∃ rows,c0C H v rows:=by
 obtain ⟨f,hu,h1⟩:=hP.u25
 unfold IsV at h;rw [hu] at h
 obtain ⟨cs,rfl,h⟩:=h
 unfold IsT at h
 rw [hu] at h
 obtain ⟨parts,hc,hl,hp⟩:=h
 obtain ⟨p,rfl⟩:∃ p,parts=[p]:=by
  match parts,hl with
  | [p],_=>exact ⟨p,rfl⟩
 have h1':IsT P H (m + 6) 28 p:=by simpa [h1] using hp 0 _ rfl
 obtain ⟨s,rfl⟩:∃ s,p=[s]:=by
  unfold IsT at h1'
  rw [hP.u23] at h1'
  rcases h1' with h | ⟨b,len,cap,cells,h,_⟩ <;> exact ⟨_,h⟩
 obtain ⟨l,hl⟩:=I0T hP h1'
 have:cs = #[s]:=by rw [← Array.toList_inj];simpa using hc
 exact ⟨l,s,by rw [this],hl⟩
theorem Sls.first {α:Type} {P:a0c→List Value→α→Prop} {e sz:Nat} {l:List α} (h:Sls P H e sz v l) {n:Nat} (hn:n≤l.length) {k:IntKind} :
  ∃ v',c0D sz v none (some (.int k n)) none=some v'∧Sls P H e sz v' (l.take n)∧elemOk H e v=true:=by
 obtain ⟨cs,h1,h2⟩:=h
 obtain ⟨v',h3,h4⟩:=h1.slice (lo:=0) (hi:=n) (x:=none) (y:=some (.int k n)) (R0H _) hn rfl (by simp [bnd])
 refine ⟨v',h3,⟨_,by rw [S0c,R0I hn];simpa using h4,?_⟩,h1.elemOk (Ext.refl _)⟩
 intro j hj
 have hj2:j < n:=by simp at hj;omega
 have hj3:(j + 1) * sz≤n * sz:=R0h _ hj2
 rw [R0o,R0S] at hj3
 have:=h2 j (by omega)
 simp only [List.getElem_take,T0h,Nat.zero_mul,S0j]
 rw [S0M,S0A,R0I (by omega)]
 exact this
theorem types:h0c Tryz.prog where
 u3:=Tryz.underlying3
 u4:=by kernel_rfl
 u103:=Tryz.underlying112
 u28:=Tryz.underlying42
 u30:=⟨_,_,Tryz.underlying44,rfl,rfl⟩
 u32:=⟨_,_,Tryz.underlying46,rfl,rfl⟩
 u34:=⟨_,_,Tryz.underlying48,rfl,rfl⟩
 u37:=Tryz.underlying56
 u27:=Tryz.underlying36
 u23:=Tryz.underlying28
 u25:=⟨_,Tryz.underlying30,rfl⟩
 c103:=by kernel_rfl
 c37:=by kernel_rfl
 c32:=by kernel_rfl
 c34:=by kernel_rfl
end
section
open Go
variable {e f g:d0d}
variable {a b c:List d0d}
theorem I0L (h:c0L g0z a=false):v0U a:=by
 intro x hx
 have:g0z x=false:=by
  cases hl:g0z x with
  | false=>rfl
  | true=>exact R0q (List.any_eq_true.2 ⟨x,hx,hl⟩) (by unfold c0L at h;rw [h];decide)
 unfold g0z e0D at this
 simp at this
 unfold e0g;omega
end
section
open Go
set_option maxHeartbeats 4000000
def f0u (E:Env) (fl nt tc b b2:Nat) (body:SCode) (rx:List a0w) (Z:a0Q→a0c→Prop) (Q:c0S) (R:a0E) (n i:Nat) (Inv:Nat→(Nat→Value)→a0c→Prop) (t:a0Q) (H:a0c):Prop :=
 ∃ ρ' c,t=T nt ρ'∧ρ' tc=.bool c∧(c=true→i < n∧W E fl body (T nt ρ') H (q0c b2 b (d0l E fl nt rx R i Inv) Z Q) R)∧(c=false→Z (T nt ρ') H)
section
variable {E:Env} {fl nt tc b b2 n i:Nat} {body:SCode} {rx rc:List a0w} {Z:a0Q→a0c→Prop} {Q:c0S} {R:a0E} {Inv:Nat→(Nat→Value)→a0c→Prop} {ρ:Nat→Value} {H:a0c}
theorem f0u.mk (c:Bool) (h1:ρ tc=.bool c) (h2:c=true→i < n∧W E fl body (T nt ρ) H (q0c b2 b (d0l E fl nt rx R i Inv) Z Q) R) (h3:c=false→Z (T nt ρ) H):f0u E fl nt tc b b2 body rx Z Q R n i Inv (T nt ρ) H:=⟨ρ,c,rfl,h1,h2,h3⟩
theorem o0e (Inv:Nat→(Nat→Value)→a0c→Prop) (n:Nat) (htc:tc < nt) (hI:Inv 0 ρ H)
  (step:∀ i ρ G,i≤n→Inv i ρ G→WR E fl rc (T nt ρ) G (f0u E fl nt tc b b2 body rx Z Q R n i Inv) R) :
  W E fl (.loop (.seq (.seq (.reg rc) (.cond (.tmp tc) .skip (.exit b))) (.seq (.block b2 body) (.reg rx)))) (T nt ρ) H (d0w b (f0L Z Q)) R:=by
 refine b0A (fun k t G=>∃ i ρ,i + k=n∧t=T nt ρ∧Inv i ρ G) Z n ⟨0,ρ,by omega,rfl,hI⟩ ?_ (fun _ _ h=>h)
 clear hI
 rintro k t G ⟨i,ρ,hik,rfl,hI⟩
 refine e0c (e0c (i0q ((step i ρ G (by omega) hI).mono ?_)))
 rintro t' G' ⟨ρ',c,rfl,h1,h2,h3⟩
 simp only [d0a]
 cases c with
 | true =>
  obtain ⟨hi,h2⟩:=h2 rfl
  refine i0p true (by rw [h0G,b0o htc,h1]) (fun _=>o0d ?_) (by simp)
  simp only [d0a]
  refine e0c (k0j (h2.mono fun e t2 G2 hq=>?_))
  have fin:d0l E fl nt rx R i Inv t2 G2→f0L (fun t' H'=>W E fl (.reg rx) t' H' (k0v b (fun t' H'=>∃ k',k' < k∧∃ i ρ,i + k' = n∧t' = T nt ρ∧Inv i ρ H') Z Q) R) (k0v b (fun t' H'=>∃ k',k' < k∧∃ i ρ,i + k' = n∧t' = T nt ρ∧Inv i ρ H') Z Q) .normal t2 G2:=by
   intro h
   refine i0q (h.mono ?_)
   rintro t3 G3 ⟨ρ3,rfl,h4⟩
   exact ⟨k - 1,by omega,i + 1,ρ3,by omega,rfl,h4⟩
  cases e with
  | normal=>exact fin hq
  | exit j =>
   simp only [q0c] at hq
   show (if j=b2 then _ else _)
   by_cases hj:j=b2
   ·rw [R0k hj] at hq ⊢;exact fin hq
   ·rw [R0c hj] at hq ⊢
    show (if j=b then _ else _)
    by_cases hj2:j=b
    ·rw [R0k hj2] at hq ⊢;exact hq
    ·rw [R0c hj2] at hq ⊢;exact hq
  | ret=>exact hq
 | false =>
  refine i0p false (by rw [h0G,b0o htc,h1]) (by simp) (fun _=>o0c ?_)
  show (if b=b then _ else _)
  rw [R0k rfl]
  exact h3 rfl
end
variable {fl:Nat} {H G:a0c} {R:a0E} {v w:Value}
def c0Y:List (List b0B)→Nat
 | []=>0
 | r :: l=>c0Y l + (1 + min r.length 201)
theorem p0O (l:List (List b0B)) (r:List b0B):c0Y (l ++ [r])=c0Y l + (1 + min r.length 201):=by
 induction l with
 | nil=>simp [c0Y]
 | cons x l ih=>simp only [List.cons_append,c0Y,ih];omega
theorem p0P {l:List (List b0B)} {i:Nat} (h:i < l.length):c0Y (l.take (i + 1))=c0Y (l.take i) + (1 + min l[i].length 201):=by
 rw [R0l h,p0O]
def j0x (r:List b0B):Bool:=decide (r.length≤200) && c0L e0D r
theorem o0o (l:List (List b0B)):l.length≤c0Y l:=by
 induction l with
 | nil=>simp [c0Y]
 | cons x l ih=>simp only [R0Y,c0Y];omega
theorem r0a {l:List (List b0B)} {r:List b0B} (h:r ∈ l):min r.length 201 < c0Y l:=by
 induction l with
 | nil=>simp at h
 | cons x l ih =>
  simp only [c0Y]
  rcases List.mem_cons.1 h with rfl | h
  ·omega
  ·have:=ih h;omega
def F0K (l:List (List b0B)):Prop:=l.length≤200∧∀ r ∈ l,r.length≤200∧c0L e0D r=false
theorem F0L {l:List (List b0B)} (h:c0Y l≤200) (k:c0L j0x l=false):F0K l:=by
 refine ⟨R0z (o0o l) h,fun r hr=>?_⟩
 have h1:=r0a hr
 have h2:r.length≤200:=by omega
 refine ⟨h2,?_⟩
 cases ha:c0L e0D r with
 | false=>rfl
 | true=>exact R0q (List.any_eq_true.2 ⟨r,hr,show j0x r=true by unfold j0x;rw [ha];simp [h2]⟩) (by unfold c0L at k;rw [k];decide)
theorem m0v {l:List (List b0B)} (h:f0v H v l) (hf:fl≤H.size):a0N env fl f_5 [v] H (fun r H'=>(∃ c,r=.bool c∧(c=false→F0K l))∧Ext H H') R:=by
 refine a0d e_5 hf (h:=?_)
 intro ρ h0
 simp [s_5,J0Q,J0R,J0S,h0]
 refine o0e (fun n ρ G=>ρ 0=v∧ρ 4=.int .i64 (n:Int)∧ρ 3=.int .i64 ((c0Y (l.take n):Nat):Int)∧c0Y (l.take n)≤402∧n≤403∧Ext H G∧c0L j0x (l.take n)=false) l.length (by decide) (by simp [h0,d0f,c0Y]) ?_
 clear h0 ρ
 rintro n ρ G hn1 ⟨g0,g4,g3,hb,hn2,hx,hpre⟩
 have k:=h.mono b0H hx
 have hn3:n≤c0Y (l.take n):=by have:=o0o (l.take n);rw [S0c] at this;omega
 by_cases hlt:n < l.length
 ·have hlt':(n:Int) < (l.length:Int):=by omega
  by_cases h2:c0Y (l.take n)≤200
  ·have h2':((c0Y (l.take n):Nat):Int)≤200:=by omega
   simp [w0X,g0,g4,g3,k.slen,hlt,h2,h2']
   refine f0u.mk true (by simp [h2']) (fun _=>⟨hlt,?_⟩) (by simp)
   obtain ⟨w,hlw,kr⟩:=f0v.load k hlt
   have hmn:m0G false (.int .i64 (l[n].length:Int)) [.int .i64 201]=some (.int .i64 ((min l[n].length 201:Nat):Int)):=by
    simp only [m0G,mn2,R0p,R0K,Q0V,Value.int.injEq,true_and]
    split <;> omega
   have hw1:IntKind.i64.wrap (((c0Y (l.take n):Nat):Int) + 1)=((c0Y (l.take n) + 1:Nat):Int):=a0D (by omega)
   have hs:=p0P hlt
   have hw2:IntKind.i64.wrap (((c0Y (l.take n) + 1:Nat):Int) + ((min l[n].length 201:Nat):Int))=((c0Y (l.take (n + 1)):Nat):Int):=by
    rw [a0S (by omega) (by omega),hs];omega
   simp only [Int.natCast_add,Int.cast_ofNat_Int] at hw1 hw2
   simp [J0T,g0,g4,g3,k.ia hlt,hlw,kr.slen,hmn]
   simp [hw1]
   rw [hw2]
   have hyes:j0x l[n]=true→c0L j0x l=true:=d0g hlt
   have hb1:c0L j0x (l.take (n + 1))=j0x l[n]:=by rw [c0j hlt,hpre,S0R]
   have hwn:=a0D (show n < 4611686018427387904 by omega)
   by_cases hl2:l[n].length≤200
   ·have hl2':(l[n].length:Int)≤200:=by omega
    simp [G0h,g0,g4,k.ia hlt,hlw,kr.slen,hl2,hl2']
    refine (i0k kr hx.1 (by omega)).mono ?_
    rintro _ G2 ⟨rfl,hx2⟩
    replace hx:=hx.trans hx2
    cases hlo:c0L e0D l[n] with
    | true=>simp [J0U]
    | false =>
     simp
     unfold d0l
     simp [G0i,g4,hwn]
     refine b0u.mk ⟨by simp [g0],by simp,by simp,by omega,by omega,hx,?_⟩
     rw [hb1];unfold j0x;simp [hlo]
   ·have hl2':¬ (l[n].length:Int)≤200:=by omega
    simp [G0h,g0,g4,k.ia hlt,hlw,kr.slen,hl2,hl2']
    unfold d0l
    simp [G0i,g4,hwn]
    refine b0u.mk ⟨by simp [g0],by simp,by simp,by omega,by omega,hx,?_⟩
    rw [hb1];unfold j0x;simp [hl2]
  ·have h2':¬ ((c0Y (l.take n):Nat):Int)≤200:=by omega
   simp [w0X,g0,g4,g3,k.slen,hlt,h2,h2']
   refine f0u.mk false (by simp [h2']) (by simp) (fun _=>?_)
   have h3:(200:Int) < ((c0Y (l.take n):Nat):Int):=by omega
   simp [G0j,g3,h3]
 ·have he:n=l.length:=by omega
  subst he
  simp [w0X,g0,g4,g3,k.slen]
  refine f0u.mk false (by simp) (by simp) (fun _=>?_)
  rw [Q0Z] at hpre g3
  simp [G0j,g3]
  intro _
  by_cases h3:c0Y l≤200
  ·exact .inl ⟨by omega,F0L h3 hpre⟩
  ·exact .inr (by omega)
end
section
open Go
structure h0P where
 X:List (Bool × List Nat)
 W:List (Bool × List Nat)
 K:Bool × List Nat
structure p0j where
 m:Int
 guards:List h0P
 set:List h0P
def O0Q (l:List (Bool × List Nat)):Prop:=∀ x ∈ l,x.2.length≤40∧a0U x.2
def O0W (a:h0P):Prop:=O0Q a.X∧O0Q a.W∧a.K.2.length≤40∧a0U a.K.2
end
section
open Go
set_option maxHeartbeats 1000000
variable {fl:Nat} {H G:a0c} {R:a0E} {v w u:Value}
def PIr (H:a0c) (cs:List Value) (x:Bool × List Nat):Prop:=b0j H (.agg cs.toArray) x
theorem d0b:j0t PIr:=fun _ _ _ _ hx h=>b0j.mono h hx
abbrev e0a (H:a0c) (v:Value) (l:List (Bool × List Nat)):Prop:=Sls PIr H a0a 2 v l
theorem e0a.load {l:List (Bool × List Nat)} (h:e0a H v l) {j:Nat} (hj:j < l.length):∃ s,b0y H true 2 (adr 2 v j)=some (.agg #[.bool l[j].1,s])∧Lim H s l[j].2:=by
 obtain ⟨cs,h1,_,s,h3,h4⟩:=Sls.load h hj (by omega)
 exact ⟨s,by rw [h1,h3],h4⟩
theorem e0a.lim {l:List (Bool × List Nat)} (h:e0a H v l):∀ x ∈ l,a0U x.2:=fun x hx=>by
 obtain ⟨i,hi,rfl⟩:=S0X hx
 obtain ⟨s,_,k⟩:=e0a.load h hi
 exact k.ok
def v0T (H:a0c) (v:Value) (a:h0P):Prop:=∃ sX sW s,v=.agg #[sX,sW,.bool a.K.1,s]∧e0a H sX a.X∧e0a H sW a.W∧Lim H s a.K.2
theorem v0T.mono {a:h0P} (h:v0T H v a) (hx:Ext H G):v0T G v a:=by
 obtain ⟨sX,sW,s,h1,h2,h3,h4⟩:=h;exact ⟨sX,sW,s,h1,h2.mono d0b hx,h3.mono d0b hx,h4.mono hx⟩
def PAf (H:a0c) (cs:List Value) (a:h0P):Prop:=v0T H (.agg cs.toArray) a
theorem a0X:j0t PAf:=fun _ _ _ _ hx h=>v0T.mono h hx
abbrev f0W (H:a0c) (v:Value) (l:List h0P):Prop:=Sls PAf H i0n 4 v l
theorem f0W.load {l:List h0P} (h:f0W H v l) {j:Nat} (hj:j < l.length):∃ w,b0y H true 4 (adr 4 v j)=some w∧v0T H w l[j]:=by
 obtain ⟨cs,h1,_,h3⟩:=Sls.load h hj (by omega);exact ⟨_,h1,h3⟩
def E0V (H:a0c) (v:Value) (e:p0j):Prop:=∃ (f t:Int) (sG sS sP:Value),v=.agg #[.int .i64 f,.int .i64 t,.int .i64 e.m,sG,sS,sP]∧f0W H sG e.guards∧f0W H sS e.set∧a0M sP=[sP]∧a0B sP=true
theorem E0V.mono {e:p0j} (h:E0V H v e) (hx:Ext H G):E0V G v e:=by
 obtain ⟨f,t,sG,sS,sP,h1,h2,h3,h4,h5⟩:=h;exact ⟨f,t,sG,sS,sP,h1,h2.mono a0X hx,h3.mono a0X hx,h4,h5⟩
end
section
open Go
set_option maxHeartbeats 4000000
variable {fl:Nat} {H G:a0c} {R:a0E} {v w u:Value}
theorem Sls.atX {α:Type} {P:a0c→List Value→α→Prop} {e sz:Nat} {l:List α} (h:Sls P H e sz v l) {j:Nat} (hj:j < l.length) (hs:0 < sz) :
  ∃ b o cs,adr sz v j=.pointer (some ⟨b,o,none⟩)∧cs.length=sz∧P H cs l[j] ∧
   ∀ G,Ext H G→(∀ k n,k + n≤sz→0 < n→rdn (a0c.blk G b) (o + k) n=some (.agg ((cs.drop k).take n).toArray))∧∀ k,k < sz→rd (a0c.blk G b) (o + k)=some (cs.getD k undef):=by
 obtain ⟨cs,⟨hl,h1⟩,h2⟩:=h
 have h3:=h2 j hj
 rcases h1 with ⟨rfl,h1⟩ | ⟨b,off,cap,ro,cells,rfl,hb,ho,rfl⟩
 ·omega
 ·have hj2:(j + 1) * sz≤l.length * sz:=R0h sz hj
  rw [R0o,R0S] at hj2
  have e1:(((cells.drop off).take (l.length * sz)).drop (j * sz)).take sz=(cells.drop (off + j * sz)).take sz:=by
   rw [S0M,S0A,S0i,R0I (by omega)]
  rw [e1] at h3
  refine ⟨b,off + j * sz,_,rfl,by simp;omega,h3,fun G hx=>⟨fun k n hk hn=>?_,fun k hk=>?_⟩⟩
  ·rw [hx.blk hb,G0o,R0k (by omega),S0M,S0A,S0i,R0I (by omega)]
  ·rw [hx.blk hb,K0P,Q0T,S0y,R0k (by omega),S0m,R0a (by omega)];rfl
def N0l (l:List (Bool × List Nat)):Prop:=∀ x ∈ l,x.2.length≤40
theorem f0Z {l:List (Bool × List Nat)} (h:e0a H v l) (hf:fl≤H.size) (hl:l.length < 1073741824):a0N env fl F0z [v] H (fun r H'=>(∃ c,r=.bool c∧(c=false→N0l l))∧Ext H H') R:=by
 refine a0d P0D hf (h:=?_)
 intro ρ h0
 simp [M0f,A0o,A0p,h0]
 refine b0D (fun n ρ G=>ρ 0=v∧ρ 3=.int .i64 (n:Int)∧G=H∧N0l (l.take n)) l.length (by decide) (by simp [h0,N0l]) ?_
 clear h0 ρ
 rintro n ρ G hn1 ⟨g0,g3,rfl,hpre⟩
 simp [A0q,g0,g3,h.slen]
 refine c0i.mk (by simp) (fun hlt=>?_) (fun heq=>?_)
 ·obtain ⟨b,o,cs,ha,hcl,⟨s,hcs,hs⟩,hat⟩:=h.atX hlt (by decide)
  have hcs2:cs=[.bool l[n].1,s]:=by simpa using T0f (fun v=>match v with | Value.agg a=>a.toList | _=>[]) hcs
  subst hcs2
  have c1:=(hat _ (Ext.refl _)).2 1 (by decide)
  simp at c1
  by_cases h1:40 < l[n].2.length
  ·have h1':(40:Int) < (l[n].2.length:Int):=by omega
   simp [u0I,g0,g3,h.ia hlt,ha,c1,hs.slen,h1,h1',A0r]
  ·have h1':¬ (40:Int) < (l[n].2.length:Int):=by omega
   simp [u0I,g0,g3,h.ia hlt,ha,c1,hs.slen,h1,h1']
   unfold d0l
   simp [A0s,g3,a0D (show n < 4611686018427387904 by omega)]
   refine b0u.mk ⟨by simp [g0],by simp,rfl,fun x hx=>?_⟩
   rw [R0l hlt] at hx
   rcases R0v.1 hx with hx | hx
   ·exact hpre x hx
   ·rw [R0U.1 hx];omega
 ·subst heq
  rw [Q0Z] at hpre
  simp [A0t]
  exact hpre
theorem w0G {a:Bool × List Nat} {p c:Nat} {ro:Bool} {s:Value} (hb:H.blk p=.row ro a0a [.bool a.1,s]) (h:Lim H s a.2):e0a H (.slice (some ⟨p,0,none⟩) 1 c) [a]:=by
 refine ⟨[.bool a.1,s],⟨rfl,.inr ⟨p,0,c,ro,_,rfl,hb,by simp,by simp⟩⟩,fun j hj=>?_⟩
 have:j=0:=by simpa using hj
 subst this
 exact ⟨s,rfl,h⟩
def l0L (a:h0P):Prop:=O0W a∧a.X.length≤60∧a.W.length≤60
theorem i0w {l:List h0P} (h:f0W H v l) (hf:fl≤H.size) (hl:l.length < 1073741824):a0N env fl F0y [v] H (fun r H'=>(∃ c,r=.bool c∧(c=false→∀ a ∈ l,l0L a))∧Ext H H') R:=by
 refine a0d P0j hf (h:=?_)
 intro ρ h0
 simp [L0L,y0L,y0M,h0]
 refine b0D (fun n ρ G=>ρ 0=v∧ρ 3=.int .i64 (n:Int)∧Ext H G∧∀ a ∈ l.take n,l0L a) l.length (by decide) (by simp [h0]) ?_
 clear h0 ρ
 rintro n ρ G hn1 ⟨g0,g3,hx,hpre⟩
 have k:=h.mono a0X hx
 simp [y0N,g0,g3,k.slen]
 refine c0i.mk (by simp) (fun hlt=>?_) (fun heq=>?_)
 ·obtain ⟨b,o,cs,ha,hcl,⟨sX,sW,s,hcs,kX,kW,kK⟩,hat⟩:=k.atX hlt (by decide)
  have hcs2:cs=[sX,sW,.bool l[n].K.1,s]:=by simpa using T0f (fun v=>match v with | Value.agg a=>a.toList | _=>[]) hcs
  subst hcs2
  have c0:=(hat _ (Ext.refl _)).2 0 (by decide)
  have c1:=(hat _ (Ext.refl _)).2 1 (by decide)
  have c2:=(hat _ (Ext.refl _)).1 2 2 (by decide) (by decide)
  simp at c0 c1 c2
  by_cases h1:60 < l[n].X.length
  ·have h1':(60:Int) < (l[n].X.length:Int):=by omega
   simp [o0T,g0,g3,k.ia hlt,ha,c0,kX.slen,h1,h1',j0Y]
  have h1':¬ (60:Int) < (l[n].X.length:Int):=by omega
  by_cases h2:60 < l[n].W.length
  ·have h2':(60:Int) < (l[n].W.length:Int):=by omega
   simp [o0T,g0,g3,k.ia hlt,ha,c0,c1,kX.slen,kW.slen,h1,h1',h2,h2',j0Y]
  have h2':¬ (60:Int) < (l[n].W.length:Int):=by omega
  simp [o0T,g0,g3,k.ia hlt,ha,c0,c1,c2,kX.slen,kW.slen,h1,h1',h2,h2']
  generalize hGG:Array.push G _=G1
  obtain ⟨hx2,b0⟩:=e0L hGG
  clear hGG
  refine (f0Z (w0G b0 (kK.mono hx2)) (by have:=hx.1;have:=hx2.1;omega) (by simp)).mono ?_
  rintro _ G2 ⟨⟨c,rfl,hc1⟩,hx3⟩
  replace hx2:=hx2.trans hx3
  cases c
  case true=>simp [j0Y]
  have d0:=(hat _ hx2).2 0 (by decide)
  simp at d0
  simp [g0,g3,k.ia hlt,ha,d0]
  refine (f0Z (kX.mono d0b hx2) (by have:=hx.1;have:=hx2.1;omega) (by omega)).mono ?_
  rintro _ G3 ⟨⟨c,rfl,hc2⟩,hx3⟩
  replace hx2:=hx2.trans hx3
  cases c
  case true=>simp [j0Y]
  have d1:=(hat _ hx2).2 1 (by decide)
  simp at d1
  simp [g0,g3,k.ia hlt,ha,d1]
  refine (f0Z (kW.mono d0b hx2) (by have:=hx.1;have:=hx2.1;omega) (by omega)).mono ?_
  rintro _ G4 ⟨⟨c,rfl,hc3⟩,hx3⟩
  replace hx2:=hx2.trans hx3
  cases c
  case true=>simp [j0Y]
  simp
  unfold d0l
  simp [y0O,g3,a0D (show n < 4611686018427387904 by omega)]
  refine b0u.mk ⟨by simp [g0],by simp,hx.trans hx2,fun x hx=>?_⟩
  rw [R0l hlt] at hx
  rcases R0v.1 hx with hx | hx
  ·exact hpre x hx
  ·rw [R0U.1 hx]
   have hK:=hc1 rfl _ (R0U.2 rfl)
   exact ⟨⟨fun x hx=>⟨hc2 rfl x hx,kX.lim x hx⟩,fun x hx=>⟨hc3 rfl x hx,kW.lim x hx⟩,hK,kK.ok⟩,by omega,by omega⟩
 ·subst heq
  rw [Q0Z] at hpre
  simp [y0P]
  exact fun _=>hpre
def j0Q (e:p0j):Prop:=(∀ a ∈ e.set,l0L a)∧(∀ a ∈ e.guards,l0L a)∧e.guards.length≤100∧e.set.length≤20
end
section
open Go
set_option maxHeartbeats 4000000
@[simp] theorem G0G {w:Bool}:p0X w undef=false:=nr rfl
variable {fl:Nat} {H G:a0c} {R:a0E} {v w:Value} {l:List Nat} {i:Bool × List Nat}
def newB (H:a0c) (r:Value):Prop:=∀ q,slB r=some q→H.size≤q
theorem Own.newB {e sz n:Nat} {cs:List Value} (h:Own H.size G e sz v n cs):AI.newB H v:=by
 obtain ⟨_,⟨rfl,_⟩ | ⟨b,cap,rfl,_,hb⟩⟩:=h
 ·intro q hq;cases hq
 ·intro q hq
  simp only [slB,Q0V] at hq
  omega
theorem newB.of {u:Value} (h:newB H v) (he:slB u=slB v):newB H u:=fun q hq=>h q (by rw [← he];exact hq)
theorem newB.ne {p:Nat} (h:newB H v) (hp:p < H.size):slB v ≠ some p:=fun he=>by have:=h p he;omega
theorem v0O {x y z:Option Value} {n:Nat} {u:Value} (h:c0D n v x y z=some u):slB u=slB v:=by
 unfold c0D at h
 split at h
 ·rename_i p len cap
  split at h
  ·split at h
   ·split at h
    ·simp only [Q0V] at h
     subst h
     cases p <;> rfl
    ·split at h
     ·split at h
      ·simp only [Q0V] at h
       subst h
       cases p <;> rfl
      ·cases h
     ·cases h
   ·cases h
  ·cases h
 ·cases h
theorem d0i (h:Lim H v l) (hf:fl≤H.size) (hn:l.length < 4611686018427387904):a0N env fl i0D [v] H (fun r H'=>(Lim H' r (c0t l)∧slB r=slB v)∧Ext H H') R:=by
 refine a0d O0j hf (h:=?_)
 intro ρ h0
 simp [x0l,s0v,s0w,h0,h.slen]
 refine b0A (fun k t G=>G=H∧t.length=21∧get t 0=v∧get t 3=.int .i64 k∧k≤l.length∧c0t (l.take k)=c0t l)
  (fun t G=>∃ k:Nat,G=H∧t.length=21∧get t 0=v∧get t 3=.int .i64 k∧k≤l.length∧c0t l=l.take k) l.length (by simp [h0]) ?_ ?_
 ·rintro k t G ⟨rfl,ht,g0,g3,hk,htr⟩
  obtain ⟨ρ,rfl⟩:=toT ht
  simp only [b0o,Nat.reduceLT] at g0 g3
  by_cases hk0:k=0
  ·subst hk0
   simp [n0k,g0,g3]
   exact ⟨0,by simp,by simp,by rw [← htr];rfl⟩
  ·have hp:0 < k:=by omega
   have w1:IntKind.i64.wrap ((k:Int) - 1)=((k - 1:Nat):Int):=by rw [a0S (by omega) (by omega)];omega
   simp [n0k,s0x,g0,g3,hp,w1,h.ia (show k - 1 < l.length by omega),h.load (show k - 1 < l.length by omega)]
   have hk1:l.take k=l.take (k - 1) ++ [l.getD (k - 1) 0]:=by rw [← c0Q (by omega)];congr 1;omega
   rw [Q0T] at hk1
   refine ⟨fun hz=>⟨k - 1,by omega,rfl,by omega,?_⟩,fun hz=>⟨k,rfl,hk,?_⟩⟩
   ·rw [← htr,hk1,hz,j0m]
   ·rw [← htr,hk1,h0x hz]
 ·rintro t G ⟨k,rfl,ht,g0,g3,hk,htr⟩
  obtain ⟨ρ,rfl⟩:=toT ht
  simp only [b0o,Nat.reduceLT] at g0 g3
  obtain ⟨v',h1,h2⟩:=h.take hk (x:=none) rfl (y:=some (.int .i64 (k:Int))) (by simp)
  simp [s0y,g0,g3,h.elemOk,h1]
  rw [htr];exact ⟨h2,v0O h1⟩
theorem d0F (h:Lim H v l) (hf:fl≤H.size) (hn:l.length < 4611686018427387904):a0N env fl i0D [v] H (fun r H'=>Lim H' r (c0t l)∧Ext H H') R:=(d0i h hf hn).mono fun _ _ h=>⟨h.1.1,h.2⟩
theorem c0s (h:b0j H v i) (hf:fl≤H.size) (hn:i.2.length < 4611686018427387904):a0N env fl w0A [v] H (fun r H'=>r=.bool (c0V i)∧Ext H H') R:=by
 obtain ⟨s,rfl,hs⟩:=h
 obtain ⟨bi,li⟩:=i
 simp only at hs hn ⊢
 refine a0d Q0p hf (h:=?_)
 intro ρ h0
 simp [M0O,D0b,h0]
 generalize hG:Array.push H _=G
 obtain ⟨hx2,b0⟩:=e0L hG
 have hx:=Ext.refl H
 clear hG
 replace hx:=hx.trans hx2
 have ks:=hs.mono hx
 unfold c0V
 simp [D0c,h0,b0,ks.slen]
 by_cases hl:li.length=0
 ·have hnil:li=[]:=by simpa using hl
  subst hnil
  cases bi <;> simp [v0s,b0]
 ·have hp:0 < li.length:=by omega
  have hne:li ≠ []:=fun h=>hl (by rw [h];rfl)
  have w1:IntKind.i64.wrap ((li.length:Int) - 1)=((li.length - 1:Nat):Int):=by rw [a0S (by omega) (by omega)];omega
  have hlt:li.length - 1 < li.length:=by omega
  have h1:=ks.ia hlt (k:=.i64)
  have h2:=ks.load hlt (Ext.refl _)
  have e1:((li.length:Int)=0)=False:=by simp;omega
  have e2:((0:Int) < (li.length:Int))=True:=by simp;omega
  rw [Q0T] at h2
  simp [hne,hp,v0s,b0,e1,e2,w1,h1,h2]
theorem K0W {G G3:a0c} {q:Nat} {r:Blk} {ro:Bool} {cs:List Value} {s:Value} (hS:Array.setIfInBounds G q r=G3) (hx:Ext H G) (hs:Lim G s l) (hb:a0c.blk G q=.row ro a0a cs) (hq:H.size≤q) :
  Lim G3 s l∧Ext H G3∧a0c.blk G3 q=r:=⟨by rw [← hS];exact hs.setT hb (by decide),a0R hS hx hq,a0K hS hb⟩
theorem F0N (h:a0U i.2):(if c0V i then i else (false,[]))=a0n (a0p i):=by
 cases hm:c0V i with
 | false=>simp [a0p,hm,a0n,a0C]
 | true =>
  have h1:=g0y h
  unfold d0o at h1
  rw [hm] at h1
  have h2:=r0d i
  unfold J0c at h2
  rw [hm] at h2
  simp at h1 h2
  simp only [R0T]
  exact Prod.ext (by rw [h2];rfl) h1
theorem b0T (h:b0j H v i) (hf:fl≤H.size) (hn:i.2.length < 4611686018427387904):a0N env fl i0C [v] H (fun r H'=>b0j H' r (a0n (a0p i))∧Ext H H') R:=by
 rw [← F0N h.ok]
 have k0:=h
 obtain ⟨s,rfl,hs⟩:=h
 refine a0d O0b hf (h:=?_)
 intro ρ h0
 simp [x0d,r0E,h0,hs.cells]
 generalize hG:Array.push (Array.push H _) _=G
 have hx2:Ext H G:=by rw [← hG];exact (Ext.refl H).push.push
 have b0:a0c.blk G H.size=.row false a0a [.bool i.1,s]:=by rw [← hG];simp
 have b1:a0c.blk G (H.size + 1)=.row false a0a [.bool false,.slice none 0 0]:=by rw [← hG];simp
 have hx:=Ext.refl H
 clear hG
 replace hx:=hx.trans hx2;replace k0:=k0.mono hx2
 simp [r0F,b0]
 refine (c0s k0 hx.1 hn).mono ?_
 rintro _ G2 ⟨rfl,hx2⟩
 replace b0:=hx2.blk b0;replace b1:=hx2.blk b1;replace hx:=hx.trans hx2;replace k0:=k0.mono hx2
 have hsz:=hx.1
 have hlt:=a0k b1
 cases hm:c0V i with
 | true =>
  obtain ⟨s',he,hs'⟩:=k0
  have:s' = s:=by simpa using he.symm
  subst this
  simp [r0H,b0,b1,hs'.cells,hs'.plain,hsz]
  generalize hS:Array.setIfInBounds G2 _ _=G3
  obtain ⟨kS,hx3,b3⟩:=K0W hS hx hs' b1 (by omega)
  simp [b3]
  exact fun _=>⟨s',rfl,kS⟩
 | false =>
  simp [r0G,b0,b1,hsz]
  generalize hS:Array.setIfInBounds G2 _ _=G3
  have b3:=a0K hS b1
  simp [b3]
  exact fun _=>⟨.slice none 0 0,rfl,Lim.nil⟩
theorem b0K {b:Bool} (z:Int) (h:Lim H v l) (hf:fl≤H.size) (hn:l.length≤1073741824) (hz:(if b then -(a0l l:Int) else a0l l)=z) :
  a0N env fl p0w [.bool b,v] H (fun r H'=>b0j H' r (a0n z)∧Ext H H') R:=by
 rw [← hz,← y0c h.ok]
 refine a0d Q0B hf (h:=?_)
 intro ρ h0
 simp [N0a,E0d,E0e,h0]
 generalize hG:Array.push H _=G
 obtain ⟨hx2,b0⟩:=e0L hG
 have hx:=Ext.refl H
 clear hG
 replace hx:=hx.trans hx2
 replace h:=h.mono hx
 refine (d0F h hx.1 (by omega)).mono ?_
 rintro u G2 ⟨ht,hx2⟩
 replace b0:=hx2.blk b0;replace hx:=hx.trans hx2
 have hsz:=hx.1
 simp
 by_cases hl:c0t l=[]
 ·have hk:mkI b l=(false,[]):=by simp [mkI,hl]
  rw [hk]
  rw [hl] at ht
  simp [v0x,E0f,ht.slen,b0,hsz]
  generalize hS:Array.setIfInBounds G2 _ _=G3
  have b3:=a0K hS b0
  simp [b3]
  exact fun _=>⟨.slice none 0 0,rfl,Lim.nil⟩
 ·have hk:mkI b l=(b,c0t l):=by simp [mkI,hl]
  rw [hk]
  have hl':¬ (c0t l).length=0:=by simpa using hl
  have hle:(c0t l).length≤l.length:=by
   rw [b0n l h.ok];exact d0k (e0S l h.ok)
  simp [v0x,E0g,ht.slen,b0,hsz,hl,h0]
  have hx4:Ext G2 (G2.push (.row false a0b [])):=(Ext.refl G2).push
  have hlt:=a0k b0
  obtain ⟨v',G',h1,h2,h3,h4⟩:=i0r (fl:=H.size) (G:=G2.push (.row false a0b [])) (s:=.slice (some ⟨G2.size,0,none⟩) 0 0) (e:=a0b) (cs:=[]) (sz:=1) (n:=0) (bytes:=4) (e2:=a0b)
   (Own.mk a0u rfl hsz) (ht.mono hx4).1 h0k (by omega) (by omega) (by omega) (by simp;omega)
  rw [R0B,S0O] at h2
  have b4:G'.blk H.size=.row false a0a [.bool false,.slice none 0 0]:=by
   rw [h3.2 _ (by simp;omega) (by simp [slB];omega)]
   exact hx4.blk b0
  have kL:Lim G' v' (c0t l):=⟨h2.sl,ht.2⟩
  have hx5:Ext H G':=h4 H (Q0W _) (hx.trans hx4)
  simp [h1,kL.cells,kL.plain,b4,a0V]
  generalize hS:Array.setIfInBounds G' _ _=G3
  obtain ⟨kS,hx3,b3⟩:=K0W hS hx5 kL b4 (by omega)
  simp [b3]
  exact fun _=>⟨v',rfl,kS⟩
end
section
open Go
set_option maxHeartbeats 4000000
variable {fl:Nat} {H G:a0c} {R:a0E} {v w:Value} {a b:List Nat}
theorem g0i (ha:Lim H v a) (hb:Lim H w b) (hf:fl≤H.size) (hna:a.length < 4611686018427387904) :
  a0N env fl m0C [v,w] H (fun r H'=>r=.int .i64 (p0r a b)∧Ext H H') R:=by
 refine a0d O0p hf (h:=?_)
 intro ρ h0
 have w1:IntKind.i64.wrap ((a.length:Int) - 1)=(a.length:Int) - 1:=a0S (by omega) (by omega)
 by_cases hab:a.length=b.length
 ·have hab':(a.length:Int)=(b.length:Int):=by omega
  simp [p0Q,k0Y,k0Z,t0j,h0,ha.slen,hb.slen,hab]
  rw [← hab,w1]
  have hcl:p0r a b=e0C (a0l a) (a0l b):=by simp [p0r,hab]
  rw [hcl]
  refine b0A (fun k t G'=>t.length=41∧get t 0=v∧get t 1=w∧get t 5=.int .i64 ((k:Int) - 1)∧G' = H∧k≤a.length∧a.drop k=b.drop k)
   (fun t G'=>t.length=41∧G' = H∧a=b) a.length (by simp [h0,hab]) ?_ ?_
  ·clear h0 ρ
   rintro k t G' ⟨ht,g0,g1,g5,rfl,hk,hd⟩
   obtain ⟨ρ,rfl⟩:=toT ht
   simp only [b0o,Nat.reduceLT] at g0 g1 g5
   by_cases hk0:k=0
   ·subst hk0
    simp [n0q,g0,g1,g5]
    simpa using hd
   ·have e0:(k:Int) - 1=((k - 1:Nat):Int):=by omega
    have hka:k - 1 < a.length:=by omega
    have hkb:k - 1 < b.length:=by omega
    have hla:=ha.load hka (Ext.refl _)
    have hlb:=hb.load hkb (Ext.refl _)
    have w2:IntKind.i64.wrap (((k - 1:Nat):Int) - 1)=((k - 1:Nat):Int) - 1:=a0S (by omega) (by omega)
    rw [e0] at g5
    have hla':=ha.ia (k:=.i64) hka
    have hlb':=hb.ia (k:=.i64) hkb
    have hh:=l0Q hab ha.ok hb.ok hka (by rw [show k - 1 + 1=k by omega];exact hd)
    have hfin:a.getD (k - 1) 0=b.getD (k - 1) 0→a.drop (k - 1)=b.drop (k - 1):=by
     intro he
     rw [R0L hka,R0L hkb,show k - 1 + 1=k by omega,hd]
     rw [Q0T,R0a hka,Q0T,R0a hkb] at he
     congr 1
    generalize a.getD (k - 1) 0=A at hla hh hfin
    generalize b.getD (k - 1) 0=B at hlb hh hfin
    simp [n0q,g0,g1,g5]
    refine a0Y ?_
    simp [t0k,g0,g1,g5,hla,hla',hlb,hlb']
    refine ⟨fun hlt=>?_,fun hnlt=>?_⟩
    ·simp [t0l]
     rw [hh (by omega),b0w,R0k hlt]
    ·refine a0Y ?_
     simp [t0m,g0,g1,g5,hla,hla',hlb,hlb']
     refine ⟨fun hlt=>?_,fun hge=>?_⟩
     ·simp [o0L]
      rw [hh (by omega),b0w,R0c (by omega),R0k hlt]
     ·simp [o0M,g5,w2]
      exact ⟨k - 1,by omega,g0,g1,rfl,by omega,hfin (by omega)⟩
  ·rintro t G' ⟨ht,rfl,hab2⟩
   obtain ⟨ρ,rfl⟩:=toT ht
   simp [o0N]
   rw [hab2];simp [e0C]
 ·have hab':¬ (a.length:Int)=(b.length:Int):=by omega
  have hcl:p0r a b=e0C a.length b.length:=by simp [p0r,hab]
  rw [hcl,b0w]
  by_cases hlt:a.length < b.length
  ·have hlt':(a.length:Int) < (b.length:Int):=by omega
   simp [p0Q,k0Y,k0Z,n0p,t0h,h0,ha.slen,hb.slen,hab,hlt]
  ·have hlt':¬ (a.length:Int) < (b.length:Int):=by omega
   have hgt:b.length < a.length:=by omega
   simp [p0Q,k0Y,k0Z,n0p,t0i,h0,ha.slen,hb.slen,hab,hlt,hgt]
theorem e0i {l:List Nat} {n:Nat}:a0l (l.take (n + 1))=a0l (l.take n) + 4294967296 ^ n * l.getD n 0:=by
 by_cases h:n < l.length
 ·exact a0z h
 ·rw [R0j (by omega),R0j (by omega),Q0T,R0d (by omega)];simp
theorem m0V (ha:Lim H v a) (hb:Lim H w b) (hf:fl≤H.size) (hna:a.length < 1073741823) (hnb:b.length < 1073741823) :
  a0N env fl q0N [v,w] H (fun r H'=>Lim H' r (a0e (a0l a + a0l b))∧Ext H H') R:=by
 refine a0d O0z hf (h:=?_)
 intro ρ h0
 simp [x0A,u0g,u0h,u0i,u0j,h0]
 obtain ⟨N,hN⟩:∃ N,N=max a.length b.length:=⟨_,rfl⟩
 refine o0e (fun n ρ G=>ρ 0=v∧ρ 1=w∧ρ 7=.int .i64 (n:Int)∧∃ c out,ρ 6=.int .u64 ((c:Nat):Int)∧Ext H G∧Own H.size G a0b 1 (ρ 5) n (b0r out)∧a0U out∧out.length=n∧c≤1∧(n=N + 1→c=0) ∧
   a0l out + 4294967296 ^ n * c=a0l (a.take n) + a0l (b.take n)) (N + 1) (by decide) ⟨by simp [h0],by simp [h0],by simp,0,[],by simp,Ext.refl H,by simp;exact Own.nil,by intro x hx;simp at hx,rfl,by omega,by omega,by simp [a0l]⟩ ?_
 clear h0 ρ
 rintro n ρ G hn1 ⟨g0,g1,g7,c,out,g6,hx,ho,hok,hol,hc,hc0,hs⟩
 have ka:=ha.mono hx
 have kb:=hb.mono hx
 have hA2:=e0i (l:=a) (n:=n)
 have hB2:=e0i (l:=b) (n:=n)
 have hA3:=b0t ha.ok n
 have hB3:=b0t hb.ok n
 have e9:=a0D (show n < 4611686018427387904 by omega)
 by_cases hgo:n < a.length ∨ n < b.length ∨ 0 < c
 ·have hnN:n < N + 1:=by
   rcases hgo with h | h | h
   ·omega
   ·omega
   ·by_cases hz:n=N + 1
    ·have:=hc0 hz;omega
    ·omega
  have htop:n=N→c + a.getD n 0 + b.getD n 0 < 4294967296:=by
   intro hz
   have h1:a.getD n 0=0:=by rw [Q0T,R0d (by omega)];rfl
   have h2:b.getD n 0=0:=by rw [Q0T,R0d (by omega)];rfl
   omega
  obtain ⟨s,g5⟩:∃ s,ρ 5=s:=⟨_,rfl⟩
  rw [g5] at ho
  have hA:n < a.length→iaV 1 v (.int .i64 (n:Int))=some (adr 1 v n)∧b0y G false 1 (adr 1 v n)=some (.int .u32 ((a.getD n 0:Nat):Int)):=fun h=>⟨ka.ia h,ka.load h (Ext.refl _)⟩
  have hB:n < b.length→iaV 1 w (.int .i64 (n:Int))=some (adr 1 w n)∧b0y G false 1 (adr 1 w n)=some (.int .u32 ((b.getD n 0:Nat):Int)):=fun h=>⟨kb.ia h,kb.load h (Ext.refl _)⟩
  have hAz:¬ n < a.length→a.getD n 0=0:=fun h=>by rw [Q0T,R0d (by omega)];rfl
  have hBz:¬ n < b.length→b.getD n 0=0:=fun h=>by rw [Q0T,R0d (by omega)];rfl
  generalize a.getD n 0=A at hA2 hA3 htop hA hAz
  generalize b.getD n 0=B at hB2 hB3 htop hB hBz
  obtain ⟨c2,hc2⟩:∃ c2,c + A + B=c2:=⟨_,rfl⟩
  have e3:IntKind.u32.wrap ((c2:Int))=((c2 % 4294967296:Nat):Int):=by rw [d0t];omega
  rw [hc2] at htop
  obtain ⟨s',G3,h1,h2,h3,h4⟩:=c0E (e2:=a0b) (new:=[.int .u32 ((c2 % 4294967296:Nat):Int)]) (c:=1) (bytes:=4) ho rfl rfl (by omega) (by omega) (by omega) hx.1
  have hfin:a0l (out ++ [c2 % 4294967296]) + 4294967296 ^ (n + 1) * (c2 / 4294967296)=a0l (a.take (n + 1)) + a0l (b.take (n + 1)):=by
   rw [b0z,hol,hA2,hB2,R0m]
   have e3:4294967296 ^ n * 4294967296 * (c2 / 4294967296)=4294967296 ^ n * (4294967296 * (c2 / 4294967296)):=R0i ..
   have e4:4294967296 ^ n * (c2 % 4294967296) + 4294967296 ^ n * (4294967296 * (c2 / 4294967296))=4294967296 ^ n * c2:=by rw [← R0b,S0P]
   have e5:4294967296 ^ n * c2=4294967296 ^ n * c + 4294967296 ^ n * A + 4294967296 ^ n * B:=by rw [← hc2,R0b,R0b]
   omega
  by_cases ia:n < a.length
  ·obtain ⟨a1,a2⟩:=hA ia
   by_cases ib:n < b.length
   ·obtain ⟨b1,b2⟩:=hB ib
    have hcp:True:=trivial
    have e1:IntKind.u64.wrap ((c:Int) + IntKind.u64.wrap (A:Int))=((c + A:Nat):Int):=by rw [a0m,a0m];omega
    have e2:IntKind.u64.wrap (((c + A:Nat):Int) + IntKind.u64.wrap (B:Int))=(c2:Int):=by rw [a0m,a0m];omega
    simp [h0o,g0,g1,g7,g6,ka.slen,kb.slen,ia,ib]
    refine f0u.mk true (by simp [hcp]) (fun _=>⟨hnN,?_⟩) (by simp)
    simp [-Int.natCast_emod,-Int.natCast_add,i0Z,j0a,j0b,j0c,j0d,g0N,g0O,g0,g1,g6,g7,ka.slen,kb.slen,ia,ib,a1,a2,b1,b2,e1,e2,e3,g5,h1]
    unfold d0l
    simp [-Int.natCast_emod,-Int.natCast_add,g0P,g7,e9]
    refine b0u.mk ⟨by simp [g0],by simp [g1],by simp,c2 / 4294967296,by simp,h4 _ (Q0W _) hx,out ++ [c2 % 4294967296],by simpa [b0r] using h2,?_,by simp [hol],by omega,fun hz=>by have:=htop (by omega);omega,hfin⟩
    intro x hx
    rcases R0v.1 hx with hx | hx
    ·exact hok x hx
    ·simp at hx;omega
   ·have hBn:=hBz ib
    subst hBn
    have hcp:True:=trivial
    have e1:IntKind.u64.wrap ((c:Int) + IntKind.u64.wrap (A:Int))=(c2:Int):=by rw [a0m,a0m];omega
    simp [h0o,g0,g1,g7,g6,ka.slen,kb.slen,ia,ib]
    refine f0u.mk true (by simp [hcp]) (fun _=>⟨hnN,?_⟩) (by simp)
    simp [-Int.natCast_emod,-Int.natCast_add,i0Z,j0a,j0b,j0c,j0d,g0N,g0O,g0,g1,g6,g7,ka.slen,kb.slen,ia,ib,a1,a2,e1,e3,g5,h1]
    unfold d0l
    simp [-Int.natCast_emod,-Int.natCast_add,g0P,g7,e9]
    refine b0u.mk ⟨by simp [g0],by simp [g1],by simp,c2 / 4294967296,by simp,h4 _ (Q0W _) hx,out ++ [c2 % 4294967296],by simpa [b0r] using h2,?_,by simp [hol],by omega,fun hz=>by have:=htop (by omega);omega,hfin⟩
    intro x hx
    rcases R0v.1 hx with hx | hx
    ·exact hok x hx
    ·simp at hx;omega
  ·have hAn:=hAz ia
   subst hAn
   by_cases ib:n < b.length
   ·obtain ⟨b1,b2⟩:=hB ib
    have hcp:True:=trivial
    have e2:IntKind.u64.wrap ((c:Int) + IntKind.u64.wrap (B:Int))=(c2:Int):=by rw [a0m,a0m];omega
    simp [h0o,g0,g1,g7,g6,ka.slen,kb.slen,ia,ib]
    refine f0u.mk true (by simp [hcp]) (fun _=>⟨hnN,?_⟩) (by simp)
    simp [-Int.natCast_emod,-Int.natCast_add,i0Z,j0a,j0b,j0c,j0d,g0N,g0O,g0,g1,g6,g7,ka.slen,kb.slen,ia,ib,b1,b2,e2,e3,g5,h1]
    unfold d0l
    simp [-Int.natCast_emod,-Int.natCast_add,g0P,g7,e9]
    refine b0u.mk ⟨by simp [g0],by simp [g1],by simp,c2 / 4294967296,by simp,h4 _ (Q0W _) hx,out ++ [c2 % 4294967296],by simpa [b0r] using h2,?_,by simp [hol],by omega,fun hz=>by have:=htop (by omega);omega,hfin⟩
    intro x hx
    rcases R0v.1 hx with hx | hx
    ·exact hok x hx
    ·simp at hx;omega
   ·have hBn:=hBz ib
    subst hBn
    have hcc:c=c2:=by omega
    have hcp:0 < c2:=by omega
    rw [hcc] at g6
    simp [h0o,g0,g1,g7,g6,ka.slen,kb.slen,ia,ib,hcp]
    refine f0u.mk true (by simp [hcp]) (fun _=>⟨hnN,?_⟩) (by simp)
    simp [-Int.natCast_emod,-Int.natCast_add,i0Z,j0a,j0b,j0c,j0d,g0N,g0O,g0,g1,g6,g7,ka.slen,kb.slen,ia,ib,e3,g5,h1]
    unfold d0l
    simp [-Int.natCast_emod,-Int.natCast_add,g0P,g7,e9]
    refine b0u.mk ⟨by simp [g0],by simp [g1],by simp,c2 / 4294967296,by simp,h4 _ (Q0W _) hx,out ++ [c2 % 4294967296],by simpa [b0r] using h2,?_,by simp [hol],by omega,fun hz=>by have:=htop (by omega);omega,hfin⟩
    intro x hx
    rcases R0v.1 hx with hx | hx
    ·exact hok x hx
    ·simp at hx;omega
 ·have h1:¬ n < a.length:=by omega
  have h2:¬ n < b.length:=by omega
  have h3:c=0:=by omega
  subst h3
  simp [h0o,g0,g1,g7,g6,ka.slen,kb.slen,h1,h2]
  refine f0u.mk false (by simp) (by simp) (fun _=>?_)
  rw [R0j (by omega),R0j (by omega),Nat.mul_zero,R0N] at hs
  obtain ⟨s,g5⟩:∃ s,ρ 5=s:=⟨_,rfl⟩
  rw [g5] at ho
  simp [o0S,g5]
  refine (d0F (l:=out) ⟨by rw [hol];exact ho.sl,hok⟩ hx.1 (by omega)).mono ?_
  rintro r G2 ⟨ht,hx2⟩
  simp
  intro _
  rw [← hs,← b0n out hok]
  exact ht
theorem y0d {x c:Nat} (hx:x < 4294967296) (h2:x % 2=0) (hc:c≤1):b0X 0 .or (.int .u32 (x:Int)) (.int .u32 (c:Int))=some (.int .u32 ((x + c:Nat):Int)):=by
 rw [h0d]
 have e1:(BitVec.ofInt IntKind.u32.bits (x:Int) ||| BitVec.ofInt IntKind.u32.bits (c:Int)).toNat=x + c:=by
  show (BitVec.ofInt 32 (x:Int) ||| BitVec.ofInt 32 (c:Int)).toNat=x + c
  rw [BitVec.toNat_or,S0x,S0x]
  have e2:((x:Int) % (2 ^ 32:Nat)).toNat=x:=by omega
  have e3:((c:Int) % (2 ^ 32:Nat)).toNat=c:=by omega
  rw [e2,e3]
  have:=S0t (i:=1) (b:=c) (by omega) (x / 2)
  have e4:2 ^ 1 * (x / 2)=x:=by omega
  rw [e4] at this
  exact this.symm
 rw [e1,l0p]
 congr 3
 omega
theorem j0J {o:Bool} (ha:Lim H v a) (hf:fl≤H.size) (hna:a.length < 1073741822) :
  a0N env fl q0G [v,.bool o] H (fun r H'=>(Lim H' r (a0e (2 * a0l a + o.toNat))∧newB H r)∧Ext H H') R:=by
 refine a0d O0q hf (h:=?_)
 intro ρ h0
 simp [x0r,t0n,t0o,t0p,t0q,h0]
 cases o with
 | true =>
  simp [t0r,n0r]
  refine b0D (fun n ρ G=>ρ 0=v∧ρ 7=.int .i64 (n:Int)∧∃ c,ρ 6=.int .u32 ((c:Nat):Int)∧Ext H G∧∃ out,Own H.size G a0b 1 (ρ 5) n (b0r out)∧a0U out∧out.length=n∧c≤1 ∧
    a0l out + 4294967296 ^ n * c=2 * a0l (a.take n) + 1) a.length (by decide) ⟨by simp [h0],by simp,1,by simp,Ext.refl H,[],by simp;exact Own.nil,by intro x hx;simp at hx,rfl,by omega,by simp [a0l]⟩ ?_
  clear h0 ρ
  rintro n ρ G hn1 ⟨g0,g7,c,g6,hx,out,ho,hok,hol,hc,hs⟩
  have ka:=ha.mono hx
  have e9:=a0D (show n < 4611686018427387904 by omega)
  obtain ⟨s,g5⟩:∃ s,ρ 5=s:=⟨_,rfl⟩
  rw [g5] at ho
  simp [n0s,g0,g7,ka.slen]
  refine c0i.mk (by simp) (fun hlt=>?_) (fun heq=>?_)
  ·have hA2:=a0z hlt
   have hA3:=b0t ha.ok n
   have a1:=ka.ia hlt (k:=.i64)
   have a2:=ka.load hlt (Ext.refl _)
   generalize a.getD n 0=A at hA2 hA3 a2
   have q1:b0X 0 .shl (.int .u32 (A:Int)) (.int .u64 1)=some (.int .u32 ((A * 2 ^ 1 % 4294967296:Nat):Int)):=l0m (s:=1) (by omega)
   have q2:=y0d (x:=A * 2 ^ 1 % 4294967296) (c:=c) (by omega) (by omega) hc
   have q3:b0X 0 .shr (.int .u32 (A:Int)) (.int .u64 31)=some (.int .u32 ((A / 2 ^ 31:Nat):Int)):=l0n (s:=31) (by omega)
   obtain ⟨y,hy⟩:∃ y,A * 2 ^ 1 % 4294967296 + c=y:=⟨_,rfl⟩
   obtain ⟨y0,hy0⟩:∃ y0,A * 2 ^ 1 % 4294967296=y0:=⟨_,rfl⟩
   obtain ⟨c',hc'⟩:∃ c',A / 2 ^ 31=c':=⟨_,rfl⟩
   rw [hy] at q2
   rw [hy0] at q1 q2
   rw [hc'] at q3
   obtain ⟨s',G3,h1,h2,h3,h4⟩:=c0E (e2:=a0b) (new:=[.int .u32 (y:Int)]) (c:=1) (bytes:=4) ho rfl rfl (by omega) (by omega) (by omega) hx.1
   have hx3:=h4 _ (Q0W _) hx
   have kb:=ha.mono hx3
   have b1:=kb.ia hlt (k:=.i64)
   have b2:=kb.load hlt (Ext.refl _)
   have hfin:a0l (out ++ [y]) + 4294967296 ^ (n + 1) * c' = 2 * a0l (a.take (n + 1)) + 1:=by
    rw [b0z,hol,hA2,R0m]
    have e3:4294967296 ^ n * 4294967296 * c' = 4294967296 ^ n * (4294967296 * c'):=R0i ..
    have e4:y + 4294967296 * c' = c + 2 * A:=by omega
    have e5:4294967296 ^ n * y + 4294967296 ^ n * (4294967296 * c')=4294967296 ^ n * c + 4294967296 ^ n * (2 * A):=by rw [← R0b,e4,R0b]
    have e6:4294967296 ^ n * (2 * A)=2 * (4294967296 ^ n * A):=by rw [S0r]
    omega
   have b2':b0y G3 false 1 (adr 1 v n)=some (.int .u32 (A:Int)):=by
    rw [ka.load hlt (Ext.refl _)] at a2
    rw [b2];exact a2
   simp [-Int.natCast_emod,-Int.natCast_add,-h0d,n0t,n0u,g0,g5,g6,g7,a1,a2,q1,q2,q3,h1,b2']
   unfold d0l
   simp [-Int.natCast_add,n0v,g7,e9]
   refine b0u.mk ⟨by simp [g0],by simp,c',by simp,hx3,out ++ [y],by simpa [b0r] using h2,?_,by simp [hol],by omega,hfin⟩
   intro x hx
   rcases R0v.1 hx with hx | hx
   ·exact hok x hx
   ·simp at hx;omega
  ·subst heq
   rw [Q0Z] at hs
   obtain ⟨s',G3,h1,h2,h3,h4⟩:=c0E (e2:=a0b) (new:=[.int .u32 (c:Int)]) (c:=1) (bytes:=4) ho rfl rfl (by omega) (by omega) (by omega) hx.1
   have hx3:=h4 _ (Q0W _) hx
   simp [-Int.natCast_add,l0a,l0b,g5,g6,h1]
   have hok2:a0U (out ++ [c]):=by
    intro x hx
    rcases R0v.1 hx with hx | hx
    ·exact hok x hx
    ·simp at hx;omega
   refine (d0i (l:=out ++ [c]) ⟨by have:=h2.sl;simpa [hol,b0r] using this,hok2⟩ hx3.1 (by simp;omega)).mono ?_
   rintro r G2 ⟨⟨ht,hsb⟩,hx2⟩
   simp
   intro _
   rw [b0n _ hok2,b0z,hol,hs] at ht
   exact ⟨ht,(Own.newB h2).of hsb⟩
 | false =>
  simp [n0r]
  refine b0D (fun n ρ G=>ρ 0=v∧ρ 7=.int .i64 (n:Int)∧∃ c,ρ 6=.int .u32 ((c:Nat):Int)∧Ext H G∧∃ out,Own H.size G a0b 1 (ρ 5) n (b0r out)∧a0U out∧out.length=n∧c≤1 ∧
    a0l out + 4294967296 ^ n * c=2 * a0l (a.take n) + 0) a.length (by decide) ⟨by simp [h0],by simp,0,by simp,Ext.refl H,[],by simp;exact Own.nil,by intro x hx;simp at hx,rfl,by omega,by simp [a0l]⟩ ?_
  clear h0 ρ
  rintro n ρ G hn1 ⟨g0,g7,c,g6,hx,out,ho,hok,hol,hc,hs⟩
  have ka:=ha.mono hx
  have e9:=a0D (show n < 4611686018427387904 by omega)
  obtain ⟨s,g5⟩:∃ s,ρ 5=s:=⟨_,rfl⟩
  rw [g5] at ho
  simp [n0s,g0,g7,ka.slen]
  refine c0i.mk (by simp) (fun hlt=>?_) (fun heq=>?_)
  ·have hA2:=a0z hlt
   have hA3:=b0t ha.ok n
   have a1:=ka.ia hlt (k:=.i64)
   have a2:=ka.load hlt (Ext.refl _)
   generalize a.getD n 0=A at hA2 hA3 a2
   have q1:b0X 0 .shl (.int .u32 (A:Int)) (.int .u64 1)=some (.int .u32 ((A * 2 ^ 1 % 4294967296:Nat):Int)):=l0m (s:=1) (by omega)
   have q2:=y0d (x:=A * 2 ^ 1 % 4294967296) (c:=c) (by omega) (by omega) hc
   have q3:b0X 0 .shr (.int .u32 (A:Int)) (.int .u64 31)=some (.int .u32 ((A / 2 ^ 31:Nat):Int)):=l0n (s:=31) (by omega)
   obtain ⟨y,hy⟩:∃ y,A * 2 ^ 1 % 4294967296 + c=y:=⟨_,rfl⟩
   obtain ⟨y0,hy0⟩:∃ y0,A * 2 ^ 1 % 4294967296=y0:=⟨_,rfl⟩
   obtain ⟨c',hc'⟩:∃ c',A / 2 ^ 31=c':=⟨_,rfl⟩
   rw [hy] at q2
   rw [hy0] at q1 q2
   rw [hc'] at q3
   obtain ⟨s',G3,h1,h2,h3,h4⟩:=c0E (e2:=a0b) (new:=[.int .u32 (y:Int)]) (c:=1) (bytes:=4) ho rfl rfl (by omega) (by omega) (by omega) hx.1
   have hx3:=h4 _ (Q0W _) hx
   have kb:=ha.mono hx3
   have b1:=kb.ia hlt (k:=.i64)
   have b2:=kb.load hlt (Ext.refl _)
   have hfin:a0l (out ++ [y]) + 4294967296 ^ (n + 1) * c' = 2 * a0l (a.take (n + 1)) + 0:=by
    rw [b0z,hol,hA2,R0m]
    have e3:4294967296 ^ n * 4294967296 * c' = 4294967296 ^ n * (4294967296 * c'):=R0i ..
    have e4:y + 4294967296 * c' = c + 2 * A:=by omega
    have e5:4294967296 ^ n * y + 4294967296 ^ n * (4294967296 * c')=4294967296 ^ n * c + 4294967296 ^ n * (2 * A):=by rw [← R0b,e4,R0b]
    have e6:4294967296 ^ n * (2 * A)=2 * (4294967296 ^ n * A):=by rw [S0r]
    omega
   have b2':b0y G3 false 1 (adr 1 v n)=some (.int .u32 (A:Int)):=by
    rw [ka.load hlt (Ext.refl _)] at a2
    rw [b2];exact a2
   simp [-Int.natCast_emod,-Int.natCast_add,-h0d,n0t,n0u,g0,g5,g6,g7,a1,a2,q1,q2,q3,h1,b2']
   unfold d0l
   simp [-Int.natCast_add,n0v,g7,e9]
   refine b0u.mk ⟨by simp [g0],by simp,c',by simp,hx3,out ++ [y],by simpa [b0r] using h2,?_,by simp [hol],by omega,hfin⟩
   intro x hx
   rcases R0v.1 hx with hx | hx
   ·exact hok x hx
   ·simp at hx;omega
  ·subst heq
   rw [Q0Z] at hs
   obtain ⟨s',G3,h1,h2,h3,h4⟩:=c0E (e2:=a0b) (new:=[.int .u32 (c:Int)]) (c:=1) (bytes:=4) ho rfl rfl (by omega) (by omega) (by omega) hx.1
   have hx3:=h4 _ (Q0W _) hx
   simp [-Int.natCast_add,l0a,l0b,g5,g6,h1]
   have hok2:a0U (out ++ [c]):=by
    intro x hx
    rcases R0v.1 hx with hx | hx
    ·exact hok x hx
    ·simp at hx;omega
   refine (d0i (l:=out ++ [c]) ⟨by have:=h2.sl;simpa [hol,b0r] using this,hok2⟩ hx3.1 (by simp;omega)).mono ?_
   rintro r G2 ⟨⟨ht,hsb⟩,hx2⟩
   simp
   intro _
   rw [b0n _ hok2,b0z,hol,hs] at ht
   exact ⟨ht,(Own.newB h2).of hsb⟩
theorem c0H {p z x:Nat} {L:List Nat} (hb:G.blk p=.row false a0b (b0r L)) (hf:fl≤p) (hz:z < L.length) :
  j0l fl G 1 (.pointer (some ⟨p,z,none⟩)) (.int .u32 (x:Int))=some (G.setIfInBounds p (.row false a0b (b0r (L.set z x)))):=by
 have h1:a0M (.int .u32 (x:Int))=[.int .u32 (x:Int)]:=rfl
 rw [n0V hb hf (by rw [h1];rfl) (by simp;omega) (by rw [h1];rfl),h1,c0p]
 simp [a0V]
theorem w0w {n:Nat} {s:Value} (h:Own fl G a0b 1 s n (b0r a)) (hn:n=a.length) (h0:0 < a.length):∃ p cap,s=.slice (some ⟨p,0,none⟩) a.length cap∧G.blk p=.row false a0b (b0r a)∧fl≤p:=by
 obtain ⟨hl,⟨_,h1⟩ | ⟨b,cap,h1,h2,h3⟩⟩:=h
 ·omega
 ·exact ⟨b,cap,by rw [← hn];exact h1,h2,h3⟩
theorem h0M (ha:Lim H v a) (hb:Lim H w b) (hf:fl≤H.size) (hna:a.length < 1073741824) (hle:b.length≤a.length) (hnat:a0l b≤a0l a) (h0a:0 < a.length) :
  a0N env fl l0J [v,w] H (fun r H'=>(Lim H' r (a0e (a0l a - a0l b))∧newB H r)∧Ext H H') R:=by
 refine a0d O0r hf (h:=?_)
 intro ρ h0
 have hx4:Ext H (H.push (.row false a0b [])):=(Ext.refl H).push
 obtain ⟨v',G',h1,h2,h3,h4⟩:=i0r (fl:=H.size) (G:=H.push (.row false a0b [])) (s:=.slice (some ⟨H.size,0,none⟩) 0 0) (e:=a0b) (cs:=[]) (sz:=1) (n:=0) (bytes:=4) (e2:=a0b)
  (Own.mk a0u rfl (Q0W _)) (ha.mono hx4).1 h0k (by omega) (by omega) (by omega) (by simp)
 rw [R0B,S0O] at h2
 obtain ⟨p,cap,rfl,hbp,hp⟩:=w0w h2 rfl h0a
 have hx5:Ext H G':=h4 H (Q0W _) hx4
 simp [x0s,t0s,t0t,t0u,t0v,h0,h1]
 refine b0D (fun n ρ G=>ρ 1=w∧ρ 5=.slice (some ⟨p,0,none⟩) a.length cap∧ρ 7=.int .i64 (n:Int)∧∃ c,ρ 6=.int .u64 ((c:Nat):Int)∧Ext H G∧∃ L,a0c.blk G p=.row false a0b (b0r L)∧L.length=a.length∧a0U L∧(∀ j,n≤j→L.getD j 0=a.getD j 0)∧c≤1 ∧
   a0l (L.take n) + a0l (b.take n)=a0l (a.take n) + 4294967296 ^ n * c) a.length (by decide) ⟨by simp [h0],by simp,by simp,0,by simp,hx5,a,hbp,rfl,ha.ok,fun _ _=>rfl,by omega,by simp [a0l]⟩ ?_
 clear h0 ρ h1 h2 h3 h4 hbp hx5 hx4 G'
 rintro n ρ G hn1 ⟨g1,g5,g7,c,g6,hx,L,hbp,hL,hok,hrest,hc,hs⟩
 have e9:=a0D (show n < 4611686018427387904 by omega)
 have hsl:d0j (.slice (some ⟨p,0,none⟩) a.length cap)=some (.int .i64 (a.length:Int)):=rfl
 simp [t0w,g5,g7,hsl]
 refine c0i.mk (by simp) (fun hlt=>?_) (fun heq=>?_)
 ·have kb:=hb.mono hx
  have hnL:n < L.length:=by omega
  obtain ⟨o1,o2⟩:=d0E (k:=.i64) (cap:=cap) hbp hnL hL
  have hA2:=a0z hlt
  have hB2:=e0i (l:=b) (n:=n)
  have hA3:=b0t ha.ok n
  have hB3:=b0t hb.ok n
  rw [hrest n (Q0W _)] at o2
  have hB:n < b.length→iaV 1 w (.int .i64 (n:Int))=some (adr 1 w n)∧b0y G false 1 (adr 1 w n)=some (.int .u32 ((b.getD n 0:Nat):Int)):=fun h=>⟨kb.ia h,kb.load h (Ext.refl _)⟩
  have hBz:¬ n < b.length→b.getD n 0=0:=fun h=>by rw [Q0T,R0d (by omega)];rfl
  generalize a.getD n 0=A at hA2 hA3 o2
  generalize b.getD n 0=B at hB2 hB3 hB hBz
  obtain ⟨S,hS⟩:∃ S,c + B=S:=⟨_,rfl⟩
  have eA:IntKind.u64.wrap (A:Int)=(A:Int):=by rw [a0m];omega
  by_cases ib:n < b.length
  ·obtain ⟨b1,b2⟩:=hB ib
   have e2:IntKind.u64.wrap ((c:Int) + IntKind.u64.wrap (B:Int))=(S:Int):=by rw [a0m,a0m];omega
   simp [-Int.natCast_add,n0w,n0x,t0x,g1,g6,g7,kb.slen,ib,b1,b2,e2]
   by_cases hge:S≤A
   ·have q1:IntKind.u64.wrap ((A:Int) - (S:Int))=((A - S:Nat):Int):=by rw [a0m];omega
    have q2:IntKind.u32.wrap (((A - S:Nat):Int))=((A - S:Nat):Int):=by rw [d0t];omega
    have hst:=c0H (fl:=H.size) (x:=A - S) hbp hp hnL
    simp [-Int.natCast_add,i0Y,n0y,l0c,g1,g5,g6,g7,o1,o2,eA,hge,q1,q2,hst]
    have hfin:a0l ((L.set n (A-S)).take (n + 1)) + a0l (b.take (n + 1))=a0l (a.take (n + 1)) + 4294967296 ^ (n + 1) * 0:=by
     rw [b0Z hnL,hA2,hB2,R0m]
     have e3:4294967296 ^ n * 4294967296 * 0=4294967296 ^ n * (4294967296 * 0):=R0i ..
     have e4:(A-S) + c + B=A + 4294967296 * 0:=by omega
     have e5:4294967296 ^ n * (A-S) + 4294967296 ^ n * c + 4294967296 ^ n * B=4294967296 ^ n * A + 4294967296 ^ n * (4294967296 * 0):=by rw [← R0b,← R0b,e4,R0b]
     omega
    unfold d0l
    simp [-Int.natCast_add,g0M,g7,e9]
    exact b0u.mk ⟨by simp [g1],by simp [g5],by simp,0,by simp,hx.set hp,L.set n (A-S),a0r (a0k hbp),by simp [hL],b0q hok (by omega),fun j hj=>by have h:=(b0i (l:=L) (z:=A-S) (show n ≠ j by omega)).trans (hrest j (by omega));rw [Q0T,Q0T] at h;exact h,by omega,hfin⟩
   ·have hge':A < S:=by omega
    have q0:IntKind.u64.wrap ((A:Int) + 4294967296)=((A + 4294967296:Nat):Int):=by rw [a0m];omega
    have q1:IntKind.u64.wrap (((A + 4294967296:Nat):Int) - (S:Int))=((A + 4294967296 - S:Nat):Int):=by rw [a0m];omega
    have q2:IntKind.u32.wrap (((A + 4294967296 - S:Nat):Int))=((A + 4294967296 - S:Nat):Int):=by rw [d0t];omega
    have hst:=c0H (fl:=H.size) (x:=A + 4294967296 - S) hbp hp hnL
    simp [-Int.natCast_add,i0Y,l0d,l0e,g1,g5,g6,g7,o1,o2,eA,hge,hge',q0,q1,q2,hst]
    have hfin:a0l ((L.set n (A+4294967296-S)).take (n + 1)) + a0l (b.take (n + 1))=a0l (a.take (n + 1)) + 4294967296 ^ (n + 1) * 1:=by
     rw [b0Z hnL,hA2,hB2,R0m]
     have e3:4294967296 ^ n * 4294967296 * 1=4294967296 ^ n * (4294967296 * 1):=R0i ..
     have e4:(A+4294967296-S) + c + B=A + 4294967296 * 1:=by omega
     have e5:4294967296 ^ n * (A+4294967296-S) + 4294967296 ^ n * c + 4294967296 ^ n * B=4294967296 ^ n * A + 4294967296 ^ n * (4294967296 * 1):=by rw [← R0b,← R0b,e4,R0b]
     omega
    unfold d0l
    simp [-Int.natCast_add,g0M,g7,e9]
    exact b0u.mk ⟨by simp [g1],by simp [g5],by simp,1,by simp,hx.set hp,L.set n (A+4294967296-S),a0r (a0k hbp),by simp [hL],b0q hok (by omega),fun j hj=>by have h:=(b0i (l:=L) (z:=A+4294967296-S) (show n ≠ j by omega)).trans (hrest j (by omega));rw [Q0T,Q0T] at h;exact h,by omega,hfin⟩
  ·have hBn:=hBz ib
   have hcS:c=S:=by omega
   rw [hcS] at g6
   simp [-Int.natCast_add,n0w,n0x,g1,g6,g7,kb.slen,ib]
   by_cases hge:S≤A
   ·have q1:IntKind.u64.wrap ((A:Int) - (S:Int))=((A - S:Nat):Int):=by rw [a0m];omega
    have q2:IntKind.u32.wrap (((A - S:Nat):Int))=((A - S:Nat):Int):=by rw [d0t];omega
    have hst:=c0H (fl:=H.size) (x:=A - S) hbp hp hnL
    simp [-Int.natCast_add,i0Y,n0y,l0c,g1,g5,g6,g7,o1,o2,eA,hge,q1,q2,hst]
    have hfin:a0l ((L.set n (A-S)).take (n + 1)) + a0l (b.take (n + 1))=a0l (a.take (n + 1)) + 4294967296 ^ (n + 1) * 0:=by
     rw [b0Z hnL,hA2,hB2,R0m]
     have e3:4294967296 ^ n * 4294967296 * 0=4294967296 ^ n * (4294967296 * 0):=R0i ..
     have e4:(A-S) + c + B=A + 4294967296 * 0:=by omega
     have e5:4294967296 ^ n * (A-S) + 4294967296 ^ n * c + 4294967296 ^ n * B=4294967296 ^ n * A + 4294967296 ^ n * (4294967296 * 0):=by rw [← R0b,← R0b,e4,R0b]
     omega
    unfold d0l
    simp [-Int.natCast_add,g0M,g7,e9]
    exact b0u.mk ⟨by simp [g1],by simp [g5],by simp,0,by simp,hx.set hp,L.set n (A-S),a0r (a0k hbp),by simp [hL],b0q hok (by omega),fun j hj=>by have h:=(b0i (l:=L) (z:=A-S) (show n ≠ j by omega)).trans (hrest j (by omega));rw [Q0T,Q0T] at h;exact h,by omega,hfin⟩
   ·have hge':A < S:=by omega
    have q0:IntKind.u64.wrap ((A:Int) + 4294967296)=((A + 4294967296:Nat):Int):=by rw [a0m];omega
    have q1:IntKind.u64.wrap (((A + 4294967296:Nat):Int) - (S:Int))=((A + 4294967296 - S:Nat):Int):=by rw [a0m];omega
    have q2:IntKind.u32.wrap (((A + 4294967296 - S:Nat):Int))=((A + 4294967296 - S:Nat):Int):=by rw [d0t];omega
    have hst:=c0H (fl:=H.size) (x:=A + 4294967296 - S) hbp hp hnL
    simp [-Int.natCast_add,i0Y,l0d,l0e,g1,g5,g6,g7,o1,o2,eA,hge,hge',q0,q1,q2,hst]
    have hfin:a0l ((L.set n (A+4294967296-S)).take (n + 1)) + a0l (b.take (n + 1))=a0l (a.take (n + 1)) + 4294967296 ^ (n + 1) * 1:=by
     rw [b0Z hnL,hA2,hB2,R0m]
     have e3:4294967296 ^ n * 4294967296 * 1=4294967296 ^ n * (4294967296 * 1):=R0i ..
     have e4:(A+4294967296-S) + c + B=A + 4294967296 * 1:=by omega
     have e5:4294967296 ^ n * (A+4294967296-S) + 4294967296 ^ n * c + 4294967296 ^ n * B=4294967296 ^ n * A + 4294967296 ^ n * (4294967296 * 1):=by rw [← R0b,← R0b,e4,R0b]
     omega
    unfold d0l
    simp [-Int.natCast_add,g0M,g7,e9]
    exact b0u.mk ⟨by simp [g1],by simp [g5],by simp,1,by simp,hx.set hp,L.set n (A+4294967296-S),a0r (a0k hbp),by simp [hL],b0q hok (by omega),fun j hj=>by have h:=(b0i (l:=L) (z:=A+4294967296-S) (show n ≠ j by omega)).trans (hrest j (by omega));rw [Q0T,Q0T] at h;exact h,by omega,hfin⟩
 ·subst heq
  rw [R0j (by omega),R0j hle,Q0Z] at hs
  have hLlt:=e0S L hok
  rw [hL] at hLlt
  have hc0:c=0:=by
   rcases S0n c with h | h
   ·exact h
   ·have:c=1:=by omega
    subst this
    omega
  subst hc0
  simp [o0O,g5]
  refine (d0i (l:=L) ⟨⟨by simp,.inr ⟨p,0,cap,false,b0r L,by rw [hL],hbp,by simp,by rw [S0j,R0O,← g0e (l:=L),Q0Z]⟩⟩,hok⟩ hx.1 (by omega)).mono ?_
  rintro r G2 ⟨⟨ht,hsb⟩,hx2⟩
  simp
  intro _
  rw [b0n _ hok,show a0l L=a0l a - a0l b by omega] at ht
  refine ⟨ht,fun q hq=>?_⟩
  rw [hsb] at hq
  simp only [slB,Q0V] at hq
  omega
theorem i0X (ha:Lim H v a) (hb:Lim H w b) (hf:fl≤H.size) (hna:a.length < 1073741824) (hle:b.length≤a.length) (hnat:a0l b≤a0l a) (h0a:0 < a.length) :
  a0N env fl l0J [v,w] H (fun r H'=>Lim H' r (a0e (a0l a - a0l b))∧Ext H H') R:=(h0M ha hb hf hna hle hnat h0a).mono fun _ _ h=>⟨h.1.1,h.2⟩
theorem h0j:∀ n,a0l (List.replicate n 0)=0
 | 0=>rfl
 | n + 1=>by rw [List.replicate_succ,a0l,h0j n]
theorem k0f (n:Nat):b0r (List.replicate n 0)=b0Q [.int .u32 0] n:=by
 unfold b0r
 induction n with
 | zero=>rfl
 | succ n ih=>simp only [List.replicate_succ,List.map_cons,ih];rfl
theorem m0W (ha:Lim H v a) (hb:Lim H w b) (hf:fl≤H.size) (hna:a.length < 536870912) (hnb:b.length < 536870912) :
  a0N env fl q0D [v,w] H (fun r H'=>Lim H' r (a0e (a0l a * a0l b))∧Ext H H') R:=by
 refine a0d O0m hf (h:=?_)
 intro ρ h0
 have w1:IntKind.i64.wrap ((a.length:Int) + (b.length:Int))=((a.length + b.length:Nat):Int):=by rw [a0S (by omega) (by omega)];omega
 have hm:=J0b (bytes:=4) (k:=.i64) (k':=.i64) (l:=((a.length + b.length:Nat):Int)) (c:=((a.length + b.length:Nat):Int)) (by omega) (by omega) (by omega) (by omega)
 simp [-Int.natCast_add,x0o,s0F,s0G,s0H,h0,ha.slen,hb.slen,w1,hm]
 rw [← k0f]
 generalize hN:a.length + b.length=N
 generalize hG:Array.push H _=G0
 obtain ⟨hx0,b0⟩:=e0L hG
 clear hG
 refine b0D (fun n ρ G=>ρ 0=v∧ρ 1=w∧ρ 5=.slice (some ⟨H.size,0,none⟩) N N∧ρ 6=.int .i64 (n:Int)∧Ext H G∧∃ o,a0c.blk G H.size=.row false a0b (b0r o)∧o.length=N∧a0U o∧a0l o=a0l (a.take n) * a0l b∧∀ q,n + b.length≤q→o.getD q 0=0)
  a.length (by decide) ⟨by simp [h0],by simp [h0],by simp,by simp,hx0,List.replicate N 0,b0,by simp,by intro x hx;simp at hx;omega,by simp [a0l,h0j],fun q _=>by simp [Q0T,S0K];split <;> rfl⟩ ?_
 clear h0 ρ w1 hm b0 hx0 G0
 rintro i ρ G hn1 ⟨g0,g1,g5,g6,hx,o,hbo,hol,hok,hs,hz⟩
 have ka:=ha.mono hx
 have e8:=a0D (show i < 4611686018427387904 by omega)
 simp [s0I,g0,g6,ka.slen]
 refine c0i.mk (by simp) (fun hlt=>?_) (fun heq=>?_)
 ·have hA2:=a0z hlt
  have hA3:=b0t ha.ok i
  have a1:=ka.ia hlt (k:=.i64)
  have aL:∀ G2,Ext H G2→b0y G2 false 1 (adr 1 v i)=some (.int .u32 ((a.getD i 0:Nat):Int)):=fun G2 h=>ha.load hlt h
  generalize a.getD i 0=U at hA2 hA3 aL
  simp [s0J,s0K]
  refine b0D (fun q ρ G=>ρ 0=v∧ρ 1=w∧ρ 5=.slice (some ⟨H.size,0,none⟩) N N∧ρ 6=.int .i64 (i:Int)∧ρ 8=.int .i64 (q:Int)∧∃ c,ρ 7=.int .u64 ((c:Nat):Int)∧Ext H G∧∃ o,a0c.blk G H.size=.row false a0b (b0r o)∧o.length=N∧a0U o∧c < 4294967296 ∧
    a0l o + 4294967296 ^ (i + q) * c=a0l (a.take i) * a0l b + 4294967296 ^ i * (U * a0l (b.take q))∧∀ q,i + b.length≤q→o.getD q 0=0)
   b.length (by decide) ⟨by simp [g0],by simp [g1],by simp [g5],by simp [g6],by simp,0,by simp,hx,o,hbo,hol,hok,by omega,by simp [hs,a0l],hz⟩ ?_
  clear g0 g1 g5 g6 hx hbo hol hok hs hz ka o G ρ
  rintro q ρ G hq1 ⟨g0,g1,g5,g6,g8,c,g7,hx,o,hbo,hol,hok,hc,hs,hz⟩
  have kb:=hb.mono hx
  have ka:=ha.mono hx
  have e9:=a0D (show q < 4611686018427387904 by omega)
  simp [s0L,g1,g8,kb.slen]
  refine c0i.mk (by simp) (fun hq=>?_) (fun heq=>?_)
  ·have hB2:=a0z hq
   have hB3:=b0t hb.ok q
   have b1:=kb.ia hq (k:=.i64)
   have b2:=kb.load hq (Ext.refl _)
   have a2:=aL G hx
   generalize b.getD q 0=V at hB2 hB3 b2
   have hlo:i + q < o.length:=by omega
   obtain ⟨hio,hro⟩:=d0E (k:=.i64) (cap:=N) hbo hlo hol
   have hset:=f0q o (i + q) ((c + (U * V + o.getD (i + q) 0)) % 4294967296) hlo
   have hW3:=b0t hok (i + q)
   generalize o.getD (i + q) 0=Wd at hro hset hW3
   have hUV:U * V≤4294967295 * 4294967295:=S0k (by omega) (by omega)
   have e1:IntKind.u64.wrap (U:Int)=(U:Int):=by rw [a0m];omega
   have e2:IntKind.u64.wrap (V:Int)=(V:Int):=by rw [a0m];omega
   have e3:IntKind.u64.wrap (Wd:Int)=(Wd:Int):=by rw [a0m];omega
   have e4:IntKind.u64.wrap ((U:Int) * (V:Int))=((U * V:Nat):Int):=by rw [a0m,← S0F];omega
   have e5:IntKind.u64.wrap (((U * V:Nat):Int) + (Wd:Int))=((U * V + Wd:Nat):Int):=by rw [a0m];omega
   have e7:IntKind.i64.wrap ((i:Int) + (q:Int))=((i + q:Nat):Int):=by rw [a0S (by omega) (by omega)];omega
   obtain ⟨c1,hc1⟩:∃ c1,c + (U * V + Wd)=c1:=⟨_,rfl⟩
   have e6:IntKind.u64.wrap (((U * V + Wd:Nat):Int) + (c:Int))=(c1:Int):=by rw [a0m];omega
   rw [hc1] at hset
   have q2:IntKind.u32.wrap ((c1:Int))=((c1 % 4294967296:Nat):Int):=by rw [d0t];omega
   have hst:=c0H (fl:=H.size) (x:=c1 % 4294967296) hbo (Q0W _) hlo
   simp
   refine a0Y ?_
   simp [-Int.natCast_add,-Int.natCast_mul,-Int.natCast_emod,-Int.natCast_ediv,s0M,s0N,s0O,g0,g1,g5,g6,g7,g8,a1,a2,b1,b2,e1,e2,e3,e4,e5,e6,e7,hio,hro,q2,hst]
   unfold d0l
   simp [-Int.natCast_add,o0B,g8,e9]
   refine b0u.mk ⟨by simp [g0],by simp [g1],by simp [g5],by simp [g6],by simp,c1 / 4294967296,by simp,hx.set (Q0W _),o.set (i + q) (c1 % 4294967296),a0r (a0k hbo),by simp [hol],b0q hok (by omega),by omega,?_,?_⟩
   ·have f1:4294967296 ^ (i + (q + 1)) * (c1 / 4294967296)=4294967296 ^ (i + q) * (4294967296 * (c1 / 4294967296)):=by
     rw [show i + (q + 1)=i + q + 1 by omega,R0m,R0i]
    have f2:4294967296 ^ (i + q) * (c1 % 4294967296) + 4294967296 ^ (i + q) * (4294967296 * (c1 / 4294967296))=4294967296 ^ (i + q) * c1:=by rw [← R0b,S0P]
    have f3:4294967296 ^ (i + q) * c1=4294967296 ^ (i + q) * c + (4294967296 ^ (i + q) * (U * V) + 4294967296 ^ (i + q) * Wd):=by rw [← hc1,R0b,R0b]
    have f4:4294967296 ^ i * (U * (a0l (List.take q b) + 4294967296 ^ q * V))=4294967296 ^ i * (U * a0l (List.take q b)) + 4294967296 ^ (i + q) * (U * V):=by
     rw [R0b,R0b,S0C]
     congr 1
     rw [R0i,S0r U]
    rw [hB2,f4,f1]
    omega
   ·intro r hr
    have:=hz r hr
    have h:=(b0i (l:=o) (z:=c1 % 4294967296) (show i + q ≠ r by omega)).trans this
    rw [Q0T] at h;exact h
  ·subst heq
   have hlo:i + b.length < o.length:=by omega
   obtain ⟨hio,hro⟩:=d0E (k:=.i64) (cap:=N) hbo hlo hol
   have hset:=f0q o (i + b.length) (c % 4294967296) hlo
   rw [hz _ (Q0W _)] at hset
   have e7:IntKind.i64.wrap ((i:Int) + (b.length:Int))=((i + b.length:Nat):Int):=by rw [a0S (by omega) (by omega)];omega
   have q2:IntKind.u32.wrap ((c:Int))=(c:Int):=by rw [d0t];omega
   have hst:=c0H (fl:=H.size) (x:=c) hbo (Q0W _) hlo
   simp [-Int.natCast_add,o0C,g1,g5,g6,g7,kb.slen,e7,q2,hio,hst]
   unfold d0l
   simp [-Int.natCast_add,o0D,g6,e8]
   refine b0u.mk ⟨by simp [g0],by simp [g1],by simp [g5],by simp,hx.set (Q0W _),o.set (i + b.length) c,a0r (a0k hbo),by simp [hol],b0q hok (by omega),?_,?_⟩
   ·rw [R0s hc] at hset
    rw [hA2,R0o,R0i]
    rw [Q0Z] at hs
    omega
   ·intro r hr
    have:=hz r (by omega)
    have h:=(b0i (l:=o) (z:=c) (show i + b.length ≠ r by omega)).trans this
    rw [Q0T] at h;exact h
 ·subst heq
  rw [Q0Z] at hs
  simp [o0E,g5]
  refine (d0F (l:=o) ⟨⟨by simp,.inr ⟨H.size,0,N,false,b0r o,by rw [hol],hbo,by simp,by rw [S0j,R0O,← g0e (l:=o),Q0Z]⟩⟩,hok⟩ hx.1 (by omega)).mono ?_
  rintro r G2 ⟨ht,hx2⟩
  simp
  intro _
  rw [b0n _ hok,hs] at ht
  exact ht
theorem F0i {E:Env} {nt tc b b2:Nat} {body:SCode} {rx rc:List a0w} {Q:c0S} {ρ:Nat→Value} (Inv:Nat→(Nat→Value)→a0c→Prop) (n:Nat) (htc:tc < nt) (hI:Inv 0 ρ H)
  (step:∀ i ρ G,i≤n→Inv i ρ G→WR E fl rc (T nt ρ) G (f0u E fl nt tc b b2 body rx (fun t H=>Q .normal t H) Q R n i Inv) R) :
  W E fl (.loop (.seq (.seq (.reg rc) (.cond (.tmp tc) .skip (.exit b))) (.seq (.block b2 body) (.reg rx)))) (T nt ρ) H (d0w b Q) R:=by
 have h:=o0e (Z:=fun t H=>Q .normal t H) (Q:=Q) Inv n htc hI step
 rwa [h0w] at h
theorem F0m {x:Nat} (hx:x < 4294967296):b0X 0 .and (.int .u32 (x:Int)) (.int .u32 1)=some (.int .u32 ((x % 2:Nat):Int)):=by
 have h0:b0X 0 .and (.int .u32 (x:Int)) (.int .u32 1)=some (.int .u32 (IntKind.u32.wrap (BitVec.ofInt IntKind.u32.bits (x:Int) &&& BitVec.ofInt IntKind.u32.bits 1).toNat)):=by unfold b0X;simp
 rw [h0]
 have e1:(BitVec.ofInt IntKind.u32.bits (x:Int) &&& BitVec.ofInt IntKind.u32.bits 1).toNat=x % 2:=by
  show (BitVec.ofInt 32 (x:Int) &&& BitVec.ofInt 32 1).toNat=x % 2
  rw [BitVec.toNat_and,S0x,S0x]
  have e2:((x:Int) % (2 ^ 32:Nat)).toNat=x:=by omega
  have e3:((1:Int) % (2 ^ 32:Nat)).toNat=1:=by decide
  rw [e2,e3,Nat.and_one_is_mod]
 rw [e1,l0p]
 congr 3
 omega
theorem J0e {x k:Nat} (hk:k < 32) (hx:x < 4294967296) (h2:x % 2 ^ (k + 1)=0):x + 2 ^ k < 4294967296∧b0X 0 .or (.int .u32 (x:Int)) (.int .u32 ((2 ^ k:Nat):Int))=some (.int .u32 ((x + 2 ^ k:Nat):Int)):=by
 have hp:2 ^ k < 2 ^ (k + 1):=Nat.pow_lt_pow_right (by omega) (by omega)
 obtain ⟨y,rfl⟩:=Nat.dvd_of_mod_eq_zero h2
 have hle:2 ^ (k + 1) * (y + 1)≤4294967296:=by
  have e:(4294967296:Nat)=2 ^ (k + 1) * 2 ^ (31 - k):=by rw [← S0C,show k + 1 + (31 - k)=32 by omega]
  rw [e] at hx ⊢
  exact R0y _ (R0W hx)
 have hlt:2 ^ (k + 1) * y + 2 ^ k < 4294967296:=by rw [R0b] at hle;omega
 refine ⟨hlt,?_⟩
 have hor:=S0t hp y
 rw [h0d]
 have e1:(BitVec.ofInt IntKind.u32.bits ((2 ^ (k + 1) * y:Nat):Int) ||| BitVec.ofInt IntKind.u32.bits ((2 ^ k:Nat):Int)).toNat=2 ^ (k + 1) * y + 2 ^ k:=by
  show (BitVec.ofInt 32 ((2 ^ (k + 1) * y:Nat):Int) ||| BitVec.ofInt 32 ((2 ^ k:Nat):Int)).toNat=_
  rw [BitVec.toNat_or,S0x,S0x]
  rw [hor]
  generalize 2 ^ (k + 1) * y=x at *
  generalize 2 ^ k=z at *
  have e2:((x:Int) % (2 ^ 32:Nat)).toNat=x:=by omega
  have e3:((z:Int) % (2 ^ 32:Nat)).toNat=z:=by omega
  rw [e2,e3]
 rw [e1,l0p,R0s hlt]
theorem w0r {X B R t:Nat} (hB:0 < B) (hR:X % B=R) (ht:t < 2):(2 * R + t < B→(2 * X + t) / B=2 * (X / B)∧(2 * X + t) % B=2 * R + t)∧(B≤2 * R + t→(2 * X + t) / B=2 * (X / B) + 1∧(2 * X + t) % B=2 * R + t - B):=by
 have h1:=S0H X B
 rw [hR] at h1
 have hRB:R < B:=by rw [← hR];exact R0V _ hB
 have e:2 * X + t=B * (2 * (X / B)) + (2 * R + t):=by rw [S0r];omega
 constructor
 ·intro h
  rw [e,Nat.mul_add_div hB,Nat.mul_add_mod,S0p h,R0s h]
  exact ⟨rfl,rfl⟩
 ·intro h
  have hlt2:2 * R + t - B < B:=by omega
  have e2:2 * X + t=B * (2 * (X / B)) + B + (2 * R + t - B):=by omega
  rw [← Nat.mul_succ] at e2
  rw [e2,Nat.mul_add_div hB,Nat.mul_add_mod,S0p hlt2,R0s hlt2]
  exact ⟨rfl,rfl⟩
theorem q0P (A k:Nat):A / 2 ^ k=2 * (A / 2 ^ (k + 1)) + A / 2 ^ k % 2:=by
 rw [R0m,← Nat.div_div_eq_div_mul];omega
theorem j0I {A B:Nat} (ha:Lim H v (a0e A)) (hb:Lim H w (a0e B)) (hB:0 < B) (hf:fl≤H.size) (hna:(a0e A).length < 536870912) (hnb:(a0e B).length < 536870912) :
  a0N env fl q0v [v,w] H (fun r H'=>(∃ x y,r=.tuple #[x,y]∧Lim H' x (a0e (A / B))∧Lim H' y (a0e (A % B)))∧Ext H H') R:=by
 refine a0d O0c hf (h:=?_)
 intro ρ h0
 simp [x0e,r0I,r0J,h0]
 refine (g0i ha hb (Q0W _) (by omega)).mono ?_
 rintro _ G ⟨rfl,hx⟩
 rw [c0r,b0w]
 by_cases hlt:A < B
 ·simp [hlt,r0K,h0]
  refine fun _=>⟨.slice none 0 0,v,⟨rfl,rfl⟩,?_,?_⟩
  ·rw [S0p hlt,a0C];exact Lim.nil
  ·rw [R0s hlt];exact ha.mono hx
 have hnn:¬ (if B < A then (1:Int) else 0) < 0:=by split <;> decide
 obtain ⟨a,hA⟩:∃ a,a=a0e A:=⟨_,rfl⟩
 rw [← hA] at ha hna
 have hAn:a0l a=A:=by rw [hA,a0f]
 have hm:=J0b (bytes:=4) (k:=.i64) (k':=.i64) (l:=(a.length:Int)) (c:=(a.length:Int)) (by omega) (by omega) (by omega) (by omega)
 have w1:IntKind.i64.wrap ((a.length:Int) - 1)=(a.length:Int) - 1:=a0S (by omega) (by omega)
 have ka:=ha.mono hx
 simp [hlt,hnn,h0,r0L,r0M,r0N,ka.slen,hm,w1]
 rw [← k0f]
 generalize hG:Array.push G _=G0
 obtain ⟨hx2,b0⟩:=e0L hG
 clear hG
 have hx0:=hx.trans hx2
 have hP:=hx.1
 generalize Array.size G=p at b0 hP
 refine o0e (fun n ρ G=>ρ 0=v∧ρ 1=w∧ρ 6=.slice (some ⟨p,0,none⟩) a.length a.length∧ρ 8=.int .i64 ((a.length:Int) - 1 - n)∧n≤a.length∧Ext H G∧Lim G (ρ 7) (a0e (a0l (a.drop (a.length - n)) % B)) ∧
   ∃ o,a0c.blk G p=.row false a0b (b0r o)∧o.length=a.length∧a0U o∧a0l o=4294967296 ^ (a.length - n) * (a0l (a.drop (a.length - n)) / B)∧∀ t,t < a.length - n→o.getD t 0=0)
  a.length (by decide) ⟨by simp [h0],by simp [h0],by simp,by simp,by omega,hx0,by simp [a0l,a0C];exact Lim.nil,List.replicate a.length 0,b0,by simp,by intro x hx;simp at hx;omega,by simp [a0l,h0j],fun t _=>by simp [Q0T,S0K];split <;> rfl⟩ ?_
 clear h0 ρ hm b0 hx0 hx2 hx ka w1 G G0 hnn
 rintro n ρ G hn1 ⟨g0,g1,g6,g8,hn,hx,hr,o,hbo,hol,hok,hs,hz⟩
 by_cases hnl:n < a.length
 ·obtain ⟨i,hi⟩:∃ i,a.length - n=i + 1:=⟨a.length - n - 1,by omega⟩
  have hil:i < a.length:=by omega
  have g8':ρ 8=.int .i64 (i:Int):=by rw [g8];congr 1;omega
  have e8:IntKind.i64.wrap ((i:Int) - 1)=(a.length:Int) - 1 - ((n + 1:Nat):Int):=by rw [a0S (by omega) (by omega)];omega
  rw [hi] at hr hs hz
  have hdr:=d0P hil
  have hA3:=b0t ha.ok i
  have aL:∀ G2,Ext H G2→b0y G2 false 1 (adr 1 v i)=some (.int .u32 ((a.getD i 0:Nat):Int)):=fun G2 h=>ha.load hil h
  generalize a.getD i 0=U at hdr hA3 aL
  generalize a0l (a.drop (i + 1))=D at hdr hr hs
  simp [m0X,g8']
  refine f0u.mk true (by simp) (fun _=>⟨hnl,?_⟩) (by simp)
  simp [r0O]
  refine F0i (fun q ρ G=>ρ 0=v∧ρ 1=w∧ρ 6=.slice (some ⟨p,0,none⟩) a.length a.length∧ρ 8=.int .i64 (i:Int)∧ρ 9=.int .i64 ((31:Int) - q)∧q≤32∧Ext H G∧Lim G (ρ 7) (a0e ((D * 2 ^ q + U / 2 ^ (32 - q)) % B)) ∧
    ∃ o,a0c.blk G p=.row false a0b (b0r o)∧o.length=a.length∧a0U o∧a0l o=4294967296 ^ i * (2 ^ (32 - q) * ((D * 2 ^ q + U / 2 ^ (32 - q)) / B))∧(∀ t,t < i→o.getD t 0=0)∧o.getD i 0 % 2 ^ (32 - q)=0)
   32 (by decide) ?_ ?_
  ·have hU:U / 2 ^ 32=0:=S0p (by omega)
   refine ⟨by simp [g0],by simp [g1],by simp [g6],by simp [g8'],by simp,by omega,hx,?_,o,hbo,hol,hok,?_,fun t ht=>hz t (by omega),?_⟩
   ·rw [T0h,hU,Nat.pow_zero,R0O,R0N];simpa using hr
   ·rw [T0h,hU,Nat.pow_zero,R0O,R0N,hs,R0m,R0i]
   ·rw [hz i (by omega)]
  clear g0 g1 g6 g8 g8' hx hr hbo hol hok hs hz o G ρ
  rintro q ρ G hq1 ⟨g0,g1,g6,g8,g9,hq2,hx,hr,o,hbo,hol,hok,hs,hz,hbit⟩
  by_cases hq:q < 32
  ·obtain ⟨k,hk⟩:∃ k,32 - q=k + 1:=⟨31 - q,by omega⟩
   have g9':ρ 9=.int .i64 (k:Int):=by rw [g9];congr 1;omega
   have e9:IntKind.i64.wrap ((k:Int) - 1)=(31:Int) - ((q + 1:Nat):Int):=by rw [a0S (by omega) (by omega)];omega
   have hk2:32 - (q + 1)=k:=by omega
   have ek:IntKind.u64.wrap (k:Int)=(k:Int):=by rw [a0m];omega
   have ka:=ha.mono hx
   have a1:=ka.ia hil (k:=.i64)
   have a2:=aL G hx
   have hsh:b0X 0 .shr (.int .u32 (U:Int)) (.int .u64 (k:Int))=some (.int .u32 ((U / 2 ^ k:Nat):Int)):=l0n (by omega)
   have hUk:U / 2 ^ k < 4294967296:=T0d (Nat.div_le_self _ _) hA3
   have han:=F0m hUk
   have hhb:=q0P U k
   rw [hk] at hr hs hbit
   obtain ⟨X,hX⟩:∃ X,D * 2 ^ q + U / 2 ^ (k + 1)=X:=⟨_,rfl⟩
   have hXs:D * 2 ^ (q + 1) + U / 2 ^ k=2 * X + U / 2 ^ k % 2:=by
    have:D * 2 ^ (q + 1)=2 * (D * 2 ^ q):=by rw [R0m,← R0i,R0u]
    omega
   rw [hX] at hr hs
   obtain ⟨bt,hbt⟩:∃ bt,U / 2 ^ k % 2=bt:=⟨_,rfl⟩
   rw [hbt] at han hXs
   have hbt2:bt < 2:=by omega
   obtain ⟨Uk,hUK⟩:∃ Uk,U / 2 ^ k=Uk:=⟨_,rfl⟩
   rw [hUK] at hsh han hXs hUk hhb hbt
   have hst:=w0r (X:=X) hB rfl hbt2
   have hRB:X % B < B:=R0V _ hB
   obtain ⟨r0,g7⟩:∃ r0,ρ 7=r0:=⟨_,rfl⟩
   rw [g7] at hr
   have hlenR:(a0e (X % B)).length≤(a0e B).length:=b0g (T0g hRB)
   have hbn:((bt:Int) == 1).toNat=bt:=by
    have:bt=0 ∨ bt=1:=by omega
    rcases this with h | h <;> rw [h] <;> rfl
   simp [m0Y,g9']
   refine f0u.mk true (by simp) (fun _=>⟨hq,?_⟩) (by simp)
   simp [r0P,g0,g7,g8,g9',a1,a2,ek,hsh,han]
   refine (j0J hr hx.1 (by omega)).mono ?_
   rintro r1 G1 ⟨⟨hr1,hn1'⟩,hx2⟩
   have hnp1:=hn1'.ne (a0k hbo)
   rw [a0f,hbn] at hr1
   replace hx:=hx.trans hx2
   replace hbo:=hx2.blk hbo
   have kb:=hb.mono hx
   obtain ⟨R',hR'⟩:∃ R',2 * (X % B) + bt=R':=⟨_,rfl⟩
   rw [hR'] at hr1
   have hlen:(a0e R').length≤(a0e B).length + 1:=by
    refine d0k ?_
    have:=d0q B
    rw [R0m]
    omega
   rw [hR'] at hst
   simp [o0u,g1]
   refine (g0i hr1 kb hx.1 (by omega)).mono ?_
   rintro _ G2 ⟨rfl,hx2⟩
   rw [c0r,b0w]
   replace hx:=hx.trans hx2
   replace hbo:=hx2.blk hbo
   replace kb:=kb.mono hx2
   replace hr1:=hr1.mono hx2
   have hiL:i < o.length:=by omega
   by_cases hge:B≤R'
   ·have hc1:¬ R' < B:=by omega
    have hc2:((0:Int)≤if B < R' then 1 else 0):=by split <;> decide
    obtain ⟨d1,d2⟩:=hst.2 hge
    simp [hc1,hc2,o0v,g1]
    refine (h0M hr1 kb hx.1 (by omega) (b0g hge) (by rw [a0f,a0f];exact hge) (by
     rcases S0n (a0e R').length with h | h
     ·have:=b0l.1 (R0x.1 h);omega
     ·exact h)).mono ?_
    rintro r2 G3 ⟨⟨hr2,hn2'⟩,hx2⟩
    have hnp2:=hn2'.ne (a0k hbo)
    rw [a0f,a0f] at hr2
    replace hx:=hx.trans hx2
    replace hbo:=hx2.blk hbo
    obtain ⟨o1,o2⟩:=d0E (k:=.i64) (cap:=a.length) hbo hiL hol
    have hol3:=b0t hok i
    have hset:=f0q o i (o.getD i 0 + 2 ^ k) hiL
    generalize hy:o.getD i 0=y at o2 hol3 hset hbit
    obtain ⟨hy1,hor⟩:=J0e (by omega) hol3 hbit
    have hsl:b0X 0 .shl (.int .u32 1) (.int .u64 (k:Int))=some (.int .u32 ((2 ^ k:Nat):Int)):=by
     have h:=l0m (tag:=0) (n:=1) (s:=k) (k':=.u64) (by omega)
     have h2:1 * 2 ^ k % 4294967296=2 ^ k:=by rw [R0S];exact R0s (by omega)
     rw [h2] at h;exact h
    have hsto:=c0H (fl:=H.size) (x:=y + 2 ^ k) hbo hP hiL
    have hyb:(y + 2 ^ k) % 2 ^ k=0:=by
     obtain ⟨z,hz⟩:=Nat.dvd_of_mod_eq_zero hbit
     rw [hz,R0m,R0i,Nat.add_mod_right,Nat.mul_mod_right]
    have hpk:2 ^ (k + 1)=2 * 2 ^ k:=by rw [R0m,R0u]
    obtain ⟨K,hpk'⟩:∃ K,K=2 ^ k:=⟨_,rfl⟩
    rw [← hpk'] at hy1 hor hsl hsto hyb hset hpk
    have hbo':=hbo
    have hmodK:∀ y,y % K=0→True:=fun _ _=>trivial
    simp [-Int.natCast_add,-h0d,o0w,g6,g8,g9',o1,o2,ek,hsl,hor,hsto]
    unfold d0l
    simp [-Int.natCast_add,k0M,g9',e9]
    refine b0u.mk ⟨by simp [g0],by simp [g1],by simp [g6],by simp [g8],by simp,by omega,hx.set hP,?_,o.set i (y + K),a0r (a0k hbo),by simp [hol],b0q hok hy1,?_,?_,?_⟩
    ·rw [hk2,hUK,hXs,d2]
     simp
     exact Lim.off hr2 (d0Z.refl.set) hnp2
    ·rw [hk2,hUK,hXs,d1,← hpk']
     rw [hs,hpk] at hset
     have f1:4294967296 ^ i * (K * (2 * (X / B) + 1))=4294967296 ^ i * (2 * K * (X / B)) + 4294967296 ^ i * K:=by
      rw [← R0b];congr 1;rw [R0b,R0O];congr 1;rw [S0r,R0i]
     rw [R0b] at hset
     omega
    ·intro t ht
     have h:=(b0i (l:=o) (z:=y + K) (show i ≠ t by omega)).trans (hz t ht)
     rw [Q0T] at h;exact h
    ·rw [hk2,← hpk',S0g hiL];exact hyb
   ·obtain ⟨d1,d2⟩:=hst.1 (by omega)
    have hc1:R' < B:=by omega
    have hpk:2 ^ (k + 1)=2 * 2 ^ k:=by rw [R0m,R0u]
    simp [hc1]
    unfold d0l
    simp [-Int.natCast_add,k0M,g9',e9]
    refine b0u.mk ⟨by simp [g0],by simp [g1],by simp [g6],by simp [g8],by simp,by omega,hx,?_,o,hbo,hol,hok,?_,?_,?_⟩
    ·rw [hk2,hUK,hXs,d2]
     simp
     exact hr1
    ·rw [hk2,hUK,hXs,d1,hs,hpk]
     congr 1
     rw [S0r,R0i]
    ·intro t ht
     have h:=hz t ht
     rw [Q0T] at h;exact h
    ·rw [hk2]
     obtain ⟨z,hz2⟩:=Nat.dvd_of_mod_eq_zero hbit
     rw [Q0T] at hz2
     rw [hz2,R0m,R0i,Nat.mul_mod_right]
  ·have hq3:q=32:=by omega
   subst hq3
   rw [Nat.sub_self,Nat.pow_zero,Nat.div_one,R0S] at hs
   rw [Nat.sub_self,Nat.pow_zero,Nat.div_one] at hr
   have hD:D * 2 ^ 32 + U=a0l (a.drop i):=by rw [hdr];omega
   rw [hD] at hr hs
   simp [m0Y,g9]
   refine f0u.mk false (by simp) (by simp) (fun _=>?_)
   unfold d0l
   simp [-Int.natCast_add,o0x,g8,e8]
   have hi2:a.length - (n + 1)=i:=by omega
   refine b0u.mk ⟨by simp [g0],by simp [g1],by simp [g6],by simp,by omega,hx,by rw [hi2];simpa using hr,o,hbo,hol,hok,by rw [hi2];exact hs,fun t ht=>?_⟩
   have h:=hz t (by omega)
   rw [Q0T] at h;exact h
 ·have hn2:n=a.length:=by omega
  subst hn2
  rw [Nat.sub_self,S0j,hAn] at hr hs
  rw [Nat.pow_zero,R0S] at hs
  simp [m0X,g8]
  refine f0u.mk false (by simp;omega) (by simp) (fun _=>?_)
  obtain ⟨r0,g7⟩:∃ r0,ρ 7=r0:=⟨_,rfl⟩
  rw [g7] at hr
  simp [o0y,g6,g7]
  refine (d0F (l:=o) ⟨⟨by simp,.inr ⟨p,0,a.length,false,b0r o,by rw [hol],hbo,by simp,by rw [S0j,R0O,← g0e (l:=o),Q0Z]⟩⟩,hok⟩ hx.1 (by omega)).mono ?_
  rintro r G2 ⟨ht,hx2⟩
  rw [b0n _ hok,hs] at ht
  simp [g7]
  exact fun _=>⟨_,_,⟨rfl,rfl⟩,ht,hr.mono hx2⟩
end
section
open Go
set_option maxHeartbeats 4000000
variable {fl:Nat} {H G:a0c} {R:a0E} {v w:Value} {i j:Bool × List Nat}
theorem m0T (h:b0j H v i) (hf:fl≤H.size) (hn:i.2.length≤1073741824):a0N env fl q0J [v] H (fun r H'=>b0j H' r (a0n (-a0p i))∧Ext H H') R:=by
 have k0:=h
 have hok:=h.ok
 obtain ⟨s,rfl,hs⟩:=h
 refine a0d O0u hf (h:=?_)
 intro ρ h0
 simp [x0v,t0H,h0,hs.cells]
 generalize hG:Array.push (Array.push H _) _=G
 have hx2:Ext H G:=by rw [← hG];exact (Ext.refl H).push.push
 have b0:a0c.blk G H.size=.row false a0a [.bool i.1,s]:=by rw [← hG];simp
 have b1:a0c.blk G (H.size + 1)=.row false a0a [.bool false,.slice none 0 0]:=by rw [← hG];simp
 have hx:=Ext.refl H
 clear hG
 replace hx:=hx.trans hx2;replace k0:=k0.mono hx2
 simp [t0I,b0]
 refine (b0T k0 hx.1 (by omega)).mono ?_
 rintro _ G2 ⟨⟨s1,rfl,k1⟩,hx2⟩
 replace b0:=hx2.blk b0;replace b1:=hx2.blk b1;replace hx:=hx.trans hx2;replace k0:=k0.mono hx2
 have hsz:=hx.1
 simp [b0,k1.cells,k1.plain,hsz]
 generalize hS:Array.setIfInBounds G2 _ _=G3
 have hsz:=hx.1;replace k0:=k0.setS hS b0 (by decide);replace k1:=k1.setS hS b0 (by decide);replace b1:=a0q hS b1 (by omega);replace hx:=a0R hS hx (by omega);replace b0:=a0K hS b0;clear hS hsz
 simp [t0J,b0]
 have hl:=a0o hok
 refine (b0K (-a0p i) k1 hx.1 (by show (a0e _).length≤_;omega) ?_).mono ?_
 ·show (if (!decide (a0p i < 0))=true then -((a0l (a0e (a0p i).natAbs):Nat):Int) else _)=_
  rw [a0f]
  by_cases hz:a0p i < 0 <;> simp [hz,a0f,a0n] <;> omega
 rintro _ G2 ⟨⟨s2,rfl,k2⟩,hx2⟩
 replace b0:=hx2.blk b0;replace b1:=hx2.blk b1;replace hx:=hx.trans hx2;replace k0:=k0.mono hx2;replace k1:=k1.mono hx2
 have hsz:=hx.1
 simp [b1,k2.cells,k2.plain,hsz]
 generalize hS:Array.setIfInBounds G2 _ _=G4
 have hsz:=hx.1;replace k0:=k0.setS hS b1 (by decide);replace k1:=k1.setS hS b1 (by decide);replace k2:=k2.setS hS b1 (by decide);replace b0:=a0q hS b0 (by omega);replace hx:=a0R hS hx (by omega);replace b1:=a0K hS b1;clear hS hsz
 simp [b1]
 exact fun _=>⟨s2,rfl,k2⟩
theorem G0r (x y:Int):(if (decide (x < 0) != decide (y < 0))=true then -((x.natAbs * y.natAbs:Nat):Int) else ((x.natAbs * y.natAbs:Nat):Int))=x * y:=by
 rw [← Int.natAbs_mul]
 by_cases hi:x < 0 <;> by_cases hj:y < 0
 ·have:=Int.mul_pos_of_neg_of_neg hi hj
  simp [hi,hj];omega
 ·have:=S0w (Int.le_of_lt hi) (show 0≤y by omega)
  simp [hi,hj];omega
 ·have:=Int.mul_nonpos_of_nonneg_of_nonpos (show 0≤x by omega) (Int.le_of_lt hj)
  simp [hi,hj];omega
 ·have:=Int.mul_nonneg (show 0≤x by omega) (show 0≤y by omega)
  simp [hi,hj];omega
theorem i0W (h:b0j H v i) (k:b0j H w j) (hf:fl≤H.size) (hn:i.2.length < 268435456) (hm:j.2.length < 268435456):a0N env fl H0e [v,w] H (fun r H'=>b0j H' r (a0n (a0p i * a0p j))∧Ext H H') R:=by
 have k0:=h
 have k1:=k
 have hok:=h.ok
 have hok2:=k.ok
 obtain ⟨s,rfl,hs⟩:=h
 obtain ⟨u,rfl,hu⟩:=k
 refine a0d Q0E hf (h:=?_)
 intro ρ h0
 simp [N0d,E0p,h0,hs.cells,hu.cells]
 generalize hG:Array.push (Array.push (Array.push H _) _) _=G
 have hx2:Ext H G:=by rw [← hG];exact (Ext.refl H).push.push.push
 have b0:a0c.blk G H.size=.row false a0a [.bool i.1,s]:=by rw [← hG];simp
 have b1:a0c.blk G (H.size + 1)=.row false a0a [.bool j.1,u]:=by rw [← hG];simp
 have b2:a0c.blk G (H.size + 2)=.row false a0a [.bool false,.slice none 0 0]:=by rw [← hG];simp
 have hx:=Ext.refl H
 clear hG
 replace hx:=hx.trans hx2;replace k0:=k0.mono hx2;replace k1:=k1.mono hx2
 simp [E0q,b0]
 refine (b0T k0 hx.1 (by omega)).mono ?_
 rintro _ G2 ⟨⟨s1,rfl,k2⟩,hx2⟩
 replace b0:=hx2.blk b0;replace b1:=hx2.blk b1;replace b2:=hx2.blk b2;replace hx:=hx.trans hx2;replace k0:=k0.mono hx2;replace k1:=k1.mono hx2
 have hsz:=hx.1
 simp [b0,k2.cells,k2.plain,hsz]
 generalize hS:Array.setIfInBounds G2 _ _=G3
 have hsz:=hx.1;replace k0:=k0.setS hS b0 (by decide);replace k1:=k1.setS hS b0 (by decide);replace k2:=k2.setS hS b0 (by decide);replace b1:=a0q hS b1 (by omega);replace b2:=a0q hS b2 (by omega);replace hx:=a0R hS hx (by omega);replace b0:=a0K hS b0;clear hS hsz
 simp [E0r,b1]
 refine (b0T k1 hx.1 (by omega)).mono ?_
 rintro _ G2 ⟨⟨s2,rfl,k3⟩,hx2⟩
 replace b0:=hx2.blk b0;replace b1:=hx2.blk b1;replace b2:=hx2.blk b2;replace hx:=hx.trans hx2;replace k0:=k0.mono hx2;replace k1:=k1.mono hx2;replace k2:=k2.mono hx2
 have hsz:=hx.1
 simp [b1,k3.cells,k3.plain,hsz]
 generalize hS:Array.setIfInBounds G2 _ _=G4
 have hsz:=hx.1;replace k0:=k0.setS hS b1 (by decide);replace k1:=k1.setS hS b1 (by decide);replace k2:=k2.setS hS b1 (by decide);replace k3:=k3.setS hS b1 (by decide);replace b0:=a0q hS b0 (by omega);replace b2:=a0q hS b2 (by omega);replace hx:=a0R hS hx (by omega);replace b1:=a0K hS b1;clear hS hsz
 clear k0 k1
 have hl:=a0o hok
 have hl2:=a0o hok2
 refine a0Y ?_
 simp [E0s,b0,b1]
 refine (m0W k2 k3 (by have:=hx.1;omega) (by show (a0e _).length < _;omega) (by show (a0e _).length < _;omega)).mono ?_
 rintro x G2 ⟨k4,hx2⟩
 replace b0:=hx2.blk b0;replace b1:=hx2.blk b1;replace b2:=hx2.blk b2;replace hx:=hx.trans hx2;replace k2:=k2.mono hx2;replace k3:=k3.mono hx2
 rw [show a0l (a0n (a0p i)).2=(a0p i).natAbs from a0f _,show a0l (a0n (a0p j)).2=(a0p j).natAbs from a0f _] at k4
 simp
 have hlen:(a0e ((a0p i).natAbs * (a0p j).natAbs)).length≤i.2.length + j.2.length:=by
  refine R0z (d0k (k:=(a0e (a0p i).natAbs).length + (a0e (a0p j).natAbs).length) ?_) (by omega)
  rw [S0C]
  exact Nat.mul_lt_mul_of_lt_of_le (d0q _) (T0g (d0q _)) (Nat.pow_pos (by omega))
 refine (b0K (a0p i * a0p j) k4 hx.1 (by omega) ?_).mono ?_
 ·rw [a0f]
  exact G0r _ _
 rintro _ G2 ⟨⟨s3,rfl,k5⟩,hx2⟩
 replace b0:=hx2.blk b0;replace b1:=hx2.blk b1;replace b2:=hx2.blk b2;replace hx:=hx.trans hx2;replace k2:=k2.mono hx2;replace k3:=k3.mono hx2;replace k4:=k4.mono hx2
 have hsz:=hx.1
 simp [b2,k5.cells,k5.plain,hsz]
 generalize hS:Array.setIfInBounds G2 _ _=G5
 have hsz:=hx.1;replace k2:=k2.setS hS b2 (by decide);replace k3:=k3.setS hS b2 (by decide);replace k4:=k4.setS hS b2 (by decide);replace k5:=k5.setS hS b2 (by decide);replace b0:=a0q hS b0 (by omega);replace b1:=a0q hS b1 (by omega);replace hx:=a0R hS hx (by omega);replace b2:=a0K hS b2;clear hS hsz
 simp [b2]
 exact fun _=>⟨s3,rfl,k5⟩
theorem c0N {n:Nat} (h:0 < n):0 < (a0e n).length:=by
 rcases S0n (a0e n).length with h2 | h2
 ·have:=b0l.1 (R0x.1 h2);omega
 ·exact h2
theorem m0R (h:b0j H v i) (k:b0j H w j) (hf:fl≤H.size) (hn:i.2.length < 268435456) (hm:j.2.length < 268435456):a0N env fl q0I [v,w] H (fun r H'=>b0j H' r (a0n (a0p i + a0p j))∧Ext H H') R:=by
 have k0:=h
 have k1:=k
 have hok:=h.ok
 have hok2:=k.ok
 obtain ⟨s,rfl,hs⟩:=h
 obtain ⟨u,rfl,hu⟩:=k
 refine a0d O0t hf (h:=?_)
 intro ρ h0
 simp [x0u,t0A,h0,hs.cells,hu.cells]
 generalize hG:Array.push (Array.push (Array.push H _) _) _=G
 have hx2:Ext H G:=by rw [← hG];exact (Ext.refl H).push.push.push
 have b0:a0c.blk G H.size=.row false a0a [.bool i.1,s]:=by rw [← hG];simp
 have b1:a0c.blk G (H.size + 1)=.row false a0a [.bool j.1,u]:=by rw [← hG];simp
 have b2:a0c.blk G (H.size + 2)=.row false a0a [.bool false,.slice none 0 0]:=by rw [← hG];simp
 have hx:=Ext.refl H
 clear hG
 replace hx:=hx.trans hx2;replace k0:=k0.mono hx2;replace k1:=k1.mono hx2
 simp [t0B,b0]
 refine (b0T k0 hx.1 (by omega)).mono ?_
 rintro _ G2 ⟨⟨s1,rfl,k2⟩,hx2⟩
 replace b0:=hx2.blk b0;replace b1:=hx2.blk b1;replace b2:=hx2.blk b2;replace hx:=hx.trans hx2;replace k0:=k0.mono hx2;replace k1:=k1.mono hx2
 have hsz:=hx.1
 simp [b0,k2.cells,k2.plain,hsz]
 generalize hS:Array.setIfInBounds G2 _ _=G3
 have hsz:=hx.1;replace k0:=k0.setS hS b0 (by decide);replace k1:=k1.setS hS b0 (by decide);replace k2:=k2.setS hS b0 (by decide);replace b1:=a0q hS b1 (by omega);replace b2:=a0q hS b2 (by omega);replace hx:=a0R hS hx (by omega);replace b0:=a0K hS b0;clear hS hsz
 simp [t0C,b1]
 refine (b0T k1 hx.1 (by omega)).mono ?_
 rintro _ G2 ⟨⟨s2,rfl,k3⟩,hx2⟩
 replace b0:=hx2.blk b0;replace b1:=hx2.blk b1;replace b2:=hx2.blk b2;replace hx:=hx.trans hx2;replace k0:=k0.mono hx2;replace k1:=k1.mono hx2;replace k2:=k2.mono hx2
 have hsz:=hx.1
 simp [b1,k3.cells,k3.plain,hsz]
 generalize hS:Array.setIfInBounds G2 _ _=G4
 have hsz:=hx.1;replace k0:=k0.setS hS b1 (by decide);replace k1:=k1.setS hS b1 (by decide);replace k2:=k2.setS hS b1 (by decide);replace k3:=k3.setS hS b1 (by decide);replace b0:=a0q hS b0 (by omega);replace b2:=a0q hS b2 (by omega);replace hx:=a0R hS hx (by omega);replace b1:=a0K hS b1;clear hS hsz
 clear k0 k1
 have hl:=a0o hok
 have hl2:=a0o hok2
 obtain ⟨x,hx'⟩:∃ x,a0p i=x:=⟨_,rfl⟩
 obtain ⟨y,hy'⟩:∃ y,a0p j=y:=⟨_,rfl⟩
 rw [hx'] at b0 k2 hl ⊢
 rw [hy'] at b1 k3 hl2 ⊢
 have n1:a0l (a0n x).2=x.natAbs:=a0f _
 have n2:a0l (a0n y).2=y.natAbs:=a0f _
 have l1:(a0n x).2.length=(a0e x.natAbs).length:=rfl
 have l2:(a0n y).2.length=(a0e y.natAbs).length:=rfl
 have hlen:∀ m,m≤x.natAbs + y.natAbs→(a0e m).length≤i.2.length + j.2.length + 1:=by
  intro m hm
  refine R0z (d0k (k:=(a0e x.natAbs).length + (a0e y.natAbs).length + 1) ?_) (by omega)
  have h1:=d0q x.natAbs
  have h2:=d0q y.natAbs
  have h3:4294967296 ^ (a0e x.natAbs).length≤4294967296 ^ ((a0e x.natAbs).length + (a0e y.natAbs).length):=S0q (by omega) (by omega)
  have h4:4294967296 ^ (a0e y.natAbs).length≤4294967296 ^ ((a0e x.natAbs).length + (a0e y.natAbs).length):=S0q (by omega) (by omega)
  rw [R0m]
  omega
 have c1:(a0n x).1=decide (x < 0):=rfl
 have c2:(a0n y).1=decide (y < 0):=rfl
 rw [c1] at b0
 rw [c2] at b1
 by_cases hsg:decide (x < 0)=decide (y < 0)
 ·simp [n0z,b0,b1,hsg]
  refine a0Y ?_
  simp [t0D,b0,b1,hsg]
  refine (m0V k2 k3 (by have:=hx.1;omega) (by omega) (by omega)).mono ?_
  rintro z G2 ⟨k4,hx2⟩
  replace b0:=hx2.blk b0;replace b1:=hx2.blk b1;replace b2:=hx2.blk b2;replace hx:=hx.trans hx2;replace k2:=k2.mono hx2;replace k3:=k3.mono hx2
  rw [n1,n2] at k4
  simp
  refine (b0K (x + y) k4 hx.1 (by have:=hlen _ (Q0W _);omega) ?_).mono ?_
  ·rw [a0f]
   by_cases hx0:x < 0
   ·have hy0:y < 0:=by simpa [hx0] using hsg
    simp [hy0];omega
   ·have hy0:¬ y < 0:=by simpa [hx0] using hsg
    simp [hy0];omega
  rintro _ G2 ⟨⟨s3,rfl,k5⟩,hx2⟩
  replace b0:=hx2.blk b0;replace b1:=hx2.blk b1;replace b2:=hx2.blk b2;replace hx:=hx.trans hx2;replace k2:=k2.mono hx2;replace k3:=k3.mono hx2;replace k4:=k4.mono hx2
  have hsz:=hx.1
  simp [b2,k5.cells,k5.plain,hsz]
  generalize hS:Array.setIfInBounds G2 _ _=G5
  have hsz:=hx.1;replace k2:=k2.setS hS b2 (by decide);replace k3:=k3.setS hS b2 (by decide);replace k4:=k4.setS hS b2 (by decide);replace k5:=k5.setS hS b2 (by decide);replace b0:=a0q hS b0 (by omega);replace b1:=a0q hS b1 (by omega);replace hx:=a0R hS hx (by omega);replace b2:=a0K hS b2;clear hS hsz
  simp [b2]
  exact fun _=>⟨s3,rfl,k5⟩
 ·simp [n0z,b0,b1,hsg,t0E]
  refine (g0i k2 k3 hx.1 (by omega)).mono ?_
  rintro _ G2 ⟨rfl,hx2⟩
  replace b0:=hx2.blk b0;replace b1:=hx2.blk b1;replace b2:=hx2.blk b2;replace hx:=hx.trans hx2;replace k2:=k2.mono hx2;replace k3:=k3.mono hx2
  rw [show p0r (a0n x).2 (a0n y).2=e0C x.natAbs y.natAbs from c0r _ _,b0w]
  by_cases hge:y.natAbs≤x.natAbs
  ·have q1:¬ x.natAbs < y.natAbs:=by omega
   have q2:((0:Int)≤if y.natAbs < x.natAbs then 1 else 0):=by split <;> decide
   simp [q1,q2]
   refine a0Y ?_
   simp [t0F,b0,b1]
   have hpos:0 < x.natAbs:=by
    rcases S0n x.natAbs with h0 | h0
    ·have e1:x=0:=by omega
     have e2:y=0:=by omega
     subst e1 e2;exact R0q rfl hsg
    ·exact h0
   refine (i0X k2 k3 (by have:=hx.1;omega) (by omega) (b0g hge) (by rw [n1,n2];exact hge) (c0N hpos)).mono ?_
   rintro z G2 ⟨k4,hx2⟩
   replace b0:=hx2.blk b0;replace b1:=hx2.blk b1;replace b2:=hx2.blk b2;replace hx:=hx.trans hx2;replace k2:=k2.mono hx2;replace k3:=k3.mono hx2
   rw [n1,n2] at k4
   simp
   refine (b0K (x + y) k4 hx.1 (by have:=hlen (x.natAbs - y.natAbs) (by omega);omega) ?_).mono ?_
   ·rw [a0f]
    by_cases hx0:x < 0
    ·have hy0:¬ y < 0:=by simpa [hx0] using hsg
     simp [hx0];omega
    ·have hy0:y < 0:=by simpa [hx0] using hsg
     simp [hx0];omega
   rintro _ G2 ⟨⟨s3,rfl,k5⟩,hx2⟩
   replace b0:=hx2.blk b0;replace b1:=hx2.blk b1;replace b2:=hx2.blk b2;replace hx:=hx.trans hx2;replace k2:=k2.mono hx2;replace k3:=k3.mono hx2;replace k4:=k4.mono hx2
   have hsz:=hx.1
   simp [b2,k5.cells,k5.plain,hsz]
   generalize hS:Array.setIfInBounds G2 _ _=G5
   have hsz:=hx.1;replace k2:=k2.setS hS b2 (by decide);replace k3:=k3.setS hS b2 (by decide);replace k4:=k4.setS hS b2 (by decide);replace k5:=k5.setS hS b2 (by decide);replace b0:=a0q hS b0 (by omega);replace b1:=a0q hS b1 (by omega);replace hx:=a0R hS hx (by omega);replace b2:=a0K hS b2;clear hS hsz
   simp [b2]
   exact fun _=>⟨s3,rfl,k5⟩
  ·have q1:x.natAbs < y.natAbs:=by omega
   simp [q1]
   refine a0Y ?_
   simp [t0G,b0,b1]
   refine (i0X k3 k2 (by have:=hx.1;omega) (by omega) (b0g (by omega)) (by rw [n1,n2];omega) (c0N (by omega))).mono ?_
   rintro z G2 ⟨k4,hx2⟩
   replace b0:=hx2.blk b0;replace b1:=hx2.blk b1;replace b2:=hx2.blk b2;replace hx:=hx.trans hx2;replace k2:=k2.mono hx2;replace k3:=k3.mono hx2
   rw [n1,n2] at k4
   simp
   refine (b0K (x + y) k4 hx.1 (by have:=hlen (y.natAbs - x.natAbs) (by omega);omega) ?_).mono ?_
   ·rw [a0f]
    by_cases hx0:x < 0
    ·have hy0:¬ y < 0:=by simpa [hx0] using hsg
     simp [hy0];omega
    ·have hy0:y < 0:=by simpa [hx0] using hsg
     simp [hy0];omega
   rintro _ G2 ⟨⟨s3,rfl,k5⟩,hx2⟩
   replace b0:=hx2.blk b0;replace b1:=hx2.blk b1;replace b2:=hx2.blk b2;replace hx:=hx.trans hx2;replace k2:=k2.mono hx2;replace k3:=k3.mono hx2;replace k4:=k4.mono hx2
   have hsz:=hx.1
   simp [b2,k5.cells,k5.plain,hsz]
   generalize hS:Array.setIfInBounds G2 _ _=G5
   have hsz:=hx.1;replace k2:=k2.setS hS b2 (by decide);replace k3:=k3.setS hS b2 (by decide);replace k4:=k4.setS hS b2 (by decide);replace k5:=k5.setS hS b2 (by decide);replace b0:=a0q hS b0 (by omega);replace b1:=a0q hS b1 (by omega);replace hx:=a0R hS hx (by omega);replace b2:=a0K hS b2;clear hS hsz
   simp [b2]
   exact fun _=>⟨s3,rfl,k5⟩
theorem m0U (h:b0j H v i) (k:b0j H w j) (hf:fl≤H.size) (hn:i.2.length < 268435456) (hm:j.2.length < 268435456):a0N env fl q0C [v,w] H (fun r H'=>b0j H' r (a0n (a0p i - a0p j))∧Ext H H') R:=by
 have k0:=h
 have k1:=k
 have hok2:=k.ok
 obtain ⟨s,rfl,hs⟩:=h
 obtain ⟨u,rfl,hu⟩:=k
 refine a0d O0l hf (h:=?_)
 intro ρ h0
 simp [x0n,s0D,h0,hs.cells,hu.cells]
 generalize hG:Array.push (Array.push (Array.push H _) _) _=G
 have hx2:Ext H G:=by rw [← hG];exact (Ext.refl H).push.push.push
 have b0:a0c.blk G H.size=.row false a0a [.bool i.1,s]:=by rw [← hG];simp
 have b1:a0c.blk G (H.size + 1)=.row false a0a [.bool j.1,u]:=by rw [← hG];simp
 have b2:a0c.blk G (H.size + 2)=.row false a0a [.bool false,.slice none 0 0]:=by rw [← hG];simp
 have hx:=Ext.refl H
 clear hG
 replace hx:=hx.trans hx2;replace k0:=k0.mono hx2;replace k1:=k1.mono hx2
 refine a0Y ?_
 simp [s0E,b0,b1]
 refine (m0T k1 (by have:=hx.1;omega) (by omega)).mono ?_
 rintro x G2 ⟨k2,hx2⟩
 replace b0:=hx2.blk b0;replace b1:=hx2.blk b1;replace b2:=hx2.blk b2;replace hx:=hx.trans hx2;replace k0:=k0.mono hx2;replace k1:=k1.mono hx2
 have hlen:(a0n (-a0p j)).2.length < 268435456:=by
  rw [q0T,Int.natAbs_neg];have:=a0o hok2;omega
 simp
 refine (m0R k0 k2 hx.1 hn hlen).mono ?_
 rintro _ G2 ⟨⟨s3,rfl,k5⟩,hx2⟩
 rw [a0s,← Int.sub_eq_add_neg] at k5 ⊢
 replace b0:=hx2.blk b0;replace b1:=hx2.blk b1;replace b2:=hx2.blk b2;replace hx:=hx.trans hx2;replace k0:=k0.mono hx2;replace k1:=k1.mono hx2;replace k2:=k2.mono hx2
 have hsz:=hx.1
 simp [b2,k5.cells,k5.plain,hsz]
 generalize hS:Array.setIfInBounds G2 _ _=G5
 have hsz:=hx.1;replace k0:=k0.setS hS b2 (by decide);replace k1:=k1.setS hS b2 (by decide);replace k2:=k2.setS hS b2 (by decide);replace k5:=k5.setS hS b2 (by decide);replace b0:=a0q hS b0 (by omega);replace b1:=a0q hS b1 (by omega);replace hx:=a0R hS hx (by omega);replace b2:=a0K hS b2;clear hS hsz
 simp [b2]
 exact fun _=>⟨s3,rfl,k5⟩
theorem m0S (h:b0j H v i) (k:b0j H w j) (hf:fl≤H.size) (hn:i.2.length < 268435456) (hm:j.2.length < 268435456):a0N env fl I0G [v,w] H (fun r H'=>r=.int .i64 (e0C (a0p i) (a0p j))∧Ext H H') R:=by
 have k0:=h
 have k1:=k
 obtain ⟨s,rfl,hs⟩:=h
 obtain ⟨u,rfl,hu⟩:=k
 refine a0d Q0D hf (h:=?_)
 intro ρ h0
 simp [N0c,E0k,h0,hs.cells,hu.cells]
 generalize hG:Array.push (Array.push H _) _=G
 have hx2:Ext H G:=by rw [← hG];exact (Ext.refl H).push.push
 have b0:a0c.blk G H.size=.row false a0a [.bool i.1,s]:=by rw [← hG];simp
 have b1:a0c.blk G (H.size + 1)=.row false a0a [.bool j.1,u]:=by rw [← hG];simp
 have hx:=Ext.refl H
 clear hG
 replace hx:=hx.trans hx2;replace k0:=k0.mono hx2;replace k1:=k1.mono hx2
 simp [E0l,b0,b1]
 refine (m0U k0 k1 hx.1 hn hm).mono ?_
 rintro _ G2 ⟨⟨s3,rfl,k5⟩,hx2⟩
 obtain ⟨z,hz⟩:∃ z,a0p i - a0p j=z:=⟨_,rfl⟩
 rw [hz] at k5 ⊢
 replace hx:=hx.trans hx2
 have hsz:=hx.1
 simp [k5.cells,k5.plain,hsz]
 generalize hN:Array.setIfInBounds (Array.push _ _) _ _=G3
 obtain ⟨hx2,b2⟩:=new1 hN
 clear hN
 replace hx:=hx.trans hx2;replace k5:=k5.mono hx2
 have hsl:=k5.slen
 have hc1:(a0n z).1=decide (z < 0):=rfl
 have hc2:(a0n z).2.length=(a0e z.natAbs).length:=rfl
 rw [hc1] at b2
 rw [hc2] at hsl
 unfold e0C
 by_cases h0z:z=0
 ·have e1:a0p i=a0p j:=by omega
  subst h0z
  have hd:a0e (Int.natAbs 0)=[]:=a0C
  simp [p0c,E0m,b2,hsl,hd,a0C,e1]
 ·have hpos:=c0N (show 0 < z.natAbs by omega)
  have hne:a0e z.natAbs ≠ []:=fun h=>by rw [h] at hpos;simp at hpos
  by_cases hneg:z < 0
  ·have e1:a0p i < a0p j:=by omega
   simp [p0c,v0z,E0n,b2,hsl,hne,hneg,e1]
  ·have e1:¬ a0p i < a0p j:=by omega
   have e2:a0p j < a0p i:=by omega
   simp [p0c,v0z,E0o,b2,hsl,hne,hneg,e1,e2]
theorem i0V (h:b0j H v i) (k:b0j H w j) (hf:fl≤H.size) (hn:i.2.length < 268435456) (hm:j.2.length < 268435456):a0N env fl I0C [v,w] H (fun r H'=>b0j H' r (a0n (Int.gcd (a0p i) (a0p j)))∧Ext H H') R:=by
 have k0:=h
 have k1:=k
 have hok:=h.ok
 have hok2:=k.ok
 obtain ⟨s,rfl,hs⟩:=h
 obtain ⟨u,rfl,hu⟩:=k
 refine a0d Q0r hf (h:=?_)
 intro ρ h0
 simp [M0Q,D0k,h0,hs.cells,hu.cells]
 generalize hG:Array.push (Array.push (Array.push H _) _) _=G
 have hx2:Ext H G:=by rw [← hG];exact (Ext.refl H).push.push.push
 have b0:a0c.blk G H.size=.row false a0a [.bool i.1,s]:=by rw [← hG];simp
 have b1:a0c.blk G (H.size + 1)=.row false a0a [.bool j.1,u]:=by rw [← hG];simp
 have b2:a0c.blk G (H.size + 2)=.row false a0a [.bool false,.slice none 0 0]:=by rw [← hG];simp
 have hx:=Ext.refl H
 clear hG
 replace hx:=hx.trans hx2;replace k0:=k0.mono hx2;replace k1:=k1.mono hx2
 have l1:=a0o hok
 have l2:=a0o hok2
 have hfd:∀ x s:Value,H0f false 1 1 (.agg #[x,s])=some s:=fun _ _=>rfl
 refine a0Y ?_
 simp [D0l,b0]
 refine (b0T k0 (by have:=hx.1;omega) (by omega)).mono ?_
 rintro _ G2 ⟨⟨s1,rfl,k2⟩,hx2⟩
 replace b0:=hx2.blk b0;replace b1:=hx2.blk b1;replace b2:=hx2.blk b2;replace hx:=hx.trans hx2;replace k0:=k0.mono hx2;replace k1:=k1.mono hx2
 simp [b1,hfd]
 refine (b0T k1 hx.1 (by omega)).mono ?_
 rintro _ G2 ⟨⟨s2,rfl,k3⟩,hx2⟩
 replace b0:=hx2.blk b0;replace b1:=hx2.blk b1;replace b2:=hx2.blk b2;replace hx:=hx.trans hx2;replace k0:=k0.mono hx2;replace k1:=k1.mono hx2;replace k2:=k2.mono hx2
 simp [hfd]
 refine b0A (fun c t G=>∃ (a b:Nat) (s5 s6:Value),c=b∧t.length=28∧get t 4=.pointer (some ⟨H.size + 2,0,none⟩)∧get t 5=s5∧get t 6=s6 ∧
   Ext H G∧a0c.blk G (H.size + 2)=.row false a0a [.bool false,.slice none 0 0]∧Lim G s5 (a0e a)∧Lim G s6 (a0e b) ∧
   (a0e a).length < 536870912∧(a0e b).length < 536870912∧Nat.gcd a b=Int.gcd (a0p i) (a0p j))
  (fun t G=>∃ (a:Nat) (s5:Value),t.length=28∧get t 4=.pointer (some ⟨H.size + 2,0,none⟩)∧get t 5=s5 ∧
   Ext H G∧a0c.blk G (H.size + 2)=.row false a0a [.bool false,.slice none 0 0]∧Lim G s5 (a0e a)∧(a0e a).length < 536870912∧a=Int.gcd (a0p i) (a0p j)) (a0p j).natAbs ?_ ?_ ?_
 ·exact ⟨(a0p i).natAbs,(a0p j).natAbs,s1,s2,rfl,by simp,by simp,by simp,by simp,hx,b2,k2,k3,by omega,by omega,rfl⟩
 ·clear h0 ρ k0 k1 k2 k3 b0 b1 b2 hx
  rintro c t G ⟨a,b,s5,s6,rfl,ht,g4,g5,g6,hx,b2,k5,k6,la,lb,hg⟩
  obtain ⟨ρ,rfl⟩:=toT ht
  simp only [b0o,Nat.reduceLT] at g4 g5 g6
  by_cases hb:c=0
  ·subst hb
   have hd:=a0C
   have hsl:=k6.slen
   rw [hd] at hsl
   simp at hsl
   simp [v0t,g6,hsl]
   have hga:a=Int.gcd (a0p i) (a0p j):=by simpa using hg
   rw [hga] at k5 la
   exact ⟨g4,hx,b2,by rw [g5];exact k5,la⟩
  ·have hpos:=c0N (show 0 < c by omega)
   have hpos':(0:Int) < ((a0e c).length:Int):=by omega
   have hne:a0e c ≠ []:=fun h=>by rw [h] at hpos;simp at hpos
   simp [v0t,D0m,g5,g6,k6.slen,hpos,hpos',hne]
   refine (j0I k5 k6 (by omega) hx.1 la lb).mono ?_
   rintro _ G2 ⟨⟨x,y,rfl,k7,k8⟩,hx2⟩
   simp [D0n,D0o,g6]
   have hlt:=R0V a (show c > 0 by omega)
   have hlc:(a0e (a % c)).length≤(a0e c).length:=b0g (T0g hlt)
   exact ⟨a % c,hlt,g4,hx.trans hx2,hx2.blk b2,c,k6.mono hx2,k8,lb,by omega,by rw [Nat.gcd_comm,← Nat.gcd_rec,Nat.gcd_comm];exact hg⟩
 ·clear h0 ρ k0 k1 k2 k3 b0 b1 b2 hx
  rintro t G ⟨a,s5,ht,g4,g5,hx,b2,k5,la,rfl⟩
  obtain ⟨ρ,rfl⟩:=toT ht
  simp only [b0o,Nat.reduceLT] at g4 g5
  simp [D0p,g5]
  refine (b0K ((Int.gcd (a0p i) (a0p j):Nat):Int) k5 hx.1 (by omega) (by simp [a0f])).mono ?_
  rintro _ G2 ⟨⟨s3,rfl,k5⟩,hx2⟩
  replace b2:=hx2.blk b2;replace hx:=hx.trans hx2
  have hsz:=hx.1
  simp [g4,b2,k5.cells,k5.plain,hsz]
  generalize hS:Array.setIfInBounds G2 _ _=G5
  have hsz:=hx.1;replace k5:=k5.setS hS b2 (by decide);replace hx:=a0R hS hx (by omega);replace b2:=a0K hS b2;clear hS hsz
  simp [b2]
  exact fun _=>⟨s3,rfl,k5⟩
end
section
open Go
set_option maxHeartbeats 4000000
variable {fl:Nat} {H G:a0c} {R:a0E} {v w:Value}
theorem h0n {n:Int} (hf:fl≤H.size) (h1:-9223372036854775808≤n) (h2:n < 9223372036854775808):a0N env fl F0G [.int .i64 n] H (fun r H'=>b0j H' r (a0n n)∧Ext H H') R:=by
 refine a0d P0Z hf (h:=?_)
 intro ρ h0
 have e1:0≤n→IntKind.u64.wrap n=((n.natAbs:Nat):Int):=fun _=>by rw [a0m];omega
 have e2:n < 0→IntKind.u64.wrap (-IntKind.u64.wrap n)=((n.natAbs:Nat):Int):=fun _=>by rw [a0m,a0m];omega
 obtain ⟨m,hm⟩:∃ m,n.natAbs=m:=⟨_,rfl⟩
 rw [hm] at e1 e2
 have hm2:m < 18446744073709551616:=by omega
 simp [M0z,C0h,h0]
 generalize hG:Array.push H _=G
 obtain ⟨hx2,b0⟩:=e0L hG
 have hx:=Ext.refl H
 clear hG
 replace hx:=hx.trans hx2
 have q1:IntKind.u32.wrap ((m:Int))=((m % 4294967296:Nat):Int):=by rw [d0t];omega
 have q2:IntKind.u32.wrap (((m / 4294967296:Nat):Int))=((m / 4294967296:Nat):Int):=by rw [d0t];omega
 have q3:b0X 0 .shr (.int .u64 (m:Int)) (.int .u64 32)=some (.int .u64 ((m / 2 ^ 32:Nat):Int)):=G0s (s:=32) (by omega)
 have q4:m / 2 ^ 32=m / 4294967296:=rfl
 rw [q4] at q3
 by_cases hn:n < 0
 ·simp [-Int.natCast_emod,-Int.natCast_ediv,v0l,v0m,C0i,v0n,h0,hn,e2 hn,q1,q2,q3]
  generalize hG:Array.push G _=G1
  obtain ⟨hx2,b1⟩:=e0L hG
  clear hG
  replace b0:=hx2.blk b0;replace hx:=hx.trans hx2
  have hl:Lim G1 (.slice (some ⟨Array.size G,0,none⟩) 2 2) [m % 4294967296,m / 4294967296]:=by
   refine ⟨(Own.mk (fl:=0) (n:=2) (sz:=1) (cs:=b0r [m % 4294967296,m / 4294967296]) ?_ rfl (R0H _)).sl,?_⟩
   ·rw [b1];rfl
   ·intro x hx;simp at hx;omega
  refine (b0K n hl hx.1 (by simp) ?_).mono ?_
  ·have:a0l [m % 4294967296,m / 4294967296]=m:=by simp [a0l];omega
   rw [this]
   simp;omega
  rintro _ G2 ⟨⟨s3,rfl,k5⟩,hx2⟩
  replace b0:=hx2.blk b0;replace b1:=hx2.blk b1;replace hx:=hx.trans hx2
  have hsz:=hx.1
  simp [b0,k5.cells,k5.plain,hsz]
  generalize hS:Array.setIfInBounds G2 _ _=G5
  have hsz:=hx.1;replace k5:=k5.setS hS b0 (by decide);replace hx:=a0R hS hx (by omega);replace b0:=a0K hS b0;clear hS hsz
  simp [b0]
  exact fun _=>⟨s3,rfl,k5⟩
 ·simp [-Int.natCast_emod,-Int.natCast_ediv,v0l,v0m,v0n,h0,hn,e1 (by omega),q1,q2,q3]
  generalize hG:Array.push G _=G1
  obtain ⟨hx2,b1⟩:=e0L hG
  clear hG
  replace b0:=hx2.blk b0;replace hx:=hx.trans hx2
  have hl:Lim G1 (.slice (some ⟨Array.size G,0,none⟩) 2 2) [m % 4294967296,m / 4294967296]:=by
   refine ⟨(Own.mk (fl:=0) (n:=2) (sz:=1) (cs:=b0r [m % 4294967296,m / 4294967296]) ?_ rfl (R0H _)).sl,?_⟩
   ·rw [b1];rfl
   ·intro x hx;simp at hx;omega
  refine (b0K n hl hx.1 (by simp) ?_).mono ?_
  ·have:a0l [m % 4294967296,m / 4294967296]=m:=by simp [a0l];omega
   rw [this]
   simp;omega
  rintro _ G2 ⟨⟨s3,rfl,k5⟩,hx2⟩
  replace b0:=hx2.blk b0;replace hx:=hx.trans hx2
  have hsz:=hx.1
  simp [b0,k5.cells,k5.plain,hsz]
  generalize hS:Array.setIfInBounds G2 _ _=G5
  have hsz:=hx.1;replace k5:=k5.setS hS b0 (by decide);replace hx:=a0R hS hx (by omega);replace b0:=a0K hS b0;clear hS hsz
  simp [b0]
  exact fun _=>⟨s3,rfl,k5⟩
theorem w0u:a0G 0=((false,[]),a0n 1):=by
 show (a0n 0,a0n 1)=_
 rw [h0e]
theorem f0U (hf:fl≤H.size):a0N env fl q0B [] H (fun r H'=>c0K H' r (a0G 0)∧Ext H H') R:=by
 refine a0d O0k hf (h:=?_)
 intro ρ h0
 simp [x0m,s0z,s0A,h0]
 generalize hG:Array.push H _=G
 obtain ⟨hx2,b0⟩:=e0L hG
 have hx:=Ext.refl H
 clear hG
 replace hx:=hx.trans hx2
 refine (h0n hx.1 (by omega) (by omega)).mono ?_
 rintro _ G2 ⟨⟨s3,rfl,k5⟩,hx2⟩
 replace b0:=hx2.blk b0;replace hx:=hx.trans hx2
 have hsz:=hx.1
 simp [b0,k5.cells,k5.plain,hsz,a0V]
 generalize hS:Array.setIfInBounds G2 _ _=G5
 have hsz:=hx.1;replace k5:=k5.setS hS b0 (by decide);replace hx:=a0R hS hx (by omega);replace b0:=a0K hS b0;clear hS hsz
 simp [b0]
 rw [w0u]
 exact fun _=>⟨.slice none 0 0,s3,rfl,Lim.nil,k5⟩
end
end Go.Proofs.YtacninhfdfhgjaaGreat.AI
