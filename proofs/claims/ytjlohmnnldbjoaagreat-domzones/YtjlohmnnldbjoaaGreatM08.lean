/- Part 9 of the proof: AiRefC4, AiRefC5, AiRefC6, AiRefC7, AiLp1, AiSx1, AiSx2, AiSx3, AiSx4, AiSx5, AiSx6, AiSx7. -/
import Derived.Test.YtjlohmnnldbjoaaGreatM06
import Derived.Test.YtjlohmnnldbjoaaGreatM07
set_option linter.unusedVariables false
set_option linter.unusedSimpArgs false
set_option linter.unusedSectionVars false
namespace Go.Proofs.YtjlohmnnldbjoaaGreat.AI
section
open Go
set_option maxHeartbeats 4000000
variable {fl:Nat} {H G:a0f} {R:a0E} {v w u:Value}
theorem A0r (x:Rat):((a0e x).1.2.length:Int)=if x=0 then 0 else ((lz x.num:Nat):Int):=by
 split
 ·rename_i h;subst h;rw [v0A];rfl
 ·rfl
theorem o0h {x:Rat} (h:x ≠ 0):0 < lz x.num:=c0i (by have:x.num ≠ 0:=fun h2=>h (Rat.num_eq_zero.1 h2);omega)
theorem K0v (a b c d:Value):J0H true 0 2 (.agg #[a,b,c,d])=some (.agg #[a,b]):=rfl
theorem K0u (a b:Value):J0H false 1 1 (.agg #[a,b])=some b:=rfl
theorem X0I (a b c d e:Value):J0H false 0 1 (.agg #[a,b,c,d,e])=some a:=rfl
theorem f0X {S:Nat} {a b:List b0x} (ha:a0T H v a) (hb:a0T H w b) (hf:fl≤H.size) (he:a.length=b.length) (hfa:Few S a) (hfb:Few S b) (hS:(a.length + 1) * (2 * S + 3) + 1 < 67108864) :
  a0U env fl K0o [v,w] H (fun r H'=>(∃ q,r=.tuple #[q,.int .i64 0]∧b0X H' q (a0e (f0D a b a.length)))∧Ext H H') R:=by
 refine a0i e1L hf (h:=?_)
 intro ρ h0
 have hal:a.length < 67108864:=by
  have:(a.length + 1) * 1≤(a.length + 1) * (2 * S + 3):=g1l _ (by omega)
  omega
 have hSl:S < 33554432:=by
  have:1 * (2 * S + 3)≤(a.length + 1) * (2 * S + 3):=f1S _ (by omega)
  omega
 simp [a1k,P0H,P0I,h0,ha.slen,hb.slen,he]
 generalize hG:Array.push H _=G
 obtain ⟨hx2,b0⟩:=g0B hG
 have hx:=Ext.refl H
 clear hG
 replace hx:=hx.trans hx2
 simp [P0J]
 refine (d0p hx.1).mono ?_
 rintro _ G2 ⟨⟨s1,s2,rfl,k0,k1⟩,hx2⟩
 replace b0:=hx2.blk b0;replace hx:=hx.trans hx2
 have hsz:=hx.1
 simp [h0,k0.cells,k0.plain,k1.cells,k1.plain,hsz]
 generalize hN:Array.setIfInBounds (Array.push _ _) _ _=G3
 obtain ⟨hx2,b1⟩:=new1 hN
 have hb0l:=a0l b0
 clear hN
 replace b0:=hx2.blk b0;replace hx:=hx.trans hx2;replace k0:=k0.mono hx2;replace k1:=k1.mono hx2
 obtain ⟨P,hP⟩:∃ P,P=G2.size:=⟨_,rfl⟩
 rw [← hP] at b1 hsz hb0l ⊢
 simp [P0K]
 refine c0l (fun i ρ G=>ρ 0=v∧ρ 1=w∧ρ 4=.pointer (some ⟨H.size,0,none⟩)∧ρ 5=.int .i64 0∧ρ 6=.pointer (some ⟨P,0,none⟩)∧ρ 7=.int .i64 (i:Int)∧Ext H G ∧
   a0f.blk G H.size=.row false a0b [.bool false,.slice none 0 0,.bool false,.slice none 0 0] ∧
   ∃ s1 s2,a0f.blk G P=.row false a0b [.bool (a0e (f0D a b i)).1.1,s1,.bool (a0e (f0D a b i)).2.1,s2]∧Lim G s1 (a0e (f0D a b i)).1.2∧Lim G s2 (a0e (f0D a b i)).2.2)
  a.length (by decide) ⟨by simp [h0],by simp [h0],by simp,by simp,by simp,by simp,hx,b0,s1,s2,b1,k0,k1⟩ ?_
 clear h0 ρ k0 k1 b0 b1 hx hx2
 rintro i ρ G hi1 ⟨g0,g1,g4,g5,g6,g7,hx,b0,s1,s2,b1,k0,k1⟩
 have ka:=ha.mono a0t hx
 have kb:=hb.mono a0t hx
 simp [P0L,g0,g7,ka.slen]
 refine d0f.mk (by simp) (fun hi=>?_) (fun heq=>?_)
 ·have hib:i < b.length:=by omega
  obtain ⟨wa,hla,k2⟩:=a0T.load ka hi
  obtain ⟨wb,hlb,k3⟩:=a0T.load kb hib
  have fa:=hfa _ (f1Q hi)
  have fb:=hfb _ (f1Q hib)
  have hd:f0D a b (i + 1)=f0D a b i + b0u a[i] * b0u b[i]:=by
   rw [f0D,f1H,f1H,f1M hi,f1M hib];rfl
  have hwn:=a0R (show i < 4611686018427387904 by omega)
  obtain ⟨ea,hea⟩:∃ x,x=a[i]:=⟨_,rfl⟩
  obtain ⟨eb,heb⟩:∃ x,x=b[i]:=⟨_,rfl⟩
  rw [← hea,← heb] at hd
  rw [← hea] at fa k2
  rw [← heb] at fb k3
  simp [P0M,g0,g7,ka.ia hi,hla]
  refine (b0z k2 hx.1 (by omega)).mono ?_
  rintro _ G2 ⟨⟨t1,t2,rfl,q1,q2⟩,hx2⟩
  replace ka:=ka.mono a0t hx2
  replace kb:=kb.mono a0t hx2
  replace k2:=k2.mono hx2
  replace k3:=k3.mono hx2
  replace k0:=k0.mono hx2
  replace k1:=k1.mono hx2
  replace b0:=hx2.blk b0
  replace b1:=hx2.blk b1
  replace hx:=hx.trans hx2
  have hsl:=q1.slen
  rw [A0r] at hsl
  by_cases hva:b0u ea=0
  ·have hz0:f0D a b i + b0u ea * b0u eb=f0D a b i:=by rw [hva,i1x,i1j]
   rw [f1N hva] at hsl
   simp [K0v,K0u,hsl]
   unfold e0t
   simp [x0c,g7,hwn]
   exact b0T.mk ⟨by simp [g0],by simp [g1],by simp [g4],by simp [g5],by simp [g6],by simp,hx,b0,s1,s2,by rw [hd,hz0];exact b1,by rw [hd,hz0];exact k0,by rw [hd,hz0];exact k1⟩
  rw [f1K hva] at hsl
  obtain ⟨wb',hlb',k3'⟩:=a0T.load kb hib
  rw [← heb] at k3'
  simp [K0v,K0u,hsl,o0h hva,g1,g7,kb.ia hib,hlb']
  refine (b0z k3' hx.1 (by omega)).mono ?_
  rintro _ G2 ⟨⟨t3,t4,rfl,q3,q4⟩,hx2⟩
  clear k3'
  replace ka:=ka.mono a0t hx2
  replace kb:=kb.mono a0t hx2
  replace k2:=k2.mono hx2
  replace k3:=k3.mono hx2
  replace k0:=k0.mono hx2
  replace k1:=k1.mono hx2
  replace b0:=hx2.blk b0
  replace b1:=hx2.blk b1
  replace hx:=hx.trans hx2
  have hsl2:=q3.slen
  rw [A0r] at hsl2
  by_cases hvb:b0u eb=0
  ·have hz0:f0D a b i + b0u ea * b0u eb=f0D a b i:=by rw [hvb,Rat.mul_zero,i1j]
   rw [f1N hvb] at hsl2
   simp [K0v,K0u,hsl2]
   unfold e0t
   simp [x0c,g7,hwn]
   exact b0T.mk ⟨by simp [g0],by simp [g1],by simp [g4],by simp [g5],by simp [g6],by simp,hx,b0,s1,s2,by rw [hd,hz0];exact b1,by rw [hd,hz0];exact k0,by rw [hd,hz0];exact k1⟩
  rw [f1K hvb] at hsl2
  simp [K0v,K0u,hsl2,o0h hvb]
  clear q1 q2 q3 q4 hsl hsl2 hlb' hla hlb k2 k3
  refine a0G ?_
  obtain ⟨wa,hla,k2⟩:=a0T.load ka hi
  obtain ⟨wb,hlb,k3⟩:=a0T.load kb hib
  rw [← hea] at k2
  rw [← heb] at k3
  have k4:b0X _ (.agg #[.bool (a0e (f0D a b i)).1.1,s1,.bool (a0e (f0D a b i)).2.1,s2]) (a0e (f0D a b i)):=⟨s1,s2,rfl,k0,k1⟩
  simp [P0N,g0,g1,g6,g7,ka.ia hi,kb.ia hib,hla,hlb,b1]
  refine (i0l k2 k3 (by have:=hx.1;omega) (by omega) (by omega)).mono ?_
  rintro _ G2 ⟨k5,hx2⟩
  replace k4:=k4.mono hx2
  replace k0:=k0.mono hx2
  replace k1:=k1.mono hx2
  replace b0:=hx2.blk b0
  replace b1:=hx2.blk b1
  replace hx:=hx.trans hx2
  have hsd:=k0v hfa hfb i
  have hsd2:i * (2 * S + 3)≤a.length * (2 * S + 3):=f1S _ (by omega)
  rw [g1e,g1A] at hS
  have hsm:=i0J (b0u ea) (b0u eb)
  have hs1:=b0N fa.2.1 fa.2.2
  have hs2:=b0N fb.2.1 fb.2.2
  simp
  refine (i0j k4 k5 hx.1 (by rw [a0V];omega) (by rw [a0V];omega)).mono ?_
  rintro _ G2 ⟨⟨s3,s4,rfl,k6,k7⟩,hx2⟩
  replace k0:=k0.mono hx2
  replace k1:=k1.mono hx2
  replace b0:=hx2.blk b0
  replace b1:=hx2.blk b1
  replace hx:=hx.trans hx2
  rw [a0H,a0H,← hd] at k6 k7 ⊢
  have hz:=a0l b1
  simp [g0,g1,g4,g5,g6,b1,k6.cells,k6.plain,k7.cells,k7.plain,hsz]
  generalize hS':Array.setIfInBounds _ _ _=G3
  have hS:=hS'
  replace k6:=k6.setS hS b1 (by decide)
  replace k7:=k7.setS hS b1 (by decide)
  replace b0:=a0o hS b0 (by omega)
  replace hx:=a0J hS hx (by omega)
  replace b1:=a0u hS b1
  unfold e0t
  simp [x0c,g7,hwn]
  exact b0T.mk ⟨by simp [g0],by simp [g1],by simp [g4],by simp [g5],by simp [g6],by simp,hx,b0,s3,s4,b1,k6,k7⟩
 ·subst heq
  have hz:=a0l b0
  simp [P0O,g4,g6,b1,b0,k0.cells,k0.plain,k1.cells,k1.plain,hz]
  refine fun _=>⟨s1,s2,?_,?_,?_⟩
  ·rw [← he]
  ·rw [← he];exact k0.setT b0 (by decide)
  ·rw [← he];exact k1.setT b0 (by decide)
theorem q0c {d:List d0K} (hd:g0m H v d) (hf:fl≤H.size) (hfd:z0h d) (hdl:d.length < 1073741824) :
  a0U env fl X0p [v] H (fun r H'=>r=.bool (f0B (fun e=>decide ((x0s e).1 < 0)) d)∧Ext H H') R:=by
 refine a0i e1y hf (h:=?_)
 intro ρ h0
 simp [Z0X,O0d,O0e,h0]
 refine c0l (fun n ρ G=>ρ 0=v∧ρ 3=.int .i64 (n:Int)∧Ext H G∧f0B (fun e:d0K=>decide ((x0s e).1 < 0)) (d.take n)=false) d.length (by decide) (by simp [h0,Ext.refl H,l0l]) ?_
 clear h0 ρ
 rintro n ρ G hn1 ⟨g0,g3,hx,hc⟩
 have kd:=hd.mono c0R hx
 simp [O0f,g0,g3,kd.slen]
 refine d0f.mk (by simp) (fun hi=>?_) (fun heq=>?_)
 ·obtain ⟨x,hl,k0⟩:=g0m.load kd hi
  simp [O0g,g0,g3,kd.ia hi,hl]
  refine (h0e k0 hx.1 (by have:=hfd _ (f1Q hi);omega)).mono ?_
  rintro _ G3 ⟨⟨s1,s2,rfl,k1,k2⟩,hx3⟩
  replace hx:=hx.trans hx3
  have kx:(k0C (x0s d[n])).1=(x0s d[n]).1:=by unfold k0C;split <;> simp_all
  rw [kx]
  by_cases hneg:(x0s d[n]).1 < 0
  ·simp [X0I,hneg,O0h]
   intros
   exact l0m hi (by simp [hneg])
  ·simp [X0I,hneg]
   unfold e0t
   simp [O0i,g3,a0R (show n < 4611686018427387904 by omega)]
   exact b0T.mk ⟨by simp [g0],by simp,hx,by rw [i0R hi,hc];simp [hneg]⟩
 ·subst heq
  rw [g1d] at hc
  simp [O0j,hc]
theorem g0i {n:Nat} (hf:fl≤H.size) (hn:n < 1073741824) :
  a0U env fl V0N [.int .i64 (n:Int)] H (fun r H'=>b0b PR H.size H' a0b 4 r (List.replicate n (a0e 0))∧Ext H H') R:=by
 refine a0i f1e hf (h:=?_)
 intro ρ h0
 simp [a1D,R0o,R0p,R0q,h0]
 refine c0l (fun i ρ G=>ρ 0=.int .i64 (n:Int)∧ρ 4=.int .i64 (i:Int)∧Ext H G∧b0b PR H.size G a0b 4 (ρ 3) (List.replicate i (a0e 0))) n (by decide) ⟨by simp [h0],by simp,Ext.refl H,by simpa using b0b.nil⟩ ?_
 clear h0 ρ
 rintro i ρ G hi1 ⟨g0,g4,hx,ho⟩
 obtain ⟨s,g3⟩:∃ s,ρ 3=s:=⟨_,rfl⟩
 rw [g3] at ho
 simp [R0r,g0,g4]
 refine d0f.mk (by simp) (fun hi=>?_) (fun heq=>?_)
 ·simp [R0s,g3]
  refine (d0O (n:=0) hx.1 (by omega) (by omega)).mono ?_
  rintro _ G2 ⟨⟨s3,s4,rfl,k3,k4⟩,hx2⟩
  replace hx:=hx.trans hx2
  replace ho:=ho.mono a0t hx2
  obtain ⟨s',G4,h1,h2,h3,h4⟩:=b0b.app (P:=PR) (sz:=4) (e:=a0b) (by decide) (fun G' cs x _ hl h=>b0X.lx h hl) ho (e2:=a0b) (c:=1) (bytes:=64) (new:=[.bool (a0e 0).1.1,s3,.bool (a0e 0).2.1,s4]) (x:=a0e 0) ⟨s3,s4,rfl,k3,k4⟩ rfl (by simp [k3.plain,k4.plain]) (by simp;omega) (by omega) (by omega) hx.1
  have k3':a0W s3=[s3]:=k3.cells
  simp [g3,k3.cells,k4.cells,h1]
  unfold e0t
  simp [R0t,g4,a0R (show i < 4611686018427387904 by omega)]
  exact b0T.mk ⟨by simp [g0],by simp,h4 _ (f1I _) hx,b0b.cast (v':=s') (by simp) (by rw [List.replicate_succ'];exact h2)⟩
 ·subst heq
  simp [R0u,g3]
  exact fun _=>ho
theorem p0x {o:Option Nat} {H0 G':a0f} (h:Ext H0 G) (hx:e0l o G G') (ho:∀ b,o=some b→H0.size≤b):Ext H0 G':=by
 refine ⟨f1Y h.1 hx.1,fun b hb=>?_⟩
 rw [hx.2 b (g1c hb h.1) (fun he=>by have:=ho b he;omega)]
 exact h.2 b hb
theorem b0b.app0 {α β:Type} {P:a0f→List Value→α→Prop} {Q:a0f→List Value→β→Prop} {fl fl' fl2 e sz sz' e' bytes:Nat} {v w:Value} {l:List α} {H':a0f} (h:b0b P fl G e sz v l) (k:b0b Q fl' H' e' sz' w ([]:List β)) :
  j0M fl2 H e sz bytes v w=some (v,H):=by
 obtain ⟨cs,⟨_,h1⟩,_⟩:=h
 obtain ⟨cs',⟨_,k1⟩,_⟩:=k
 rcases h1 with ⟨rfl,_⟩ | ⟨b,c,rfl,_⟩ <;> rcases k1 with ⟨rfl,_⟩ | ⟨b',c',rfl,_⟩ <;> simp [j0M]
def S0X (H:a0f) (P m:Nat) (s w sC:Value) (rows:List (List b0x)) (d:List d0K) (i:Nat) (ρ:Nat→Value) (G:a0f):Prop :=
 ρ 1=.int .i64 (m:Int)∧ρ 2=.int .i64 0∧ρ 3=w∧ρ 4=.pointer (some ⟨H.size,0,none⟩)∧ρ 8=.pointer (some ⟨H.size + 1,0,none⟩)∧ρ 9=.pointer (some ⟨P,0,none⟩)∧ρ 10=.int .i64 (i:Int)∧Ext H G ∧
  a0f.blk G H.size=.row false a0C [s]∧a0f.blk G (H.size + 1)=.row false b0k [.int .i64 0,.slice none 0 0,.slice none 0 0,.slice none 0 0] ∧
  ∃ sA sB,a0f.blk G P=.row false b0k [.int .i64 (m:Int),sA,sB,sC]∧b0b (PSo (slB sB)) H.size G a0A 1 sA (b0V (rows.take i) (d.take i)) ∧
   b0b PR H.size G a0b 4 sB (c0W (rows.take i) (d.take i))∧a0T G sC (List.replicate m (a0e 0))∧(slB sC=none ∨ slB sC ≠ slB sB)
theorem q0e {S m:Nat} {rows:List (List b0x)} {d:List d0K} (h:d0U H v rows) (hd:g0m H w d) (hf:fl≤H.size) (hS:S < 67108864) (hr:∀ r ∈ rows,Few S r∧r.length=m) (hm:m < 1073741824) (hfd:z0h d) (hdl:d.length < 1073741824) (hdr:d.length=rows.length) (hmay:∀ e ∈ d,n0r e=true) :
  a0U env fl X0r [v,.int .i64 (m:Int),.int .i64 0,w] H (fun r H'=>LPV H' r ⟨m,b0V rows d,c0W rows d,List.replicate m (a0e 0)⟩∧Ext H H') R:=by
 obtain ⟨s,rfl,hs⟩:=h
 refine a0i e1H hf (h:=?_)
 intro ρ h0
 have w0:IntKind.i64.wrap ((m:Int) + 0)=(m:Int):=by rw [h1m];exact a0Q (by omega) (by omega)
 rw [h1m] at w0
 simp [a1g,P0b,h0,hs.cells]
 generalize hG:Array.push (Array.push H _) _=G
 have hx:Ext H G:=by rw [← hG];exact (Ext.refl H).push.push
 have b0:a0f.blk G H.size=.row false a0C [s]:=by rw [← hG];simp
 have b1:a0f.blk G (H.size + 1)=.row false b0k [.int .i64 0,.slice none 0 0,.slice none 0 0,.slice none 0 0]:=by rw [← hG];simp
 clear hG
 simp [P0c,h0,w0]
 refine (g0i (n:=m) hx.1 hm).mono ?_
 rintro sC G4 ⟨hC,hx2⟩
 replace b0:=hx2.blk b0;replace b1:=hx2.blk b1;replace hx:=hx.trans hx2
 have kC:=hC.sls
 have hsz:=hx.1
 have hb1l:=a0l b1
 simp [h0,kC.cells,kC.plain,hsz]
 generalize hN:Array.setIfInBounds (Array.push _ _) _ _=G5
 obtain ⟨hx2,b3⟩:=new1 hN
 clear hN
 replace b0:=hx2.blk b0;replace b1:=hx2.blk b1;replace hx:=hx.trans hx2
 replace kC:=kC.mono a0t hx2
 obtain ⟨P,hP⟩:∃ P,P=G4.size:=⟨_,rfl⟩
 rw [← hP] at b3 hsz hb1l ⊢
 have hPH:=hsz
 have hPne:P ≠ H.size + 1:=by omega
 simp [P0d]
 refine c0l (S0X H P m s w sC rows d) d.length (by decide) ⟨by simp [h0],by simp [h0],by simp [h0],by simp,by simp,by simp,by simp,hx,b0,b1,_,_,b3,by simpa [b0V] using b0b.nil,by simpa [c0W] using b0b.nil,kC,by
   cases hsc:slB sC with
   | none=>exact .inl rfl
   | some b=>right;simp [slB]⟩ ?_
 clear h0 ρ hx b0 b1 b3 kC hC hx2
 rintro i ρ G hi1 ⟨g1,g2,g3,g4,g8,g9,g10,hx,b0,b1,sA,sB,b3,hA,hB,kC,hCB⟩
 have kd:=hd.mono c0R hx
 simp [P0e,g3,g10,kd.slen]
 refine d0f.mk (by simp) (fun hi=>?_) (fun heq=>?_)
 ·have hir:i < rows.length:=by omega
  have hwn:=a0R (show i < 4611686018427387904 by omega)
  have ks:=hs.mono b0w hx
  obtain ⟨we,hle,k0⟩:=g0m.load kd hi
  have hme:=hmay _ (f1Q hi)
  obtain ⟨e,hee⟩:∃ e,e=d[i]:=⟨_,rfl⟩
  have hfe:=hfd _ (f1Q hi)
  have pA:=h0B hir hi
  have pB:=h0C hir hi
  rw [← hee] at hme k0 hfe pA pB
  simp [P0f,g3,g10,kd.ia hi,hle]
  refine (h0e k0 hx.1 (by omega)).mono ?_
  rintro _ G2 ⟨⟨s1,s2,rfl,k1,k2⟩,hx2⟩
  replace b0:=hx2.blk b0;replace b1:=hx2.blk b1;replace b3:=hx2.blk b3;replace hx:=hx.trans hx2
  replace ks:=ks.mono b0w hx2
  replace hA:=hA.mono i0w hx2
  replace hB:=hB.mono a0t hx2
  replace kC:=kC.mono a0t hx2
  have hsz:=hx.1
  simp [k1.cells,k1.plain,k2.cells,k2.plain,hsz]
  generalize hN:Array.setIfInBounds (Array.push _ _) _ _=G3
  obtain ⟨hx2,b4⟩:=new1 hN
  clear hN
  replace b0:=hx2.blk b0;replace b1:=hx2.blk b1;replace b3:=hx2.blk b3;replace hx:=hx.trans hx2;replace k1:=k1.mono hx2;replace k2:=k2.mono hx2
  replace ks:=ks.mono b0w hx2
  replace hA:=hA.mono i0w hx2
  replace hB:=hB.mono a0t hx2
  replace kC:=kC.mono a0t hx2
  obtain ⟨P2,hP2⟩:∃ P2,P2=G2.size:=⟨_,rfl⟩
  rw [← hP2] at b4 hsz ⊢
  have hve:x0s e=if e.1=0 then (0,b0u e.2) else (e.1,0):=by unfold x0s;rw [f1N hme]
  by_cases he:e.1=0
  ·rw [f1N he] at hve pA pB
   have hcE:k0C (x0s e)=(0,a0e (b0u e.2)):=by rw [hve];rfl
   rw [hcE] at b4 k1 k2
   simp only at b4 k1 k2
   obtain ⟨q,hq⟩:∃ q,q=a0e (b0u e.2):=⟨_,rfl⟩
   rw [← hq] at b4 k1 k2 pB
   rw [hcE,← hq]
   simp [I0p,b4,P0g,P0h]
   obtain ⟨hfew,hrlen⟩:=hr _ (f1Q hir)
   have hBlt:∀ b,slB sB=some b→b < G3.size:=fun b h=>(hB.ge h).2
   have hlA:=j0o (rows.take i) (d.take i)
   have hlB:=m0k (rows.take i) (d.take i)
   simp only [g1P] at hlA hlB
   obtain ⟨ri,hri⟩:∃ r,r=rows[i]:=⟨_,rfl⟩
   rw [← hri] at hfew hrlen pA
   refine c0l (fun k ρ G'=>ρ 1=.int .i64 (m:Int)∧ρ 2=.int .i64 0∧ρ 3=w∧ρ 4=.pointer (some ⟨H.size,0,none⟩)∧ρ 8=.pointer (some ⟨H.size + 1,0,none⟩)∧ρ 9=.pointer (some ⟨P,0,none⟩)∧ρ 10=.int .i64 (i:Int)∧ρ 11=.pointer (some ⟨P2,0,none⟩)∧ρ 13=.int .i64 (k:Int) ∧
    Ext G3 G'∧b0b PR H.size G' a0b 4 (ρ 12) ((i0x ri).take k)∧∀ b,slB (ρ 12)=some b→G3.size≤b) m (by decide)
    ⟨by simp [g1],by simp [g2],by simp [g3],by simp [g4],by simp [g8],by simp [g9],by simp [g10],by simp,by simp,Ext.refl G3,by simpa using b0b.nil,by simp [slB]⟩ ?_
   clear g1 g2 g3 g4 g8 g9 g10 ρ
   rintro k ρ G4 hk1 ⟨g1,g2,g3,g4,g8,g9,g10,g11,g13,hx3,ho,hge⟩
   obtain ⟨a,g12⟩:∃ s,ρ 12=s:=⟨_,rfl⟩
   rw [g12] at ho hge
   simp [P0i,g1,g13]
   have hown:(i0x ri).length=m:=by unfold i0x;simp [hrlen]
   refine d0f.mk (by simp) (fun hk=>?_) (fun heq=>?_)
   ·have ks4:=ks.mono b0w hx3
    obtain ⟨wr,hlr,kr⟩:=d0v.load ks4 hir
    rw [← hri] at kr
    have hkr:k < ri.length:=by omega
    obtain ⟨wx,hlx,kx⟩:=a0T.load kr hkr
    simp [P0j,g4,g10,g12,g13,hx3.blk b0,ks4.ia hir,hlr,kr.ia hkr,hlx]
    refine (b0z kx (by have:=hx.1;have:=hx3.1;omega) (by have:=(hfew _ (f1Q hkr)).1;omega)).mono ?_
    rintro _ G5 ⟨⟨s3,s4,rfl,k3,k4⟩,hx2⟩
    replace hx3:=hx3.trans hx2
    replace ho:=ho.mono a0t hx2
    obtain ⟨v',G6,h1,h2,h3,h4⟩:=b0b.app (P:=PR) (sz:=4) (e:=a0b) (by decide) (fun G' cs x _ hl h=>b0X.lx h hl) ho (e2:=a0b) (c:=1) (bytes:=64) (new:=[.bool (a0e (b0u ri[k])).1.1,s3,.bool (a0e (b0u ri[k])).2.1,s4]) (x:=a0e (b0u ri[k])) ⟨s3,s4,rfl,k3,k4⟩ rfl (by simp [k3.plain,k4.plain]) (by simp;omega) (by omega) (by omega) (by have:=hx.1;have:=hx3.1;omega)
    obtain ⟨m1,c1,hfr⟩:=d0M (by decide) h1
    simp [g12,k3.cells,k4.cells,h1]
    unfold e0t
    simp [I0k,g13,a0R (show k < 4611686018427387904 by omega)]
    refine b0T.mk ⟨by simp [g1],by simp [g2],by simp [g3],by simp [g4],by simp [g8],by simp [g9],by simp [g10],by simp [g11],by simp,p0x hx3 h3 hge,b0b.cast (v':=v') (by simp) (by unfold i0x;rw [r0a hkr];exact h2),?_⟩
    intro b hb
    have hb':slB v' = some b:=by simpa using hb
    rw [hfr] at hb'
    simp [slB] at hb'
    have:=hx3.1
    omega
   ·subst heq
    rw [f1W (by omega)] at ho
    have hx2:=hx3
    replace b0:=hx2.blk b0;replace b1:=hx2.blk b1;replace b3:=hx2.blk b3;replace b4:=hx2.blk b4;replace hx:=hx.trans hx2;replace k1:=k1.mono hx2;replace k2:=k2.mono hx2
    replace hA:=hA.mono i0w hx2
    replace hB:=hB.mono a0t hx2
    replace kC:=kC.mono a0t hx2
    simp [I0l,g2,g12]
    have hn0:=fun R'=>g0i (n:=0) (fl:=H.size) (H:=G4) (R:=R') hx.1 (by omega)
    simp only [Int.natCast_zero] at hn0
    refine (hn0 _).mono ?_
    rintro z G5 ⟨hz0,hx2⟩
    replace b0:=hx2.blk b0;replace b1:=hx2.blk b1;replace b3:=hx2.blk b3;replace b4:=hx2.blk b4;replace hx:=hx.trans hx2;replace k1:=k1.mono hx2;replace k2:=k2.mono hx2
    replace hA:=hA.mono i0w hx2
    replace hB:=hB.mono a0t hx2
    replace kC:=kC.mono a0t hx2
    replace ho:=ho.mono a0t hx2
    have happ:=b0b.app0 (H:=G5) (e:=a0b) (sz:=4) (bytes:=64) (fl2:=H.size) ho hz0
    have hrB:slB a=none ∨ slB a ≠ slB sB:=by
     cases hr1:slB a with
     | none=>exact .inl rfl
     | some b =>
      right;intro h
      have h1:=hge b hr1
      have h2:=hBlt b h.symm
      omega
    obtain ⟨cr,pr⟩:=ho.cells
    simp [g2,g12,happ]
    obtain ⟨sA',G6,h1,h2,h3,h4⟩:=b0b.app (P:=PSo (slB sB)) (sz:=1) (e:=a0A) (by decide)
     (fun G' cs x hxb hl ⟨w',q1,q2,q3⟩=>⟨w',q1,q2.lx2 (hA.lxT (by decide) hxb) hl,q3⟩) hA (e2:=a0A) (c:=1) (bytes:=24) (new:=[a]) (x:=i0x ri) ⟨a,rfl,ho.sls,hrB⟩ rfl (by simp [pr]) (by omega) (by omega) (by omega) hx.1
    have hlx:=hA.lx (by decide) h3
    have hlr:=hA.lxT (e':=a0b) (by decide) h3
    have nA0:=hA.ne b0 (by decide)
    have nA1:=hA.ne b1 (by decide)
    have nA3:=hA.ne b3 (by decide)
    have nA4:=hA.ne b4 (by decide)
    obtain ⟨cA,pA'⟩:=h2.cells
    have hz3:=a0l b3
    simp [I0m,g9,b3,cr,h1,cA,pA',hPH]
    replace b0:=(h3.2 _ (a0l b0) nA0).trans b0
    replace b1:=(h3.2 _ (a0l b1) nA1).trans b1
    replace b3:=(h3.2 _ (a0l b3) nA3).trans b3
    replace b4:=(h3.2 _ (a0l b4) nA4).trans b4
    replace hx:=h4 _ (f1I _) hx
    replace k1:=k1.lx hlx
    replace k2:=k2.lx hlx
    replace kC:=a0T.lx2 kC hlr hlx
    replace hB:=hB.lxm (Q':=PR) hlr (fun cs x h=>b0X.lx h hlx)
    rw [← pA] at h2
    replace hA:=h2
    clear h1 h2 h3 h4 ho happ hz0
    have hz:=a0l b3
    simp [b3,cA,pA',hPH,hz]
    generalize hS1:Array.setIfInBounds G6 P _=G7
    have t1:∀ {e:Nat},b0k ≠ e→LxT e G6 G7:=fun hne=>b0e hS1 b3 hne
    have n0:P ≠ H.size:=by intro h;rw [h,b0] at b3;cases b3
    have n4:P ≠ P2:=by intro h;rw [h,b4] at b3;cases b3
    replace hA:=hA.lxm (Q':=PSo (slB sB)) (t1 (by decide)) (fun cs x ⟨w',q1,q2,q3⟩=>⟨w',q1,q2.lx2 (t1 (by decide)) (t1 (by decide)),q3⟩)
    replace hB:=hB.lxm (Q':=PR) (t1 (by decide)) (fun cs x h=>b0X.lx h (t1 (by decide)))
    replace kC:=a0T.lx2 kC (t1 (by decide)) (t1 (by decide))
    replace k1:=k1.lx (t1 (by decide))
    replace k2:=k2.lx (t1 (by decide))
    replace b0:=a0o hS1 b0 n0
    replace b1:=a0o hS1 b1 hPne
    replace b4:=a0o hS1 b4 n4
    replace hx:=a0J hS1 hx hPH
    replace b3:=a0u hS1 b3
    clear hS1
    obtain ⟨sB',G8,p1,p2,p3,p4⟩:=b0b.app (P:=PR) (sz:=4) (e:=a0b) (by decide) (fun G' cs x _ hl h=>b0X.lx h hl) hB (e2:=a0b) (c:=1) (bytes:=64) (new:=[.bool q.1.1,s1,.bool q.2.1,s2]) (x:=q) ⟨s1,s2,rfl,k1,k2⟩ rfl (by simp [k1.plain,k2.plain]) (by omega) (by omega) (by omega) hx.1
    obtain ⟨_,_,hBe⟩:=d0M (by decide) p1
    obtain ⟨cB,pB'⟩:=p2.cells
    simp [I0n,g9,g11,b3,b4,k1.cells,k2.cells,p1]
    have hlx:=hB.lx (by decide) p3
    have nB0:=hB.ne b0 (by decide)
    have nB1:=hB.ne b1 (by decide)
    have nB3:=hB.ne b3 (by decide)
    have hsBn:slB sB' = some (G7.size + 1):=by rw [hBe];simp [slB]
    have hA':b0b (PSo (slB sB')) H.size G8 a0A 1 sA' (b0V (rows.take (i + 1)) (d.take (i + 1))):=by
     refine hA.lxm (hB.lxT (by decide) p3) (fun cs x ⟨w',q1,q2,q3⟩=>⟨w',q1,q2.off p3 q3 hlx,?_⟩)
     cases hw:slB w' with
     | none=>exact .inl rfl
     | some b=>right;rw [hsBn];have:=q2.lt hw;simp;omega
    have hCB':slB sC=none ∨ slB sC ≠ slB sB':=by
     cases hw:slB sC with
     | none=>exact .inl rfl
     | some b=>right;rw [hsBn];have:=a0T.lt kC hw;simp;omega
    replace kC:=a0T.off kC p3 hCB hlx
    replace b0:=(p3.2 _ (a0l b0) nB0).trans b0
    replace b1:=(p3.2 _ (a0l b1) nB1).trans b1
    replace b3:=(p3.2 _ (a0l b3) nB3).trans b3
    replace hx:=p4 _ (f1I _) hx
    rw [← pB] at p2
    have hz:=a0l b3
    simp [b3,cB,pB',hPH,hz]
    generalize hS1:Array.setIfInBounds G8 P _=G9
    have t1:∀ {e:Nat},b0k ≠ e→LxT e G8 G9:=fun hne=>b0e hS1 b3 hne
    unfold e0t
    simp [v0a,g10,hwn]
    refine b0T.mk ⟨by simp [g1],by simp [g2],by simp [g3],by simp [g4],by simp [g8],by simp [g9],by simp,a0J hS1 hx hPH,a0o hS1 b0 n0,a0o hS1 b1 hPne,sA',sB',a0u hS1 b3,?_,?_,?_,hCB'⟩
    ·exact hA'.lxm (t1 (by decide)) (fun cs x ⟨w',q1,q2,q3⟩=>⟨w',q1,q2.lx2 (t1 (by decide)) (t1 (by decide)),q3⟩)
    ·exact p2.lxm (t1 (by decide)) (fun cs x h=>b0X.lx h (t1 (by decide)))
    ·exact a0T.lx2 kC (t1 (by decide)) (t1 (by decide))
  ·rw [f1K he,i1C] at pA pB
   rw [f1K he] at hve
   have hcE:(k0C (x0s e)).1=e.1:=by rw [hve];unfold k0C;rw [f1K he]
   rw [hcE] at b4
   simp [I0p,b4,he]
   unfold e0t
   simp [v0a,g10,hwn]
   exact b0T.mk ⟨by simp [g1],by simp [g2],by simp [g3],by simp [g4],by simp [g8],by simp [g9],by simp,hx,b0,b1,sA,sB,b3,by rw [pA];exact hA,by rw [pB];exact hB,kC,hCB⟩
 ·subst heq
  rw [hdr,g1d,← hdr,g1d] at hA hB
  have hz:=a0l b1
  obtain ⟨cA,pA⟩:=hA.cells
  obtain ⟨cB,pB⟩:=hB.cells
  simp [I0o,g8,g9,b3,b1,cA,pA,cB,pB,kC.cells,kC.plain,hz]
  generalize hS:Array.setIfInBounds _ _ _=G9
  have t1:∀ {e:Nat},b0k ≠ e→LxT e G G9:=fun hne=>b0e hS b1 hne
  refine fun _=>⟨sA,sB,sC,rfl,?_,a0T.lx2 hB.sls (t1 (by decide)) (t1 (by decide)),a0T.lx2 kC (t1 (by decide)) (t1 (by decide))⟩
  exact d0v.lx3 (hA.imp (fun cs x ⟨w',q1,q2,_⟩=>⟨w',q1,q2⟩)).sls (t1 (by decide)) (t1 (by decide)) (t1 (by decide))
theorem p0K {rows:List (List b0x)} {n:Int} {d:List d0K} (h:c0v rows n d=true):d.length=rows.length∧(∀ e ∈ d,n0r e=true)∧0≤n∧n≤6∧rows.length≤40∧∀ r ∈ rows,(r.length:Int)=n:=by
 unfold c0v g0j at h
 simp only [g1b,g1T,h1D] at h
 obtain ⟨⟨⟨⟨⟨h1,h2⟩,h3⟩,h4⟩,h5⟩,h6⟩:=h
 refine ⟨h5,fun e he=>?_,h1,h2,h3,fun r hr=>?_⟩
 ·cases hm:n0r e with
  | true=>rfl
  | false=>exact g1g (h1Z.2 ⟨e,he,(by rw [hm];rfl:(!n0r e)=true)⟩) (by unfold f0B at h6;rw [h6];decide)
 ·unfold r0e at h4
  have:=g1w.1 h4 r hr
  unfold i0G at this
  simp only [g1b,g1T] at this
  exact this.1
theorem z0B {d:List d0K} (h:∀ e ∈ d,n0r e=true):f0B (fun e=>decide ((x0s e).1 < 0)) d=f0B (fun e:d0K=>decide (e.1 < 0)) d:=by
 induction d with
 | nil=>rfl
 | cons e l ih =>
  have h1:=h e (by simp)
  have h2:(x0s e).1=e.1:=by unfold x0s;rw [f1N h1];split;rename_i h;rw [h];rfl
  have h3:=ih (fun x hx=>h x (by simp [hx]))
  unfold f0B at h3 ⊢
  rw [List.any_cons,List.any_cons,h3,h2]
theorem l0e {S:Nat} {rows:List (List b0x)} {n:Int} {d:List d0K} (h:d0U H v rows) (hd:g0m H w d) (hf:fl≤H.size) (hS:S < 67108864) (hr:∀ r ∈ rows,Few S r∧r.length < 1073741824) (hrl:rows.length < 1073741824) (hfd:z0h d) (hdl:d.length < 1073741824) :
  a0U env fl X0k [v,.int .i64 n,w] H (fun r H'=>(if c0v rows n d=true∧f0B (fun e=>decide (e.1 < 0)) d=false then ∃ p,r=.tuple #[p,.bool true]∧LPV H' p ⟨n,b0V rows d,c0W rows d,List.replicate n.toNat (a0e 0)⟩ else ∃ p,r=.tuple #[p,.bool false]∧LPV H' p ⟨0,[],[],[]⟩)∧Ext H H') R:=by
 obtain ⟨s,rfl,hs⟩:=h
 refine a0i e1s hf (h:=?_)
 intro ρ h0
 simp [Z0R,N0B,h0,hs.cells]
 generalize hG:Array.push (Array.push H _) _=G
 have hx:Ext H G:=by rw [← hG];exact (Ext.refl H).push.push
 have b0:a0f.blk G H.size=.row false a0C [s]:=by rw [← hG];simp
 have b1:a0f.blk G (H.size + 1)=.row false b0k [.int .i64 0,.slice none 0 0,.slice none 0 0,.slice none 0 0]:=by rw [← hG];simp
 clear hG
 have kt:d0U G (.agg #[s]) rows:=⟨s,rfl,hs.mono b0w hx⟩
 simp [N0C,h0,b0]
 refine (m0m kt (hd.mono c0R hx) hx.1 hS hr hrl hfd hdl).mono ?_
 rintro _ G2 ⟨rfl,hx2⟩
 replace b0:=hx2.blk b0;replace b1:=hx2.blk b1;replace hx:=hx.trans hx2
 cases hv:c0v rows n d
 ·have hz:=a0l b1
  simp [E0H,h0,b1,hz]
  exact fun _=>⟨_,_,_,rfl,Sls.nil,Sls.nil,Sls.nil⟩
 obtain ⟨hdr,hmay,hn0,hn6,hr40,hrn⟩:=p0K hv
 simp [h0]
 refine (q0c (hd.mono c0R hx) hx.1 hfd hdl).mono ?_
 rintro _ G2 ⟨rfl,hx2⟩
 replace b0:=hx2.blk b0;replace b1:=hx2.blk b1;replace hx:=hx.trans hx2
 rw [z0B hmay]
 cases hno:f0B (fun e:d0K=>decide (e.1 < 0)) d
 case true =>
  have hz:=a0l b1
  simp [E0H,h0,b1,hz]
  exact fun _=>⟨_,_,_,rfl,Sls.nil,Sls.nil,Sls.nil⟩
 obtain ⟨m,rfl⟩:∃ m:Nat,n=m:=⟨n.toNat,by omega⟩
 have kt:d0U G2 (.agg #[s]) rows:=⟨s,rfl,hs.mono b0w hx⟩
 simp [N0D,h0,b0]
 refine (q0e (S:=S) (m:=m) kt (hd.mono c0R hx) hx.1 hS (fun r hr'=>⟨(hr r hr').1,by have:=hrn r hr';omega⟩) (by omega) hfd hdl hdr hmay).mono ?_
 rintro _ G3 ⟨⟨sA,sB,sC,rfl,kA,kB,kC⟩,hx2⟩
 replace b1:=hx2.blk b1;replace hx:=hx.trans hx2
 have hz:=a0l b1
 simp [b1,kA.cells,kA.plain,kB.cells,kB.plain,kC.cells,kC.plain,hz]
 generalize hS:Array.setIfInBounds _ _ _=G9
 have t1:∀ {e:Nat},b0k ≠ e→LxT e G3 G9:=fun hne=>b0e hS b1 hne
 refine fun _=>⟨sA,sB,sC,rfl,?_,a0T.lx2 kB (t1 (by decide)) (t1 (by decide)),a0T.lx2 kC (t1 (by decide)) (t1 (by decide))⟩
 exact d0v.lx3 kA (t1 (by decide)) (t1 (by decide)) (t1 (by decide))
theorem l0A {a:List (List b0x)} {p:List b0x→Bool} {g:FuncId} {c:Value} (I:a0f→Prop) (hI:∀ G G',Ext G G'→I G→I G') (h0:I H) (ha:d0v H v a) (hf:fl≤H.size) (hal:a.length < 1073741824)
  (hg:∀ (fl:Nat) (G:a0f) (v:Value) (e:List b0x),I G→fl≤G.size→a0T G v e→a0U env fl g [v,c] G (fun r H'=>r=.bool (p e)∧Ext G H') R) :
  a0U env fl z0P [v,.func (.func g) #[] #[c]] H (fun r H'=>(∃ z:Int,r=.int .i64 z∧(0≤z ↔ f0B p a=true))∧Ext H H') R:=by
 refine a0i c1x hf (h:=?_)
 intro ρ h1
 simp [L0J,D0W,D0X,h1,ha.slen]
 refine d0W (n:=a.length) (fun i ρ G=>ρ 0=v∧ρ 1=.func (.func g) #[] #[c]∧Ext H G∧f0B p (a.take i)=false)
  rfl rfl (by decide) (by omega) (by simp) (by simp) ?_ ?_ ?_ ?_
 ·exact ⟨by simp [h1],by simp [h1],Ext.refl H,by rw [i1N];exact l0l⟩
 ·intro i ρ ρ' G h hI;simpa [h] using hI
 ·clear h1 ρ
  rintro i ρ G hi gi gn ⟨g0,g1,hx,hc⟩
  have ka:=ha.mono b0w hx
  obtain ⟨w,hl,k0⟩:=d0v.load ka hi
  simp [D0Y,D0Z,gi,g0,g1,ka.ia hi,hl]
  refine (hg _ _ _ _ (hI _ _ hx h0) hx.1 k0).mono ?_
  rintro _ G2 ⟨rfl,hx2⟩
  have hx':=hx.trans hx2
  cases hp:p a[i]
  ·simp
   exact Rnd.mk (by simp [gi]) (by simp [gn]) ⟨by simp [g0],by simp [g1],hx',by rw [i0R hi,hc,hp];rfl⟩
  ·simp [E0a,gi]
   exact fun _=>l0m hi hp
 ·clear h1 ρ
  rintro ρ G gi gn ⟨g0,g1,hx,hc⟩
  rw [g1d] at hc
  simp [E0b,hc]
theorem i0M {a:List (List b0x)} {p:List b0x→Bool} {g:FuncId} {c:Value} (I:a0f→Prop) (hI:∀ G G',Ext G G'→I G→I G') (h0:I H) (ha:d0v H v a) (hf:fl≤H.size) (hal:a.length < 1073741824)
  (hg:∀ (fl:Nat) (G:a0f) (v:Value) (e:List b0x),I G→fl≤G.size→a0T G v e→a0U env fl g [v,c] G (fun r H'=>r=.bool (p e)∧Ext G H') R) :
  a0U env fl z0K [v,.func (.func g) #[] #[c]] H (fun r H'=>r=.bool (f0B p a)∧Ext H H') R:=by
 refine a0i b1Z hf (h:=?_)
 intro ρ h1
 simp [L0l,B0N,B0O,h1]
 refine (l0A (p:=p) I hI h0 ha (f1I _) hal hg).mono ?_
 rintro _ G2 ⟨⟨z,rfl,hz⟩,hx2⟩
 simp
 intro _
 rw [i1y,g1T];exact hz
theorem l0Y {l:List b0x} {b:Nat} {n:Int} {r:List Value} {e:TypeId} (hl:a0T H v l) (hb:H.blk b=.row false e (.int .i64 n :: r)) (hf:fl≤H.size) :
  a0U env fl z0L [v,.pointer (some ⟨b,0,none⟩)] H (fun r H'=>r=.bool (!decide ((l.length:Int)=n))∧Ext H H') R:=by
 refine a0i c1a hf (h:=?_)
 intro ρ h0
 simp [L0m,B0P,B0Q,h0,hl.slen,hb]
 by_cases h:(l.length:Int)=n
 ·simp [h]
 ·simp [h]
def n0a (p:LPt):Bool:=decide (0≤p.n) && decide (p.n≤60) && decide (p.A.length≤60) && decide (p.B.length=p.A.length) && decide ((p.C.length:Int)=p.n) && !f0B (fun r=>!decide ((r.length:Int)=p.n)) p.A
theorem p0J {p:LPt} (h:LPV H v p) (hf:fl≤H.size):a0U env fl X0z [v] H (fun r H'=>r=.bool (n0a p)∧Ext H H') R:=by
 obtain ⟨sA,sB,sC,rfl,hA,hB,hC⟩:=h
 refine a0i f1c hf (h:=?_)
 intro ρ h0
 simp [a1B,R0h,h0,hA.cells,hB.cells,hC.cells]
 generalize hG:Array.push H _=G
 obtain ⟨hx2,b0⟩:=g0B hG
 have hx:=Ext.refl H
 clear hG
 replace hx:=hx.trans hx2
 unfold n0a
 by_cases h1:p.n < 0
 ·have h1':¬ 0≤p.n:=by omega
  simp [m0W,o0T,h0,b0,h1,h1']
 have h1':0≤p.n:=by omega
 by_cases h2:60 < p.n
 ·have h2':¬ p.n≤60:=by omega
  simp [m0W,o0T,h0,b0,h1,h1',h2,h2']
 have h2':p.n≤60:=by omega
 by_cases h3:60 < p.A.length
 ·have h3':¬ p.A.length≤60:=by omega
  have h3'':(60:Int) < (p.A.length:Int):=by omega
  simp [m0W,o0T,h0,b0,h1,h1',h2,h2',h3,h3',h3'',hA.slen]
 have h3':p.A.length≤60:=by omega
 have h3'':¬ (60:Int) < (p.A.length:Int):=by omega
 by_cases h4:p.B.length=p.A.length
 case neg =>
  have h4':¬ (p.B.length:Int)=(p.A.length:Int):=by omega
  simp [m0W,o0T,h0,b0,h1,h1',h2,h2',h3,h3',h3'',h4,h4',hA.slen,hB.slen]
 have h4':(p.B.length:Int)=(p.A.length:Int):=by omega
 by_cases h5:(p.C.length:Int)=p.n
 case neg =>
  simp [m0W,o0T,h0,b0,h1,h1',h2,h2',h3,h3',h3'',h4,h4',h5,hA.slen,hB.slen,hC.slen]
 simp [m0W,R0i,h0,b0,h1,h1',h2,h2',h3,h3',h3'',h4,h4',h5,hA.slen,hB.slen,hC.slen]
 refine (i0M (p:=fun r=>!decide ((r.length:Int)=p.n)) (c:=.pointer (some ⟨H.size,0,none⟩)) (fun G=>a0f.blk G H.size=.row false b0k [.int .i64 p.n,sA,sB,sC]) (fun _ _ hx h=>hx.blk h) b0 (hA.mono b0w hx) hx.1 (by omega)
  (fun fl G v e hb hf hl=>l0Y hl hb hf)).mono ?_
 rintro _ G2 ⟨rfl,hx2⟩
 simp
theorem f0d {S:Nat} {l:List b0x} (hv:a0T H v l) (hf:fl≤H.size) (hfw:Few S l) (hS:S < 67108864) (hl:l.length < 1073741824) :
  a0U env fl x0W [v] H (fun r H'=>b0b PR H.size H' a0b 4 r (i0x l)∧Ext H H') R:=by
 refine a0i c1z hf (h:=?_)
 intro ρ h0
 have w1:IntKind.i64.wrap ((l.length:Int) + 1)=(l.length:Int) + 1:=a0Q (by omega) (by omega)
 have hm:=V0X (bytes:=64) (k:=.i64) (k':=.i64) (l:=0) (c:=(l.length:Int) + 1) (by omega) (by omega) (by omega) (by omega)
 simp [L0L,E0k,E0l,E0m,h0,hv.slen,w1,hm]
 refine d0W (n:=l.length) (fun i ρ G=>ρ 10=v∧Ext H G∧b0b PR H.size G a0b 4 (ρ 3) ((i0x l).take i))
  rfl rfl (by decide) (by omega) (by simp) (by simp) ?_ ?_ ?_ ?_
 ·refine ⟨by simp [h0],(Ext.refl H).push,?_⟩
  simp
  exact ⟨[],Own.mk a0D rfl (f1I _),fun k hk=>by simp at hk⟩
 ·intro i ρ ρ' G h hI;simpa [h] using hI
 ·clear h0 ρ
  rintro i ρ G hi gi gn ⟨g6,hx,ho⟩
  obtain ⟨s,g3⟩:∃ s,ρ 3=s:=⟨_,rfl⟩
  rw [g3] at ho
  have kv:=hv.mono a0t hx
  obtain ⟨x,hlx,k0⟩:=a0T.load kv hi
  obtain ⟨s1,s2,rfl,k1,k2⟩:=id k0
  have hf2:=hfw _ (f1Q hi)
  have hsz:=hx.1
  simp [E0n,g6,gi,kv.ia hi,hlx,k1.cells,k1.plain,k2.cells,k2.plain,hsz]
  generalize hN:Array.setIfInBounds (Array.push _ _) _ _=G3
  obtain ⟨hx2,b1⟩:=new1 hN
  clear hN
  replace hx:=hx.trans hx2;replace k0:=k0.mono hx2
  replace ho:=ho.mono a0t hx2
  simp [E0o,b1]
  refine (c0X k0 (b:=d0Q) h0l hx.1 (by omega) (by decide)).mono ?_
  rintro _ G2 ⟨⟨s3,s4,rfl,k3,k4⟩,hx2⟩
  replace hx:=hx.trans hx2
  replace ho:=ho.mono a0t hx2
  rw [d0q,i1j] at k3 k4 ⊢
  obtain ⟨s',G4,h1,h2,h3,h4⟩:=b0b.app (P:=PR) (sz:=4) (e:=a0b) (by decide) (fun G' cs x _ hl h=>b0X.lx h hl) ho (e2:=a0b) (c:=1) (bytes:=64) (new:=[.bool (a0e (b0u l[i])).1.1,s3,.bool (a0e (b0u l[i])).2.1,s4]) (x:=a0e (b0u l[i])) ⟨s3,s4,rfl,k3,k4⟩ rfl (by simp [k3.plain,k4.plain]) (by simp;omega) (by omega) (by omega) hx.1
  simp [g3,k3.cells,k4.cells,h1]
  exact Rnd.mk (by simp [gi]) (by simp [gn]) ⟨by simp [g6],h4 _ (f1I _) hx,b0b.cast (v':=s') (by simp) (by unfold i0x;rw [r0a hi];exact h2)⟩
 ·clear h0 ρ
  rintro ρ G gi gn ⟨g6,hx,ho⟩
  obtain ⟨s,g3⟩:∃ s,ρ 3=s:=⟨_,rfl⟩
  rw [g3] at ho
  rw [f1W (by simp [i0x])] at ho
  simp [E0p,g3]
  exact fun _=>ho
def PI (H:a0f) (cs:List Value) (z:Int):Prop:=b0f H (.agg cs.toArray) (a0k z)
theorem d0e:k0V PI:=fun _ _ _ _ hx h=>b0f.mono h hx
theorem b0f.lx {i:Bool × List Nat} (h:b0f H v i) (hx:Lx H G):b0f G v i:=by obtain ⟨s,h1,h2⟩:=h;exact ⟨s,h1,h2.lx hx⟩
theorem U0d {G3:a0f} {z1 z2 r1 r2:Blk} (hN:Array.setIfInBounds (Array.setIfInBounds (Array.push (Array.push G z1) z2) G.size r1) (G.size + 1) r2=G3):Ext G G3∧a0f.blk G3 G.size=r1∧a0f.blk G3 (G.size + 1)=r2:=by
 rw [← hN];exact new2
theorem b0b.store {α:Type} {Q:a0f→List Value→α→Prop} {fl e sz:Nat} {v:Value} {l:List α} {j:Nat} {x:α} {w:Value} (h:b0b Q fl G e sz v l) (hj:j < l.length) (hs:0 < sz) (hw:(a0W w).length=sz) (hp:(a0W w).all a0F=true)
  (hx:∀ G',e0l (slB v) G G'→Lx G G'→Q G' (a0W w) x) (he:e ≠ a0j) (hO:∀ G' cs y,e0l (slB v) G G'→Lx G G'→Q G cs y→Q G' cs y) :
  ∃ G',e0N fl G sz (adr sz v j) w=some G'∧b0b Q fl G' e sz v (l.set j x)∧e0l (slB v) G G':=by
 obtain ⟨cs,⟨hl,⟨rfl,h0⟩ | ⟨b,cap,rfl,hb,hf⟩⟩,h2⟩:=id h
 ·omega
 have hj2:(j + 1) * sz≤l.length * sz:=f1S _ hj
 rw [g1e,g1A] at hj2
 have hst:=n0h (fl:=fl) (b:=b) (o:=0 + j * sz) (n:=sz) (x:=w) hb hf hw (by omega) hp
 have hwe:=h0r (a0W w) cs (0 + j * sz) (by rw [hw];omega)
 have hwl:=c0w (a0W w) cs (0 + j * sz)
 generalize b0v cs (0 + j * sz) (a0W w)=cs' at *
 have hxb:e0l (slB (.slice (some ⟨b,0,none⟩) l.length cap)) G (G.setIfInBounds b (.row false e cs')):=e0l.refl.set
 have hlx:=b0b.lx h he hxb
 refine ⟨_,hst,⟨cs',⟨by rw [hwl,hl,List.length_set],.inr ⟨b,cap,by rw [List.length_set],by rw [a0B (a0l hb)],hf⟩⟩,fun k hk=>?_⟩,hxb⟩
 rw [List.length_set] at hk
 have hk2:(k + 1) * sz≤l.length * sz:=f1S _ hk
 rw [g1e,g1A] at hk2
 rw [g1v,hw] at hwe
 by_cases hkj:k=j
 ·subst hkj
  have key:(cs'.drop (k * sz)).take sz=a0W w:=by
   rw [hwe,h1T,List.drop_left' (by simp;omega),List.take_left' hw]
  rw [List.getElem_set_self,key]
  exact hx _ hxb hlx
 ·rw [i1v (by omega)]
  have key:(cs'.drop (k * sz)).take sz=(cs.drop (k * sz)).take sz:=by
   rw [hwe]
   apply h1U
   intro i
   by_cases hi:i < sz
   ·rw [g1X,f1N hi,g1X,f1N hi,h1g,h1g]
    by_cases hlt:k < j
    ·have:(k + 1) * sz≤j * sz:=f1S _ hlt
     rw [g1e,g1A] at this
     rw [h1T,g1z (by simp;omega),g1X,f1N (by omega)]
    ·have:(j + 1) * sz≤k * sz:=f1S _ (by omega)
     rw [g1e,g1A] at this
     rw [g1H (by simp [hw];omega),h1g]
     congr 1
     simp [hw];omega
   ·rw [g1X,f1K hi,g1X,f1K hi]
  rw [key];exact hO _ _ _ hxb hlx (h2 k hk)
structure Whole (xs:List Rat) (zs:List Int) (by':Rat) (K:Nat):Prop where
 len:zs.length=xs.length
 pos:0 < by'
 eq:∀ i (h:i < xs.length),((zs[i]'(by omega):Int):Rat)=xs[i] * by'
 szz:∀ z ∈ zs,lz z≤K
 szb:szR by'≤K
def z0k (H:a0f) (P:Nat) (v:Value) (xs:List Rat) (S:Nat) (i:Nat) (ρ:Nat→Value) (G:a0f):Prop :=
 ρ 0=v∧ρ 22=v∧ρ 3=.pointer (some ⟨H.size,0,none⟩)∧ρ 4=.pointer (some ⟨P,0,none⟩)∧Ext H G ∧
  a0f.blk G H.size=.row false a0b [.bool false,.slice none 0 0,.bool false,.slice none 0 0] ∧
  ∃ (m:Nat) (s:Value),0 < m∧a0f.blk G P=.row false a0a [.bool false,s]∧Lim G s (a0p m)∧(∀ k (h:k < xs.length),k < i→xs[k].den ∣ m)∧lz m≤1 + i * S
theorem x0r (a b:Nat):((a:Int).tdiv (b:Int))=((a / b:Nat):Int):=by rw [h1f (by omega)];rfl
theorem T0Y (m q:Nat) (hm:0 < m) (hq:0 < q):m ∣ m * (q / Nat.gcd m q)∧q ∣ m * (q / Nat.gcd m q)∧0 < m * (q / Nat.gcd m q)∧q / Nat.gcd m q≤q:=by
 have hg:=Nat.gcd_pos_of_pos_left q hm
 refine ⟨Nat.dvd_mul_right _ _,?_,Nat.mul_pos hm (Nat.div_pos (Nat.le_of_dvd hq (Nat.gcd_dvd_right m q)) hg),g1Q _ _⟩
 obtain ⟨c,hc⟩:=Nat.gcd_dvd_left m q
 have h1:Nat.gcd m q * (q / Nat.gcd m q)=q:=Nat.mul_div_cancel' (Nat.gcd_dvd_right m q)
 refine ⟨c,?_⟩
 calc m * (q / Nat.gcd m q)=(Nat.gcd m q * c) * (q / Nat.gcd m q):=by rw [← hc]
  _=(Nat.gcd m q * (q / Nat.gcd m q)) * c:=by grind
  _=q * c:=by rw [h1]
def n0R (xs:List Rat) (m:Nat):List Int:=xs.map fun x=>x.num * ((m / x.den:Nat):Int)
def z0l (H:a0f) (P P2:Nat) (v:Value) (xs:List Rat) (m K:Nat) (s:Value) (i:Nat) (ρ:Nat→Value) (G:a0f):Prop :=
 ρ 44=v∧ρ 3=.pointer (some ⟨H.size,0,none⟩)∧ρ 4=.pointer (some ⟨P,0,none⟩)∧ρ 11=.pointer (some ⟨P2,0,none⟩)∧Ext H G ∧
  a0f.blk G H.size=.row false a0b [.bool false,.slice none 0 0,.bool false,.slice none 0 0]∧a0f.blk G P=.row false a0a [.bool false,s]∧Lim G s (a0p m) ∧
  slB (ρ 10) ≠ some P∧slB (ρ 10) ≠ some P2 ∧
  ∃ (g:Nat) (sg:Value),a0f.blk G P2=.row false a0a [.bool false,sg]∧Lim G sg (a0p g)∧b0b PI H.size G a0a 2 (ρ 10) ((n0R xs m).take i) ∧
   (∀ k (h:k < xs.length),k < i→(g:Int) ∣ (n0R xs m).getD k 0)∧lz g≤K∧(i=0→g=0)
def p0h (H:a0f) (P P2:Nat) (so:Value) (xs:List Rat) (m g:Nat) (s sg:Value) (i:Nat) (ρ:Nat→Value) (G:a0f):Prop :=
 ρ 10=so∧ρ 3=.pointer (some ⟨H.size,0,none⟩)∧ρ 4=.pointer (some ⟨P,0,none⟩)∧ρ 11=.pointer (some ⟨P2,0,none⟩)∧Ext H G ∧
  a0f.blk G H.size=.row false a0b [.bool false,.slice none 0 0,.bool false,.slice none 0 0]∧a0f.blk G P=.row false a0a [.bool false,s]∧Lim G s (a0p m) ∧
  a0f.blk G P2=.row false a0a [.bool false,sg]∧Lim G sg (a0p g) ∧
  ∃ L:List Int,b0b PI H.size G a0a 2 so L∧L.length=xs.length∧∀ k,k < xs.length→L.getD k 0=if k < i then (n0R xs m).getD k 0 / (g:Int) else (n0R xs m).getD k 0
theorem OwnsI.load {fl:Nat} {l:List Int} (h:b0b PI fl H a0a 2 v l) {j:Nat} (hj:j < l.length):∃ w,b0y H true 2 (adr 2 v j)=some w∧b0f H w (a0k l[j]):=by
 obtain ⟨cs,h1,_,h3⟩:=Sls.load h.sls hj (by omega);exact ⟨_,h1,h3⟩
theorem N0a {z:Int} {g:Nat} (h:(g:Int) ∣ z):lz (z / (g:Int))≤lz z:=by
 refine l0Z ?_
 rw [Int.natAbs_ediv_of_dvd h]
 exact g1Q _ _
theorem x0t {x:Rat} {m g:Nat} (hm:x.den ∣ m) (hm0:0 < m) (hg:0 < g) (hd:(g:Int) ∣ x.num * ((m / x.den:Nat):Int)) :
  ((x.num * ((m / x.den:Nat):Int) / (g:Int):Int):Rat)=x * Rat.divInt (m:Int) (g:Int):=by
 obtain ⟨c,rfl⟩:=hm
 have hdp:=x.den_pos
 rw [Nat.mul_div_cancel_left _ hdp] at hd ⊢
 obtain ⟨z,hz⟩:=hd
 have hg0:(g:Int) ≠ 0:=by omega
 rw [hz,Int.mul_ediv_cancel_left _ hg0]
 conv=>rhs;lhs;rw [← i1K x]
 rw [Rat.divInt_mul_divInt]
 have h1:((z:Int):Rat)=Rat.divInt z 1:=by
  have:=i1K (z:Rat)
  rw [i1L,i1J] at this;exact this.symm
 rw [h1,Rat.divInt_eq_divInt_iff (by omega) (i1e (by omega) hg0)]
 rw [g1a,Int.mul_one]
 have:x.num * ((x.den:Int) * (c:Int))=(x.den:Int) * (x.num * c):=by grind
 rw [this,hz];grind
theorem n0W {m g:Nat} (hm:0 < m) (hg:0 < g):0 < Rat.divInt (m:Int) (g:Int):=by
 have h1:Rat.divInt (m:Int) (g:Int)=(m:Rat) * (g:Rat)⁻¹:=by rw [← Rat.div_def];exact Rat.divInt_eq_div _ _
 rw [h1]
 exact Rat.mul_pos (Rat.natCast_pos.2 hm) (Rat.inv_pos.2 (Rat.natCast_pos.2 hg))
theorem g0k {S:Nat} {xs:List Rat} (hv:a0T H v (xs.map a0e)) (hf:fl≤H.size) (hS:∀ x ∈ xs,szR x≤S) (hK:(xs.length + 2) * (S + 1) < 67108864) :
  a0U env fl x0V [v] H (fun r H'=>(∃ q1 q2 by' zs,r=.tuple #[q1,q2]∧Whole xs zs by' ((xs.length + 2) * (S + 1))∧b0b PI H.size H' a0a 2 q1 zs∧b0X H' q2 (a0e by'))∧Ext H H') R:=by
 refine a0i c1y hf (h:=?_)
 intro ρ h0
 have hxl:xs.length < 67108864:=by
  have:(xs.length + 2) * 1≤(xs.length + 2) * (S + 1):=g1l _ (by omega)
  omega
 have hvl:=hv.slen
 rw [h1a] at hvl
 simp [L0K,E0c,h0]
 generalize hG:Array.push H _=G
 obtain ⟨hx2,b0⟩:=g0B hG
 have hx:=Ext.refl H
 clear hG
 replace hx:=hx.trans hx2
 simp [E0d]
 refine (c0S (n:=1) hx.1 (by omega) (by omega)).mono ?_
 rintro _ G2 ⟨⟨s1,rfl,k0⟩,hx2⟩
 replace b0:=hx2.blk b0;replace hx:=hx.trans hx2
 have hsz:=hx.1
 simp [h0,k0.cells,k0.plain,hsz]
 generalize hN:Array.setIfInBounds (Array.push _ _) _ _=G3
 obtain ⟨hx2,b1⟩:=new1 hN
 have hb0l:=a0l b0
 clear hN
 replace b0:=hx2.blk b0;replace hx:=hx.trans hx2;replace k0:=k0.mono hx2
 obtain ⟨P,hP⟩:∃ P,P=G2.size:=⟨_,rfl⟩
 rw [← hP] at b1 hsz hb0l ⊢
 simp [E0e,h0,hvl]
 have h1c:a0k 1=(false,a0p 1):=a0s 1
 rw [h1c] at b1 k0
 refine d0W (n:=xs.length) (z0k H P v xs S) rfl rfl (by decide) (by omega) (by simp) (by simp) ?_ ?_ ?_ ?_
 ·exact ⟨by simp [h0],by simp [h0],by simp,by simp,hx,b0,1,s1,by omega,b1,k0,fun k _ hk=>by omega,by rw [show ((1:Nat):Int)=1 from rfl,g0e];omega⟩
 ·intro i ρ ρ' G h hI;simpa [z0k,h] using hI
 ·clear h0 ρ hx b0 b1 k0 hx2
  rintro i ρ G hi gi gn ⟨g0,g22,g3,g4,hx,b0,m,s,hm0,b1,k0,hdv,hlm⟩
  have kv:=hv.mono a0t hx
  have hil:i < (xs.map a0e).length:=by simpa using hi
  obtain ⟨x,hlx,k1⟩:=a0T.load kv hil
  rw [g1C] at k1
  obtain ⟨s1,s2,rfl,k2,k3⟩:=id k1
  have hsx:=hS _ (f1Q hi)
  have hsz:=hx.1
  have hden:=xs[i].den_pos
  simp [E0f,g22,gi,kv.ia hil,hlx,k2.cells,k2.plain,k3.cells,k3.plain,hsz]
  generalize hN:Array.setIfInBounds (Array.push _ _) _ _=G3
  obtain ⟨hx2,b2⟩:=new1 hN
  clear hN
  replace b0:=hx2.blk b0;replace b1:=hx2.blk b1;replace hx:=hx.trans hx2;replace k0:=k0.mono hx2;replace k1:=k1.mono hx2;replace k2:=k2.mono hx2;replace k3:=k3.mono hx2
  have e2:(a0e xs[i]).2=a0k ((xs[i].den:Nat):Int):=rfl
  rw [e2] at k3 b2
  have k4:b0f G3 (.agg #[.bool false,s]) (a0k (m:Int)):=⟨s,by rw [a0s],by rw [a0s];exact k0⟩
  have k5:b0f G3 (.agg #[.bool (a0k ((xs[i].den:Nat):Int)).1,s2]) (a0k ((xs[i].den:Nat):Int)):=⟨s2,rfl,k3⟩
  have hld:=d0P xs[i]
  have hiS:i * S≤xs.length * S:=f1S _ (by omega)
  have hKe:(xs.length + 2) * (S + 1)=xs.length * S + xs.length + 2 * S + 2:=by grind
  refine a0G ?_
  simp [E0g,g4,b1,b2]
  refine (e0U k4 k5 (by have:=hx.1;omega) (by rw [a0g];omega) (by rw [a0g];omega)).mono ?_
  rintro _ G4 ⟨k6,hx2⟩
  replace b0:=hx2.blk b0;replace b1:=hx2.blk b1;replace b2:=hx2.blk b2;replace hx:=hx.trans hx2;replace k0:=k0.mono hx2;replace k1:=k1.mono hx2;replace k2:=k2.mono hx2;replace k3:=k3.mono hx2;replace k4:=k4.mono hx2;replace k5:=k5.mono hx2
  rw [a0h,a0h] at k6
  simp
  have hgg:Int.gcd (m:Int) (xs[i].den:Int)=Nat.gcd m xs[i].den:=rfl
  rw [hgg] at k6
  have hgp:=Nat.gcd_pos_of_pos_left xs[i].den hm0
  have hlg:lz (Nat.gcd m xs[i].den:Int)≤lz m:=a0X (Nat.gcd_le_left _ hm0)
  refine (b0R k5 k6 (by have:=hx.1;omega) (by rw [a0g];omega) (by rw [a0g];omega) (by rw [a0h];omega)).mono ?_
  rintro _ G4 ⟨⟨_,_,rfl,⟨s3,rfl,k7⟩,⟨s4,rfl,k8⟩⟩,hx2⟩
  replace b0:=hx2.blk b0;replace b1:=hx2.blk b1;replace b2:=hx2.blk b2;replace hx:=hx.trans hx2;replace k0:=k0.mono hx2;replace k1:=k1.mono hx2;replace k2:=k2.mono hx2;replace k3:=k3.mono hx2;replace k4:=k4.mono hx2;replace k5:=k5.mono hx2;replace k6:=k6.mono hx2
  rw [a0h,a0h,x0r] at k7 ⊢
  rw [a0h,a0h] at k8
  have hsz:=hx.1
  have hsz1:H.size≤G4.size + 1:=by omega
  simp [k7.cells,k7.plain,k8.cells,k8.plain,hsz,hsz1]
  generalize hN:Array.setIfInBounds (Array.setIfInBounds (Array.push (Array.push _ _) _) _ _) _ _=G5
  obtain ⟨hx2,b3,_⟩:=U0d hN
  clear hN
  replace b0:=hx2.blk b0;replace b1:=hx2.blk b1;replace b2:=hx2.blk b2;replace hx:=hx.trans hx2;replace k0:=k0.mono hx2;replace k1:=k1.mono hx2;replace k2:=k2.mono hx2;replace k3:=k3.mono hx2;replace k4:=k4.mono hx2;replace k5:=k5.mono hx2;replace k6:=k6.mono hx2;replace k7:=k7.mono hx2;replace k8:=k8.mono hx2
  simp [E0h,g4,b1,b3]
  obtain ⟨hl1,hl2,hl3,hl4⟩:=T0Y m xs[i].den hm0 hden
  have hlq:lz ((xs[i].den / Nat.gcd m xs[i].den:Nat):Int)≤lz (xs[i].den:Int):=a0X hl4
  refine (b0E k4 (j:=a0k ((xs[i].den / Nat.gcd m xs[i].den:Nat):Int)) ⟨s3,rfl,k7⟩ hx.1 (by rw [a0g];omega) (by rw [a0g];omega)).mono ?_
  rintro _ G6 ⟨⟨s5,rfl,k8⟩,hx2⟩
  replace b0:=hx2.blk b0;replace b1:=hx2.blk b1;replace b2:=hx2.blk b2;replace b3:=hx2.blk b3;replace hx:=hx.trans hx2;replace k0:=k0.mono hx2;replace k1:=k1.mono hx2;replace k2:=k2.mono hx2;replace k3:=k3.mono hx2;replace k4:=k4.mono hx2;replace k5:=k5.mono hx2;replace k6:=k6.mono hx2;replace k7:=k7.mono hx2
  rw [a0h,a0h,← g1a,a0s] at k8 ⊢
  have hPs:H.size≤P:=by assumption
  simp [g4,b1,k8.cells,k8.plain,hPs]
  generalize hS':Array.setIfInBounds _ _ _=G7
  have hne:P ≠ H.size:=by omega
  have hx':=a0J hS' hx hPs
  have b0':=a0o hS' b0 hne
  have k8':=k8.setS hS' b1 (by decide)
  have b1':=a0u hS' b1
  have hlm2:=c0f (m:Int) ((xs[i].den / Nat.gcd m xs[i].den:Nat):Int)
  refine Rnd.mk (by simp [gi]) (by simp [gn]) ⟨by simp [g0],by simp [g22],by simp [g3],by simp [g4],hx',b0',m * (xs[i].den / Nat.gcd m xs[i].den),s5,hl3,b1',k8',fun k h hk=>?_,?_⟩
  ·by_cases hki:k=i
   ·subst hki;exact hl2
   ·exact Nat.dvd_trans (hdv k h (by omega)) hl1
  ·rw [g1a,g1e,g1A];omega
 ·clear h0 ρ hx b0 b1 k0 hx2
  rintro ρ G gi gn ⟨g0,g22,g3,g4,hx,b0,m,s,hm0,b1,k0,hdv,hlm⟩
  have hPs:H.size≤P:=by assumption
  have hKe:(xs.length + 2) * (S + 1)=xs.length * S + xs.length + 2 * S + 2:=by grind
  have hK2:(xs.length + 1) * (S + 1)≤(xs.length + 2) * (S + 1):=f1S _ (by omega)
  have hsz:=hx.1
  have hb1l:=a0l b1
  simp [E0i,E0j,hsz]
  generalize hN:Array.setIfInBounds (Array.push _ _) _ _=G3
  obtain ⟨hx2,b2⟩:=new1 hN
  clear hN
  replace b0:=hx2.blk b0;replace b1:=hx2.blk b1;replace hx:=hx.trans hx2;replace k0:=k0.mono hx2
  obtain ⟨P2,hP2⟩:∃ P2,P2=G.size:=⟨_,rfl⟩
  rw [← hP2] at b2 hsz hb1l ⊢
  simp [w0s,g0,hvl]
  refine d0W (n:=xs.length) (z0l H P P2 v xs m ((xs.length + 1) * (S + 1)) s) rfl rfl (by decide) (by omega) (by simp) (by simp) ?_ ?_ ?_ ?_
  ·exact ⟨by simp [g0],by simp [g3],by simp [g4],by simp,hx,b0,b1,k0,by simp [slB],by simp [slB],0,_,b2,by rw [a0Y];exact Lim.nil,by simpa using b0b.nil,fun k _ hk=>by omega,by rw [show ((0:Nat):Int)=0 from rfl,d0y];omega,fun _=>rfl⟩
  ·intro i ρ ρ' G h hI;simpa [z0l,h] using hI
  ·clear g0 g22 g3 g4 gi gn hx b0 b1 b2 k0 hx2 ρ
   rintro i ρ G hi gi gn ⟨g44,g3,g4,g11,hx,b0,b1,k0,ns1,ns2,g,sg,b2,k1,ho,hdg,hlg,hg0⟩
   obtain ⟨so,g10⟩:∃ so,ρ 10=so:=⟨_,rfl⟩
   rw [g10] at ns1 ns2 ho
   have kv:=hv.mono a0t hx
   have hil:i < (xs.map a0e).length:=by simpa using hi
   obtain ⟨x,hlx,k2⟩:=a0T.load kv hil
   rw [g1C] at k2
   obtain ⟨s1,s2,rfl,k3,k4⟩:=k2
   have hsx:=hS _ (f1Q hi)
   have hsz:=hx.1
   have hden:=xs[i].den_pos
   have hln:=d0j xs[i]
   have hld:=d0P xs[i]
   have hyl:i < (n0R xs m).length:=by simpa [n0R] using hi
   have hyi:(n0R xs m)[i]=xs[i].num * ((m / xs[i].den:Nat):Int):=by simp [n0R]
   have hyd:(n0R xs m).getD i 0=xs[i].num * ((m / xs[i].den:Nat):Int):=by rw [f1H,f1M hyl,← hyi];rfl
   obtain ⟨y,hy⟩:∃ y,y=xs[i].num * ((m / xs[i].den:Nat):Int):=⟨_,rfl⟩
   have hly:lz y≤(xs.length + 1) * (S + 1):=by
    have h1:=c0f xs[i].num ((m / xs[i].den:Nat):Int)
    have h2:lz ((m / xs[i].den:Nat):Int)≤lz m:=a0X (g1Q _ _)
    have h3:(xs.length + 1) * (S + 1)=xs.length * S + xs.length + S + 1:=by grind
    rw [hy];omega
   simp [w0t,g44,gi,kv.ia hil,hlx,k3.cells,k3.plain,k4.cells,k4.plain,hsz]
   generalize hN:Array.setIfInBounds (Array.push _ _) _ _=G3
   obtain ⟨hx2,b3⟩:=new1 hN
   clear hN
   replace b0:=hx2.blk b0;replace b1:=hx2.blk b1;replace b2:=hx2.blk b2;replace hx:=hx.trans hx2;replace k0:=k0.mono hx2;replace k1:=k1.mono hx2;replace k3:=k3.mono hx2;replace k4:=k4.mono hx2
   replace ho:=ho.mono d0e hx2
   have e2:(a0e xs[i]).2=a0k ((xs[i].den:Nat):Int):=rfl
   have e1:(a0e xs[i]).1=a0k xs[i].num:=rfl
   rw [e1] at k3
   rw [e2] at k4
   rw [e1,e2] at b3
   simp [w0u,g4,b1,b3]
   refine (b0R (i:=a0k (m:Int)) (j:=a0k ((xs[i].den:Nat):Int)) ⟨s,by rw [a0s],by rw [a0s];exact k0⟩ ⟨s2,rfl,k4⟩ hx.1 (by rw [a0g];omega) (by rw [a0g];omega) (by rw [a0h];omega)).mono ?_
   rintro _ G4 ⟨⟨_,_,rfl,⟨s3,rfl,k5⟩,⟨s4,rfl,k6⟩⟩,hx2⟩
   replace b0:=hx2.blk b0;replace b1:=hx2.blk b1;replace b2:=hx2.blk b2;replace b3:=hx2.blk b3;replace hx:=hx.trans hx2;replace k0:=k0.mono hx2;replace k1:=k1.mono hx2;replace k3:=k3.mono hx2
   replace ho:=ho.mono d0e hx2
   rw [a0h,a0h,x0r] at k5 ⊢
   rw [a0h,a0h] at k6
   have hsz:=hx.1
   have hsz1:H.size≤G4.size + 1:=by omega
   simp [k5.cells,k5.plain,k6.cells,k6.plain,hsz,hsz1]
   generalize hN:Array.setIfInBounds (Array.setIfInBounds (Array.push (Array.push _ _) _) _ _) _ _=G5
   obtain ⟨hx2,b4,_⟩:=U0d hN
   clear hN
   replace b0:=hx2.blk b0;replace b1:=hx2.blk b1;replace b2:=hx2.blk b2;replace b3:=hx2.blk b3;replace hx:=hx.trans hx2;replace k0:=k0.mono hx2;replace k1:=k1.mono hx2;replace k3:=k3.mono hx2;replace k5:=k5.mono hx2;replace k6:=k6.mono hx2
   replace ho:=ho.mono d0e hx2
   have hlq:lz ((m / xs[i].den:Nat):Int)≤lz m:=a0X (g1Q _ _)
   simp [w0v,b3,b4]
   refine (b0E (i:=a0k xs[i].num) (j:=a0k ((m / xs[i].den:Nat):Int)) ⟨s1,rfl,k3⟩ ⟨s3,rfl,k5⟩ hx.1 (by rw [a0g];omega) (by rw [a0g];omega)).mono ?_
   rintro _ G6 ⟨⟨s5,rfl,k7⟩,hx2⟩
   replace b0:=hx2.blk b0;replace b1:=hx2.blk b1;replace b2:=hx2.blk b2;replace b3:=hx2.blk b3;replace b4:=hx2.blk b4;replace hx:=hx.trans hx2;replace k0:=k0.mono hx2;replace k1:=k1.mono hx2;replace k3:=k3.mono hx2;replace k5:=k5.mono hx2;replace k6:=k6.mono hx2
   replace ho:=ho.mono d0e hx2
   rw [a0h,a0h,← hy] at k7 ⊢
   have hsz:=hx.1
   have hso:∀ b,slB so=some b→b < G6.size:=fun b h=>(ho.ge h).2
   simp [k7.cells,k7.plain,hsz]
   generalize hN:Array.setIfInBounds (Array.push _ _) _ _=G7
   obtain ⟨hx2,b5⟩:=new1 hN
   clear hN b3 b4
   replace b0:=hx2.blk b0;replace b1:=hx2.blk b1;replace b2:=hx2.blk b2;replace hx:=hx.trans hx2;replace k0:=k0.mono hx2;replace k1:=k1.mono hx2;replace k3:=k3.mono hx2;replace k5:=k5.mono hx2;replace k6:=k6.mono hx2;replace k7:=k7.mono hx2
   replace ho:=ho.mono d0e hx2
   obtain ⟨Y,hY⟩:∃ Y,Y=G6.size:=⟨_,rfl⟩
   rw [← hY] at b5 hso ⊢
   have ns3:slB so ≠ some Y:=fun h=>by have:=hso _ h;omega
   have ns0:=ho.ne b0 (by decide)
   obtain ⟨so',G8,h1,h2,h3,h4⟩:=b0b.app (P:=PI) (sz:=2) (e:=a0a) (by decide) (fun G' cs x _ hl h=>b0f.lx h hl) ho (e2:=a0a) (c:=1) (bytes:=32) (new:=[.bool (a0k y).1,s5]) (x:=y) ⟨s5,rfl,k7⟩ rfl (by simp [k7.plain]) (by simp;omega) (by omega) (by omega) hx.1
   obtain ⟨_,_,hfr⟩:=d0M (by decide) h1
   have hfs:slB so' = some (G7.size + 1):=by rw [hfr];simp [slB]
   simp [w0w,g10,b5,k7.cells,h1]
   have hlx8:=ho.lx (by decide) h3
   have hP1l:=a0l b1
   have hP2l:=a0l b2
   replace b0:=(h3.2 _ (a0l b0) ns0).trans b0
   replace b1:=(h3.2 _ (a0l b1) ns1).trans b1
   replace b2:=(h3.2 _ (a0l b2) ns2).trans b2
   replace b5:=(h3.2 _ (a0l b5) ns3).trans b5
   replace hx:=h4 _ (f1I _) hx
   replace k0:=k0.lx hlx8
   replace k1:=k1.lx hlx8
   replace k7:=k7.lx hlx8
   simp [w0x,g11,b2,b5]
   refine (e0U (i:=a0k (g:Int)) (j:=a0k y) ⟨sg,by rw [a0s],by rw [a0s];exact k1⟩ ⟨s5,rfl,k7⟩ hx.1 (by rw [a0g];omega) (by rw [a0g];omega)).mono ?_
   rintro _ G9 ⟨⟨s6,rfl,k8⟩,hx2⟩
   replace b0:=hx2.blk b0;replace b1:=hx2.blk b1;replace b2:=hx2.blk b2;replace hx:=hx.trans hx2;replace k0:=k0.mono hx2;replace k1:=k1.mono hx2
   replace h2:=h2.mono d0e hx2
   rw [a0h,a0h,a0s] at k8 ⊢
   have hP2s:H.size≤P2:=by assumption
   simp [g11,b2,k8.cells,k8.plain,hP2s]
   generalize hS':Array.setIfInBounds _ _ _=G10
   have hxb:e0l (some P2) G9 G10:=by rw [← hS'];exact e0l.refl.set
   have hlx10:Lx G9 G10:=b0e hS' b2 (by decide)
   have hne:P2 ≠ H.size:=by omega
   have hne2:P2 ≠ P:=by omega
   refine Rnd.mk (by simp [gi]) (by simp [gn]) ⟨by simp [g44],by simp [g3],by simp [g4],by simp [g11],a0J hS' hx hP2s,a0o hS' b0 hne,a0o hS' b1 hne2,k0.lx hlx10,by simp [hfs];omega,by simp [hfs];omega,Int.gcd g y,s6,a0u hS' b2,k8.lx hlx10,?_,?_,?_,by omega⟩
   ·refine b0b.cast (v':=so') (by simp) ?_
    rw [g1Z hyl,hyi,← hy]
    exact h2.off hxb (.inr (by rw [hfs];simp;omega)) (fun cs x h=>b0f.lx h hlx10)
   ·intro k h hk
    by_cases hki:k=i
    ·subst hki;rw [hyd,← hy];exact i1k ..
    ·exact Int.dvd_trans (Int.gcd_dvd_left ..) (hdg k h (by omega))
   ·by_cases hy0:y=0
    ·rw [hy0,Int.gcd_zero_right];exact hlg
    ·exact f1Y (a0X (h1X _ hy0)) hly
  ·clear g0 g22 g3 g4 gi gn hx b0 b1 b2 k0 hx2 ρ
   rintro ρ G gi gn ⟨g44,g3,g4,g11,hx,b0,b1,k0,ns1,ns2,g,sg,b2,k1,ho,hdg,hlg,hg0⟩
   obtain ⟨so,g10⟩:∃ so,ρ 10=so:=⟨_,rfl⟩
   rw [g10] at ns1 ns2 ho
   have hyl:(n0R xs m).length=xs.length:=by simp [n0R]
   rw [f1W (by omega)] at ho
   have hv0:a0z (false,[])=0:=by unfold a0z f0H;simp [a0w]
   simp [w0y,g11,b2]
   refine (d0E (i:=a0k (g:Int)) (j:=(false,[])) ⟨sg,by rw [a0s],by rw [a0s];exact k1⟩ ⟨_,rfl,Lim.nil⟩ hx.1 (by rw [a0g];omega) (by simp)).mono ?_
   rintro _ G2 ⟨rfl,hx2⟩
   replace b0:=hx2.blk b0;replace b1:=hx2.blk b1;replace b2:=hx2.blk b2;replace hx:=hx.trans hx2;replace k0:=k0.mono hx2;replace k1:=k1.mono hx2
   replace ho:=ho.mono d0e hx2
   rw [hv0,a0h]
   have hP2s:H.size≤P2:=by assumption
   have hne:P2 ≠ H.size:=by omega
   have hne2:P2 ≠ P:=by omega
   by_cases hg:g=0
   ·have hcz:c0x (g:Int) 0=0:=by rw [hg];rfl
    simp [hcz,w0z]
    refine (c0S (n:=1) hx.1 (by omega) (by omega)).mono ?_
    rintro _ G2 ⟨⟨s6,rfl,k3⟩,hx2⟩
    replace b0:=hx2.blk b0;replace b1:=hx2.blk b1;replace b2:=hx2.blk b2;replace hx:=hx.trans hx2;replace k0:=k0.mono hx2;replace k1:=k1.mono hx2
    replace ho:=ho.mono d0e hx2
    have h1c:a0k 1=(false,a0p 1):=a0s 1
    rw [h1c] at k3 ⊢
    simp [g11,b2,k3.cells,k3.plain,hP2s]
    generalize hS':Array.setIfInBounds _ _ _=G3
    have hxb:e0l (some P2) G2 G3:=by rw [← hS'];exact e0l.refl.set
    have hlx3:Lx G2 G3:=b0e hS' b2 (by decide)
    replace ho:=ho.off hxb (.inr ns2) (fun cs x h=>b0f.lx h hlx3)
    replace hx:=a0J hS' hx hP2s
    replace b0:=a0o hS' b0 hne
    replace b1:=a0o hS' b1 hne2
    replace b2:=a0u hS' b2
    replace k0:=k0.lx hlx3
    clear k1
    have k1:=k3.lx hlx3
    obtain ⟨sg2,hs2⟩:∃ x,x=s6:=⟨_,rfl⟩
    rw [← hs2] at k1 b2
    obtain ⟨gg,hgg⟩:∃ gg:Nat,(gg=g∧0 < g) ∨ gg=1:=⟨1,.inr rfl⟩
    have hg1:(1:Nat)=gg:=by rcases hgg with ⟨h,h'⟩ | h <;> omega
    rw [hg1] at k1
    have hdg':∀ k,k < xs.length→(gg:Int) ∣ (n0R xs m).getD k 0:=fun k hk=>by
     rcases hgg with ⟨h,_⟩ | h
     ·rw [h];exact hdg k hk hk
     ·rw [h];exact Int.one_dvd _
    have hgp:0 < gg:=by rcases hgg with ⟨h,h'⟩ | h <;> omega
    have hK4:(xs.length + 1) * (S + 1)=xs.length * S + xs.length + S + 1:=by grind
    have hlgg:lz gg≤(xs.length + 1) * (S + 1):=by
     rcases hgg with ⟨h,_⟩ | h
     ·rw [h];exact hlg
     ·rw [h,show ((1:Nat):Int)=1 from rfl,g0e];omega
    have hly:∀ k (h:k < xs.length),lz (xs[k].num * ((m / xs[k].den:Nat):Int))≤(xs.length + 1) * (S + 1):=fun k hk=>by
     have h1:=c0f xs[k].num ((m / xs[k].den:Nat):Int)
     have h2:lz ((m / xs[k].den:Nat):Int)≤lz m:=a0X (g1Q _ _)
     have h4:=d0j xs[k]
     have h5:=hS _ (f1Q hk)
     omega
    have hyD:∀ k (h:k < xs.length),(n0R xs m).getD k 0=xs[k].num * ((m / xs[k].den:Nat):Int):=fun k hk=>by
     rw [f1H,f1M (by omega)];simp [n0R]
    simp [q0x,g10,ho.slen,hyl]
    refine d0W (n:=xs.length) (p0h H P P2 so xs m gg s sg2) rfl rfl (by decide) (by omega) (by simp) (by simp) ?_ ?_ ?_ ?_
    ·exact ⟨by simp [g10],by simp [g3],by simp [g4],by simp [g11],hx,b0,b1,k0,b2,k1,n0R xs m,ho,hyl,fun k _=>by simp⟩
    ·intro i ρ ρ' G h hI;simpa [p0h,h] using hI
    ·clear g44 g3 g4 g11 g10 gi gn hx b0 b1 b2 k0 k1 ho hx2 ρ
     rintro i ρ G hi gi gn ⟨g10,g3,g4,g11,hx,b0,b1,k0,b2,k1,L,ho,hL,hLk⟩
     have hiL:i < L.length:=by omega
     have hLi:L[i]=(n0R xs m).getD i 0:=by
      have:=hLk i hi
      rw [f1K (by omega),f1H,f1M hiL] at this;exact this
     obtain ⟨wi,hli,kwi⟩:=OwnsI.load ho hiL
     have hlz:lz L[i] < 67108864:=by
      have:=hly i hi
      rw [hLi,hyD i hi];omega
     simp [q0y,gi]
     refine a0G ?_
     simp [q0z,g10,g11,ho.sls.ia hiL,hli,b2]
     refine (b0R (j:=a0k (gg:Int)) kwi ⟨sg2,by rw [a0s],by rw [a0s];exact k1⟩ hx.1 (by rw [a0g];omega) (by rw [a0g];omega) (by rw [a0h];omega)).mono ?_
     rintro _ G4 ⟨⟨_,_,rfl,⟨s3,rfl,k5⟩,_⟩,hx2⟩
     replace b0:=hx2.blk b0;replace b1:=hx2.blk b1;replace b2:=hx2.blk b2;replace hx:=hx.trans hx2;replace k0:=k0.mono hx2;replace k1:=k1.mono hx2
     replace ho:=ho.mono d0e hx2
     have hdv2:(gg:Int) ∣ L[i]:=by rw [hLi];exact hdg' i hi
     rw [a0h,a0h,Int.tdiv_eq_ediv_of_dvd hdv2] at k5 ⊢
     have ns0:=ho.ne b0 (by decide)
     obtain ⟨G5,hst,ho2,hxb⟩:=b0b.store (j:=i) (x:=L[i] / (gg:Int)) (w:=.agg #[.bool (a0k (L[i] / (gg:Int))).1,s3]) ho hiL (by omega) rfl (by simp [k5.plain]) (fun G' _ hl=>⟨s3,rfl,k5.lx hl⟩) (by decide) (fun G' cs y _ hl h=>b0f.lx h hl)
     have hlx5:=ho.lx (by decide) hxb
     simp [g10,ho.sls.ia hiL,hst]
     have hx5:Ext H G5:=⟨f1Y hx.1 hxb.1,fun b hb=>(hxb.2 b (g1c hb hx.1) (fun h=>by have:=(ho.ge h).1;omega)).trans (hx.2 b hb)⟩
     refine Rnd.mk (by simp [gi]) (by simp [gn]) ⟨by simp [g10],by simp [g3],by simp [g4],by simp [g11],hx5,(hxb.2 _ (a0l b0) ns0).trans b0,(hxb.2 _ (a0l b1) ns1).trans b1,k0.lx hlx5,(hxb.2 _ (a0l b2) ns2).trans b2,k1.lx hlx5,L.set i (L[i] / (gg:Int)),ho2,by simpa using hL,fun k hk=>?_⟩
     by_cases hki:k=i
     ·subst hki
      rw [f1N (by omega),f1H,h1h hiL,g1s,hLi]
     ·rw [f1H,List.getElem?_set_ne (by omega),← f1H,hLk k hk]
      by_cases hlt:k < i
      ·rw [f1N hlt,f1N (by omega)]
      ·rw [f1K hlt,f1K (by omega)]
    ·clear g44 g3 g4 g11 g10 gi gn hx b0 b1 b2 k0 k1 ho hx2 ρ
     rintro ρ G gi gn ⟨g10,g3,g4,g11,hx,b0,b1,k0,b2,k1,L,ho,hL,hLk⟩
     simp [q0A,g4,g11,b1,b2]
     refine (d0G (i:=a0k (m:Int)) (j:=a0k (gg:Int)) ⟨s,by rw [a0s],by rw [a0s];exact k0⟩ ⟨sg2,by rw [a0s],by rw [a0s];exact k1⟩ hx.1 (by rw [a0g];omega) (by rw [a0g];omega) (by rw [a0h];omega)).mono ?_
     rintro _ G4 ⟨⟨_,rfl,s3,s4,rfl,k5,k6⟩,hx2⟩
     replace b0:=hx2.blk b0;replace b1:=hx2.blk b1;replace b2:=hx2.blk b2;replace hx:=hx.trans hx2;replace k0:=k0.mono hx2;replace k1:=k1.mono hx2
     replace ho:=ho.mono d0e hx2
     rw [a0h,a0h] at k5 k6 ⊢
     have hsz:=hx.1
     simp [k5.cells,k5.plain,k6.cells,k6.plain,hsz]
     generalize hN:Array.setIfInBounds (Array.push _ _) _ _=G5
     obtain ⟨hx2,b3⟩:=new1 hN
     clear hN
     replace b0:=hx2.blk b0;replace b1:=hx2.blk b1;replace b2:=hx2.blk b2;replace hx:=hx.trans hx2;replace k0:=k0.mono hx2;replace k1:=k1.mono hx2;replace k5:=k5.mono hx2;replace k6:=k6.mono hx2
     replace ho:=ho.mono d0e hx2
     refine a0G ?_
     have hz:=a0l b0
     simp [q0B,g3,g10,b0,b3,k5.cells,k5.plain,k6.cells,k6.plain,hz]
     generalize hS':Array.setIfInBounds _ _ _=G6
     refine fun _=>?_
     have hl6:Lx _ G6:=b0e hS' b0 (by decide)
     have hl7:LxT a0a _ G6:=b0e hS' b0 (by decide)
     refine ⟨so,_,⟨rfl,rfl⟩,Rat.divInt m gg,L,?_,ho.lxm hl7 (fun cs x h=>b0f.lx h hl6),s3,s4,rfl,k5.lx hl6,k6.lx hl6⟩
     have hLv:∀ k (h:k < xs.length),L[k]'(by omega)=xs[k].num * ((m / xs[k].den:Nat):Int) / (gg:Int)∧(gg:Int) ∣ xs[k].num * ((m / xs[k].den:Nat):Int):=by
      intro k hk
      have h1:=hLk k hk
      have h2:=hdg' k hk
      have h3:=hyD k hk
      rw [f1N hk,h3,f1H,f1M (by omega)] at h1
      rw [h3] at h2
      exact ⟨h1,h2⟩
     refine ⟨hL,?_,fun k hk=>?_,fun z hz=>?_,?_⟩
     ·exact n0W hm0 hgp
     ·rw [(hLv k hk).1];exact x0t (hdv k hk hk) hm0 hgp (hLv k hk).2
     ·obtain ⟨k,hk,rfl⟩:=h1s hz
      have hk':k < xs.length:=by omega
      have h1:=hly k hk'
      have h6:=N0a (hLv k hk').2
      rw [(hLv k hk').1]
      omega
     ·have:=b0W (m:Int) (gg:Int)
      omega
   ·have hcz:¬ c0x (g:Int) 0=0:=by unfold c0x;split;omega;split <;> omega
    simp [hcz]
    obtain ⟨sg2,hs2⟩:∃ x,x=sg:=⟨_,rfl⟩
    rw [← hs2] at k1 b2
    obtain ⟨gg,hgg1,hgg⟩:∃ gg:Nat,gg=g∧((gg=g∧0 < g) ∨ gg=1):=⟨g,rfl,.inl ⟨rfl,by omega⟩⟩
    have hg1:g=gg:=hgg1.symm
    rw [hg1] at k1
    have hdg':∀ k,k < xs.length→(gg:Int) ∣ (n0R xs m).getD k 0:=fun k hk=>by
     rcases hgg with ⟨h,_⟩ | h
     ·rw [h];exact hdg k hk hk
     ·rw [h];exact Int.one_dvd _
    have hgp:0 < gg:=by rcases hgg with ⟨h,h'⟩ | h <;> omega
    have hK4:(xs.length + 1) * (S + 1)=xs.length * S + xs.length + S + 1:=by grind
    have hlgg:lz gg≤(xs.length + 1) * (S + 1):=by
     rcases hgg with ⟨h,_⟩ | h
     ·rw [h];exact hlg
     ·rw [h,show ((1:Nat):Int)=1 from rfl,g0e];omega
    have hly:∀ k (h:k < xs.length),lz (xs[k].num * ((m / xs[k].den:Nat):Int))≤(xs.length + 1) * (S + 1):=fun k hk=>by
     have h1:=c0f xs[k].num ((m / xs[k].den:Nat):Int)
     have h2:lz ((m / xs[k].den:Nat):Int)≤lz m:=a0X (g1Q _ _)
     have h4:=d0j xs[k]
     have h5:=hS _ (f1Q hk)
     omega
    have hyD:∀ k (h:k < xs.length),(n0R xs m).getD k 0=xs[k].num * ((m / xs[k].den:Nat):Int):=fun k hk=>by
     rw [f1H,f1M (by omega)];simp [n0R]
    simp [q0x,g10,ho.slen,hyl]
    refine d0W (n:=xs.length) (p0h H P P2 so xs m gg s sg2) rfl rfl (by decide) (by omega) (by simp) (by simp) ?_ ?_ ?_ ?_
    ·exact ⟨by simp [g10],by simp [g3],by simp [g4],by simp [g11],hx,b0,b1,k0,b2,k1,n0R xs m,ho,hyl,fun k _=>by simp⟩
    ·intro i ρ ρ' G h hI;simpa [p0h,h] using hI
    ·clear g44 g3 g4 g11 g10 gi gn hx b0 b1 b2 k0 k1 ho hx2 ρ
     rintro i ρ G hi gi gn ⟨g10,g3,g4,g11,hx,b0,b1,k0,b2,k1,L,ho,hL,hLk⟩
     have hiL:i < L.length:=by omega
     have hLi:L[i]=(n0R xs m).getD i 0:=by
      have:=hLk i hi
      rw [f1K (by omega),f1H,f1M hiL] at this;exact this
     obtain ⟨wi,hli,kwi⟩:=OwnsI.load ho hiL
     have hlz:lz L[i] < 67108864:=by
      have:=hly i hi
      rw [hLi,hyD i hi];omega
     simp [q0y,gi]
     refine a0G ?_
     simp [q0z,g10,g11,ho.sls.ia hiL,hli,b2]
     refine (b0R (j:=a0k (gg:Int)) kwi ⟨sg2,by rw [a0s],by rw [a0s];exact k1⟩ hx.1 (by rw [a0g];omega) (by rw [a0g];omega) (by rw [a0h];omega)).mono ?_
     rintro _ G4 ⟨⟨_,_,rfl,⟨s3,rfl,k5⟩,_⟩,hx2⟩
     replace b0:=hx2.blk b0;replace b1:=hx2.blk b1;replace b2:=hx2.blk b2;replace hx:=hx.trans hx2;replace k0:=k0.mono hx2;replace k1:=k1.mono hx2
     replace ho:=ho.mono d0e hx2
     have hdv2:(gg:Int) ∣ L[i]:=by rw [hLi];exact hdg' i hi
     rw [a0h,a0h,Int.tdiv_eq_ediv_of_dvd hdv2] at k5 ⊢
     have ns0:=ho.ne b0 (by decide)
     obtain ⟨G5,hst,ho2,hxb⟩:=b0b.store (j:=i) (x:=L[i] / (gg:Int)) (w:=.agg #[.bool (a0k (L[i] / (gg:Int))).1,s3]) ho hiL (by omega) rfl (by simp [k5.plain]) (fun G' _ hl=>⟨s3,rfl,k5.lx hl⟩) (by decide) (fun G' cs y _ hl h=>b0f.lx h hl)
     have hlx5:=ho.lx (by decide) hxb
     simp [g10,ho.sls.ia hiL,hst]
     have hx5:Ext H G5:=⟨f1Y hx.1 hxb.1,fun b hb=>(hxb.2 b (g1c hb hx.1) (fun h=>by have:=(ho.ge h).1;omega)).trans (hx.2 b hb)⟩
     refine Rnd.mk (by simp [gi]) (by simp [gn]) ⟨by simp [g10],by simp [g3],by simp [g4],by simp [g11],hx5,(hxb.2 _ (a0l b0) ns0).trans b0,(hxb.2 _ (a0l b1) ns1).trans b1,k0.lx hlx5,(hxb.2 _ (a0l b2) ns2).trans b2,k1.lx hlx5,L.set i (L[i] / (gg:Int)),ho2,by simpa using hL,fun k hk=>?_⟩
     by_cases hki:k=i
     ·subst hki
      rw [f1N (by omega),f1H,h1h hiL,g1s,hLi]
     ·rw [f1H,List.getElem?_set_ne (by omega),← f1H,hLk k hk]
      by_cases hlt:k < i
      ·rw [f1N hlt,f1N (by omega)]
      ·rw [f1K hlt,f1K (by omega)]
    ·clear g44 g3 g4 g11 g10 gi gn hx b0 b1 b2 k0 k1 ho hx2 ρ
     rintro ρ G gi gn ⟨g10,g3,g4,g11,hx,b0,b1,k0,b2,k1,L,ho,hL,hLk⟩
     simp [q0A,g4,g11,b1,b2]
     refine (d0G (i:=a0k (m:Int)) (j:=a0k (gg:Int)) ⟨s,by rw [a0s],by rw [a0s];exact k0⟩ ⟨sg2,by rw [a0s],by rw [a0s];exact k1⟩ hx.1 (by rw [a0g];omega) (by rw [a0g];omega) (by rw [a0h];omega)).mono ?_
     rintro _ G4 ⟨⟨_,rfl,s3,s4,rfl,k5,k6⟩,hx2⟩
     replace b0:=hx2.blk b0;replace hx:=hx.trans hx2
     replace ho:=ho.mono d0e hx2
     rw [a0h,a0h] at k5 k6 ⊢
     have hsz:=hx.1
     simp [k5.cells,k5.plain,k6.cells,k6.plain,hsz]
     generalize hN:Array.setIfInBounds (Array.push _ _) _ _=G5
     obtain ⟨hx2,b3⟩:=new1 hN
     clear hN
     replace b0:=hx2.blk b0;replace hx:=hx.trans hx2;replace k5:=k5.mono hx2;replace k6:=k6.mono hx2
     replace ho:=ho.mono d0e hx2
     refine a0G ?_
     have hz:=a0l b0
     simp [q0B,g3,g10,b0,b3,k5.cells,k5.plain,k6.cells,k6.plain,hz]
     generalize hS':Array.setIfInBounds _ _ _=G6
     refine fun _=>?_
     have hl6:Lx _ G6:=b0e hS' b0 (by decide)
     have hl7:LxT a0a _ G6:=b0e hS' b0 (by decide)
     refine ⟨so,_,⟨rfl,rfl⟩,Rat.divInt m gg,L,?_,ho.lxm hl7 (fun cs x h=>b0f.lx h hl6),s3,s4,rfl,k5.lx hl6,k6.lx hl6⟩
     have hLv:∀ k (h:k < xs.length),L[k]'(by omega)=xs[k].num * ((m / xs[k].den:Nat):Int) / (gg:Int)∧(gg:Int) ∣ xs[k].num * ((m / xs[k].den:Nat):Int):=by
      intro k hk
      have h1:=hLk k hk
      have h2:=hdg' k hk
      have h3:=hyD k hk
      rw [f1N hk,h3,f1H,f1M (by omega)] at h1
      rw [h3] at h2
      exact ⟨h1,h2⟩
     refine ⟨hL,?_,fun k hk=>?_,fun z hz=>?_,?_⟩
     ·exact n0W hm0 hgp
     ·rw [(hLv k hk).1];exact x0t (hdv k hk hk) hm0 hgp (hLv k hk).2
     ·obtain ⟨k,hk,rfl⟩:=h1s hz
      have hk':k < xs.length:=by omega
      have h1:=hly k hk'
      have h6:=N0a (hLv k hk').2
      rw [(hLv k hk').1]
      omega
     ·have:=b0W (m:Int) (gg:Int)
      omega
def r0I (z:Int):Bool:=decide (-9223372036854775808≤z∧z < 9223372036854775808)
def toV (z:Int):Value:=.tuple #[.int .i64 (if r0I z then z else 0),.bool (r0I z)]
theorem V0u {n:Nat} (h:n≤9223372036854775808):IntKind.i64.wrap (IntKind.u64.wrap (0 - (n:Int))) = -(n:Int):=by
 rw [a0x]
 show (if (true && decide (((0 - (n:Int)) % 18446744073709551616) % (2 ^ 64:Int) ≥ (2 ^ 63:Int)))=true then ((0 - (n:Int)) % 18446744073709551616) % (2 ^ 64:Int) - (2 ^ 64:Int) else ((0 - (n:Int)) % 18446744073709551616) % (2 ^ 64:Int)) = -(n:Int)
 rw [show (2 ^ 64:Int)=18446744073709551616 from rfl,show (2 ^ 63:Int)=9223372036854775808 from rfl]
 simp only [Bool.true_and,g1T]
 split <;> omega
theorem d1S {i:Nat} (h:i < 2):(4294967296:Nat) ^ i=2 ^ (32 * i):=by
 rw [Nat.pow_mul]
theorem K0s {z:Int} (h:2 < lz z):r0I z=false:=by
 have:¬ z.natAbs < 4294967296 ^ 2:=fun h2=>by have:=e0d h2;unfold lz at h;omega
 unfold r0I;simp;intro _;omega
theorem m0b {z:Int} (h:b0f H v (a0k z)) (hf:fl≤H.size) (hl:lz z < 1073741824) :
  a0U env fl A0d [v] H (fun r H'=>r=toV z∧Ext H H') R:=by
 refine a0i d1p hf (h:=?_)
 intro ρ h0
 obtain ⟨s0,rfl,k0⟩:=id h
 simp [M0A,H0W,H0X,h0,k0.cells,k0.plain]
 generalize hG:Array.push H _=G
 obtain ⟨hx2,b0⟩:=g0B hG
 have hx:=Ext.refl H
 clear hG
 replace hx:=hx.trans hx2;replace k0:=k0.mono hx2
 have hcl:(a0k z).2.length=lz z:=a0g z
 refine (b0P (h.mono hx) hx.1 (by rw [a0g];omega)).mono ?_
 rintro w G2 ⟨k1,hx2⟩
 replace b0:=hx2.blk b0;replace hx:=hx.trans hx2;replace k0:=k0.mono hx2
 rw [a0h] at k1
 obtain ⟨d,hd⟩:∃ d,d=z.natAbs:=⟨_,rfl⟩
 have hld:(a0p d).length=lz z:=by rw [hd];rfl
 rw [← hd] at k1
 simp [H0Y,k1.slen,hld]
 refine ⟨fun h2=>?_,fun h2=>?_⟩
 ·simp [H0Z,toV,K0s (z:=z) (by omega)]
 ·simp [I0a,I0b,k1.slen,hld]
  refine d0W (n:=lz z) (fun i ρ G=>ρ 1=.pointer (some ⟨H.size,0,none⟩)∧ρ 13=w∧Ext H G∧a0f.blk G H.size=.row false a0a [.bool (a0k z).1,s0]∧Lim G w (a0p d)∧ρ 5=.int .u64 ((a0w ((a0p d).take i):Nat):Int)) rfl rfl (by decide) (by omega) (by simp) (by simp) ?_ ?_ ?_ ?_
  ·exact ⟨by simp,by simp,hx,b0,k1,by simp [a0w]⟩
  ·intro i ρ ρ' G h hI;simpa [h] using hI
  ·clear h0 ρ hx b0 k0 k1 hx2
   rintro i ρ G hi gi gn ⟨g1,g13,hx,b0,k1,g5⟩
   have hil:i < (a0p d).length:=by omega
   have hla:=k1.load hil (Ext.refl G)
   have hA2:=a0P hil
   have hA3:(a0p d).getD i 0 < 4294967296:=k1.2 _ (by rw [f1H,f1M hil];exact f1Q hil)
   have hA1:=f0J ((a0p d).take i) (fun x hx=>k1.2 _ (h1A hx))
   rw [g1P,g1R (by omega),d1S (by omega)] at hA1
   rw [d1S (by omega)] at hA2
   obtain ⟨A,hA⟩:∃ A,A=(a0p d).getD i 0:=⟨_,rfl⟩
   obtain ⟨N,hN⟩:∃ N,N=a0w ((a0p d).take i):=⟨_,rfl⟩
   rw [← hA] at hla hA2 hA3
   rw [← hN] at hA1 hA2 g5
   have hp:(2:Nat) ^ (32 * i)≤4294967296:=by
    have:(2:Nat) ^ (32 * i)≤2 ^ 32:=g1W (by omega) (by omega)
    exact this
   have hAp:A * 2 ^ (32 * i)≤4294967295 * 4294967296:=g1B (by omega) hp
   have eA:IntKind.u64.wrap (A:Int)=(A:Int):=by rw [a0x];omega
   have e32:IntKind.i64.wrap (32 * (i:Int))=((32 * i:Nat):Int):=by rw [a0Q (by omega) (by omega)];omega
   have s1:=J0k (tag:=0) (n:=A) (s:=32 * i) (k':=.i64) (by omega)
   rw [g1j (by omega)] at s1
   have s2:=X0T (tag:=0) (a:=N) (b:=A * 2 ^ (32 * i)) (by omega) (by omega)
   rw [t0w hA1] at s2
   simp [-Int.natCast_add,-Int.natCast_mul,-Int.natCast_pow,I0c,I0d,gi,g13,g5,k1.ia hil,hla,eA,e32,s1,s2]
   exact Rnd.mk (by simp [gi]) (by simp [gn]) ⟨by simp [g1],by simp [g13],hx,b0,k1,by simp [-Int.natCast_add,-Int.natCast_mul,-Int.natCast_pow];rw [hA2,g1k]⟩
  ·clear h0 ρ hx b0 k0 k1 hx2
   rintro ρ G gi gn ⟨g1,g13,hx,b0,k1,g5⟩
   have hd2:d < 4294967296 ^ (lz z):=by have:=e0q d;rwa [hld] at this
   have hd3:d < 18446744073709551616:=g1c hd2 (f1Y (g1W (by omega) (show lz z≤2 by omega)) (by decide))
   rw [f1W (by omega),a0q] at g5
   have hb0:=a0l b0
   simp [w0Y,g1,b0]
   refine (b0B (h.mono hx) hx.1 (by rw [a0g];omega)).mono ?_
   rintro _ G3 ⟨rfl,hx2⟩
   replace b0:=hx2.blk b0;replace hx:=hx.trans hx2
   rw [a0h]
   have hb0:=a0l b0
   have hu:r0I z=false→toV z=.tuple #[.int .i64 0,.bool false]:=fun h=>by rw [toV,h];rfl
   have hv:r0I z=true→toV z=.tuple #[.int .i64 z,.bool true]:=fun h=>by rw [toV,h];rfl
   clear hx2
   by_cases hz:z < 0
   ·by_cases hz2:(d:Int)≤9223372036854775808
    ·have hf1:r0I z=true:=by unfold r0I;simp;omega
     have e1:=V0u (n:=d) (by omega)
     have e2:-(d:Int)=z:=by omega
     rw [e2] at e1
     simp [hz,hz2,g5,w0Z,e1,hv hf1]
     try (rw [show IntKind.i64.wrap (IntKind.u64.wrap (-(d:Int)))=z by rw [← Int.zero_sub];exact e1];simp)
    ·have hf1:r0I z=false:=by unfold r0I;simp;omega
     simp [hz,hz2,g5,q0Q,g1,b0]
     refine (b0B (h.mono hx) hx.1 (by rw [a0g];omega)).mono ?_
     rintro _ G4 ⟨rfl,hx2⟩
     rw [a0h]
     simp [hz,q0R,hu hf1]
   ·simp [hz,g5,q0Q,g1,b0]
    refine (b0B (h.mono hx) hx.1 (by rw [a0g];omega)).mono ?_
    rintro _ G4 ⟨rfl,hx2⟩
    rw [a0h]
    have e2:(d:Int)=z:=by omega
    by_cases hz2:z < 9223372036854775808
    ·have hf1:r0I z=true:=by unfold r0I;simp;omega
     have e1:IntKind.i64.wrap z=z:=a0Q (by omega) hz2
     simp [hz,hz2,g5,x0a,e1,hv hf1,e2]
    ·have hf1:r0I z=false:=by unfold r0I;simp;omega
     simp [hz,hz2,g5,q0R,hu hf1,e2]
def eV:Value:=.agg #[]
def v0i:Value:=.iface f0f (.agg #[])
def f0m (z:Int):Prop:=-2147483648 < z∧z < 2147483648
def d1y:Value→a0E→Prop
 | .iface ty v,R=>R (.iface ty v)
 | _,_=>False
theorem k0h {ty:TypeId} {v:Value}:d1y (.iface ty v) R=R (.iface ty v):=nr rfl
theorem s0Z {E:Env} {t:b0c} {x:Opd} {K:n0t}:WS E fl t H (.pan x) K R=d1y (ev t x) R:=by
 simp only [WS,opA]
 cases ev t x <;> simp [d1y]
theorem p0E {a b:Int} (ha:f0m a) (hb:f0m b):-4611686018427387904 < a * b∧a * b < 4611686018427387904:=by
 obtain ⟨a1,a2⟩:=ha
 obtain ⟨b1,b2⟩:=hb
 have h:(a * b).natAbs≤2147483647 * 2147483647:=by
  rw [h1n];exact g1B (by omega) (by omega)
 omega
theorem p0D {a b:Int} (ha:f0m a) (hb:f0m b):IntKind.i64.wrap (a * b)=a * b:=by
 have:=p0E ha hb
 exact a0Q (by omega) (by omega)
theorem X0O (x y:Int):lz (x - y)≤max (lz x) (lz y) + 1:=by
 rw [h1N];have:=o0g x (-y);rwa [g0P] at this
theorem push2 {z1 z2:Blk} (hG:Array.push (Array.push H z1) z2=G):Ext H G∧a0f.blk G H.size=z1∧a0f.blk G (H.size + 1)=z2:=by
 rw [← hG];exact ⟨(Ext.refl H).push.push,by simp,by simp⟩
theorem f0c {a b:Int} (hf:fl≤H.size) :
  a0U env fl y0f [.int .i64 a,.int .i64 b] H (fun r H'=>r=.int .i64 (c0x a b)∧Ext H H') R:=by
 refine a0i d1o hf (h:=?_)
 intro ρ h0
 simp [M0z,H0Q,H0R,h0]
 refine ⟨fun h=>?_,fun h=>?_⟩
 ·have:c0x a b = -1:=by unfold c0x;rw [f1N h]
  simp [H0S,this]
 ·simp [H0T,h0]
  refine ⟨fun h=>?_,fun h=>?_⟩
  ·have:c0x a b=1:=by unfold c0x;rw [f1K (by omega),f1N (by omega)]
   simp [H0U,this]
  ·have:c0x a b=0:=by unfold c0x;rw [f1K (by omega),f1K (by omega)]
   simp [H0V,this]
theorem e0L {z:Int} (hf:fl≤H.size) (hR:R v0i) :
  a0U env fl t0q [.int .i64 z] H (fun r H'=>(r=.int .i64 z∧f0m z)∧Ext H H') R:=by
 refine a0i X0f hf (h:=?_)
 intro ρ h0
 simp [J0j,u0W,u0X,h0]
 by_cases h1:z≤-2147483648
 ·have h1':¬ (-2147483648 < z):=by omega
  simp [h1,h1',u0Y,s0Z,k0h]
  exact hR
 ·have h1':-2147483648 < z:=by omega
  by_cases h2:2147483648≤z
  ·have h2':¬ z < 2147483648:=by omega
   simp [h1,h1',h2,h2',h0,u0Y,s0Z,k0h]
   exact hR
  ·have h2':z < 2147483648:=by omega
   simp [h1,h1',h2,h2',h0,u0Z,f0m]
theorem n0F {a b c d:Int} (hf:fl≤H.size) (ha:f0m a) (hb:f0m b) (hc:f0m c) (hd:f0m d) :
  a0U env fl y0e [eV,.int .i64 a,.int .i64 b,.int .i64 c,.int .i64 d] H (fun r H'=>r=.int .i64 (c0x (a * b) (c * d))∧Ext H H') R:=by
 refine a0i d1j hf (h:=?_)
 intro ρ h0
 have m1:=p0D ha hb
 have m2:=p0D hc hd
 simp [M0u,H0C,H0D,h0,eV,m1,m2]
 refine (f0c (by simp)).mono ?_
 rintro _ G ⟨rfl,hx2⟩
 simp
theorem r0H {a:Int} (hf:fl≤H.size) (ha:f0m a) :
  a0U env fl n0D [eV,.int .i64 a] H (fun r H'=>r=.int .i64 (-a)∧Ext H H') R:=by
 refine a0i d1k hf (h:=?_)
 intro ρ h0
 obtain ⟨a1,a2⟩:=ha
 have e1:IntKind.i64.wrap (-a) = -a:=a0Q (by omega) (by omega)
 simp [M0v,H0E,H0F,h0,eV,e1]
theorem p0F {a:Int} (hf:fl≤H.size) :
  a0U env fl n0E [eV,.int .i64 a] H (fun r H'=>r=.int .i64 (c0x a 0)∧Ext H H') R:=by
 refine a0i d1m hf (h:=?_)
 intro ρ h0
 simp [M0x,H0M,H0N,h0,eV]
 refine (f0c (by simp)).mono ?_
 rintro _ G ⟨rfl,hx2⟩
 simp
theorem k0G {a:Int} (hf:fl≤H.size) (ha:f0m a) :
  a0U env fl r0F [eV,.int .i64 a] H (fun r H'=>b0f H' r (a0k a)∧Ext H H') R:=by
 refine a0i d1l hf (h:=?_)
 intro ρ h0
 obtain ⟨a1,a2⟩:=ha
 simp [M0w,H0J,H0K,h0,eV]
 generalize hG:Array.push (Array.push H _) _=G
 obtain ⟨hx2,_,b0⟩:=push2 hG
 have hx:=Ext.refl H
 clear hG
 replace hx:=hx.trans hx2
 refine (c0S hx.1 (by omega) (by omega)).mono ?_
 rintro _ G2 ⟨⟨s1,rfl,k0⟩,hx2⟩
 replace b0:=hx2.blk b0;replace hx:=hx.trans hx2
 have hz:=a0l b0
 simp [b0,k0.cells,k0.plain]
 generalize hS:Array.setIfInBounds _ _ _=G3
 have hl:Lx G2 G3:=b0e hS b0 (by decide)
 have b1:=a0u hS b0
 simp [b1]
 exact fun _=>⟨s1,rfl,k0.lx hl⟩
theorem l0U {z:Int} (h:b0f H v (a0k z)) (hf:fl≤H.size) (hl:lz z < 1073741824) (hR:R v0i) :
  a0U env fl i0X [eV,v] H (fun r H'=>(r=.int .i64 z∧f0m z)∧Ext H H') R:=by
 refine a0i X0e hf (h:=?_)
 intro ρ h0
 obtain ⟨s0,rfl,k0⟩:=id h
 simp [J0i,u0S,u0T,h0,eV,k0.cells,k0.plain]
 generalize hG:Array.push (Array.push H _) _=G
 obtain ⟨hx2,_,b0⟩:=push2 hG
 have hx:=Ext.refl H
 clear hG
 replace hx:=hx.trans hx2
 refine (m0b (h.mono hx) hx.1 hl).mono ?_
 rintro _ G2 ⟨rfl,hx2⟩
 replace hx:=hx.trans hx2
 unfold toV
 simp [u0U]
 cases hz:r0I z
 ·simp [H0L,s0Z,k0h]
  exact hR
 ·simp [u0V]
  refine (e0L hx.1 hR).mono ?_
  rintro _ G3 ⟨⟨rfl,h1⟩,hx2⟩
  simp [h1]
theorem i0Y {a b c d e:Int} (hf:fl≤H.size) (ha:f0m a) (hb:f0m b) (hc:f0m c) (hd:f0m d) (he:e ≠ 0) (hR:R v0i) :
  a0U env fl p0B [eV,.int .i64 a,.int .i64 b,.int .i64 c,.int .i64 d,.int .i64 e] H (fun r H'=>(r=.int .i64 ((a * b - c * d).tdiv e)∧f0m ((a * b - c * d).tdiv e))∧Ext H H') R:=by
 refine a0i d1n hf (h:=?_)
 intro ρ h0
 have m1:=p0D ha hb
 have m2:=p0D hc hd
 have z1:=p0E ha hb
 have z2:=p0E hc hd
 have m3:IntKind.i64.wrap (a * b - c * d)=a * b - c * d:=a0Q (by omega) (by omega)
 have m4:IntKind.i64.wrap ((a * b - c * d).tdiv e)=(a * b - c * d).tdiv e:=by
  have:((a * b - c * d).tdiv e).natAbs≤(a * b - c * d).natAbs:=by rw [Int.natAbs_tdiv];exact g1Q _ _
  exact a0Q (by omega) (by omega)
 simp [M0y,H0O,H0P,h0,eV,m1,m2,m3,v0w he,m4]
 refine (e0L (by simp) hR).mono ?_
 rintro _ G ⟨⟨rfl,h1⟩,hx2⟩
 simp [h1]
theorem n0u {a b c d:Int} {va vb vc vd:Value} (ha:b0f H va (a0k a)) (hb:b0f H vb (a0k b)) (hc:b0f H vc (a0k c)) (hd:b0f H vd (a0k d)) (hf:fl≤H.size)
  (la:lz a < 67108864) (lb:lz b < 67108864) (lc:lz c < 67108864) (ld:lz d < 67108864) :
  a0U env fl y0d [eV,va,vb,vc,vd] H (fun r H'=>r=.int .i64 (c0x (a * b) (c * d))∧Ext H H') R:=by
 refine a0i d1c hf (h:=?_)
 intro ρ h0
 obtain ⟨s0,rfl,k0⟩:=id ha
 obtain ⟨s1,rfl,k1⟩:=id hb
 obtain ⟨s2,rfl,k2⟩:=id hc
 obtain ⟨s3,rfl,k3⟩:=id hd
 simp [M0n,H0n,h0,eV,k0.cells,k0.plain,k1.cells,k1.plain,k2.cells,k2.plain,k3.cells,k3.plain]
 generalize hG:Array.push (Array.push (Array.push (Array.push (Array.push H _) _) _) _) _=G
 have hx2:Ext H G:=by rw [← hG];exact (Ext.refl H).push.push.push.push.push
 have b1:a0f.blk G (H.size + 1)=.row false a0a [.bool (a0k a).1,s0]:=by rw [← hG];simp
 have b2:a0f.blk G (H.size + 2)=.row false a0a [.bool (a0k b).1,s1]:=by rw [← hG];simp
 have b3:a0f.blk G (H.size + 3)=.row false a0a [.bool (a0k c).1,s2]:=by rw [← hG];simp
 have b4:a0f.blk G (H.size + 4)=.row false a0a [.bool (a0k d).1,s3]:=by rw [← hG];simp
 have hx:=Ext.refl H
 clear hG
 replace hx:=hx.trans hx2;replace k0:=k0.mono hx2;replace k1:=k1.mono hx2;replace k2:=k2.mono hx2;replace k3:=k3.mono hx2
 refine a0G ?_
 simp [H0o,b1,b2]
 refine (b0E (i:=a0k a) (j:=a0k b) ⟨s0,rfl,k0⟩ ⟨s1,rfl,k1⟩ (by have:=hx.1;omega) (by rw [a0g];omega) (by rw [a0g];omega)).mono ?_
 rintro _ G2 ⟨k4,hx2⟩
 replace b3:=hx2.blk b3;replace b4:=hx2.blk b4;replace hx:=hx.trans hx2;replace k2:=k2.mono hx2;replace k3:=k3.mono hx2
 rw [a0h,a0h] at k4
 simp [b3,b4]
 refine (b0E (i:=a0k c) (j:=a0k d) ⟨s2,rfl,k2⟩ ⟨s3,rfl,k3⟩ (by have:=hx.1;omega) (by rw [a0g];omega) (by rw [a0g];omega)).mono ?_
 rintro _ G3 ⟨k5,hx2⟩
 replace hx:=hx.trans hx2;replace k4:=k4.mono hx2
 rw [a0h,a0h] at k5
 have l1:=c0f a b
 have l2:=c0f c d
 simp
 refine (d0E k4 k5 (by have:=hx.1;omega) (by rw [a0g];omega) (by rw [a0g];omega)).mono ?_
 rintro _ G4 ⟨rfl,hx2⟩
 rw [a0h,a0h]
 simp
theorem r0l {a:Int} (ha:b0f H v (a0k a)) (hf:fl≤H.size) (la:lz a < 67108864) :
  a0U env fl n0B [eV,v] H (fun r H'=>b0f H' r (a0k (-a))∧Ext H H') R:=by
 refine a0i d1d hf (h:=?_)
 intro ρ h0
 obtain ⟨s0,rfl,k0⟩:=id ha
 simp [M0o,H0p,H0q,h0,eV,k0.cells,k0.plain]
 generalize hG:Array.push (Array.push (Array.push H _) _) _=G
 have hx2:Ext H G:=by rw [← hG];exact (Ext.refl H).push.push.push
 have b2:a0f.blk G (H.size + 2)=.row false a0a [.bool false,.slice none 0 0]:=by rw [← hG];simp
 have hx:=Ext.refl H
 clear hG
 replace hx:=hx.trans hx2
 refine (e0W (ha.mono hx) hx.1 (by rw [a0g];omega)).mono ?_
 rintro _ G2 ⟨⟨s1,rfl,k1⟩,hx2⟩
 replace b2:=hx2.blk b2;replace hx:=hx.trans hx2
 rw [a0h] at k1 ⊢
 have hz:=a0l b2
 simp [b2,k1.cells,k1.plain]
 generalize hS:Array.setIfInBounds _ _ _=G3
 have hl:Lx G2 G3:=b0e hS b2 (by decide)
 have b3:=a0u hS b2
 simp [b3]
 exact fun _=>⟨s1,rfl,k1.lx hl⟩
theorem k0B {a:Int} (ha:b0f H v (a0k a)) (hf:fl≤H.size) :
  a0U env fl r0E [eV,v] H (fun r H'=>b0f H' r (a0k a)∧Ext H H') R:=by
 refine a0i d1e hf (h:=?_)
 intro ρ h0
 obtain ⟨s0,rfl,k0⟩:=id ha
 simp [M0p,H0r,H0s,h0,eV,k0.cells,k0.plain]
 exact fun hx=>ha.mono hx
theorem i0o {a:Int} (ha:b0f H v (a0k a)) (hf:fl≤H.size) :
  a0U env fl j0Z [eV,v] H (fun r H'=>b0f H' r (a0k a)∧Ext H H') R:=by
 refine a0i d1f hf (h:=?_)
 intro ρ h0
 obtain ⟨s0,rfl,k0⟩:=id ha
 simp [M0q,H0t,H0u,h0,eV,k0.cells,k0.plain]
 exact fun hx=>ha.mono hx
theorem p0m {a:Int} (ha:b0f H v (a0k a)) (hf:fl≤H.size) (la:lz a < 67108864) :
  a0U env fl n0C [eV,v] H (fun r H'=>r=.int .i64 (c0x a 0)∧Ext H H') R:=by
 refine a0i d1g hf (h:=?_)
 intro ρ h0
 obtain ⟨s0,rfl,k0⟩:=id ha
 simp [M0r,H0v,H0w,h0,eV,k0.cells,k0.plain]
 generalize hG:Array.push (Array.push H _) _=G
 obtain ⟨hx2,_,b0⟩:=push2 hG
 have hx:=Ext.refl H
 clear hG
 replace hx:=hx.trans hx2
 have hv0:a0z (false,[])=0:=by unfold a0z f0H;simp [a0w]
 refine (d0E (j:=(false,[])) (ha.mono hx) ⟨_,rfl,Lim.nil⟩ hx.1 (by rw [a0g];omega) (by simp)).mono ?_
 rintro _ G2 ⟨rfl,hx2⟩
 rw [hv0,a0h]
 simp
theorem i0Q {a b c d e:Int} {va vb vc vd ve:Value} (ha:b0f H va (a0k a)) (hb:b0f H vb (a0k b)) (hc:b0f H vc (a0k c)) (hd:b0f H vd (a0k d)) (he:b0f H ve (a0k e)) (hf:fl≤H.size)
  (la:lz a < 67108864) (lb:lz b < 67108864) (lc:lz c < 67108864) (ld:lz d < 67108864) (le:lz e < 67108864) (he0:e ≠ 0) :
  a0U env fl p0A [eV,va,vb,vc,vd,ve] H (fun r H'=>b0f H' r (a0k ((a * b - c * d).tdiv e))∧Ext H H') R:=by
 refine a0i d1h hf (h:=?_)
 intro ρ h0
 obtain ⟨s0,rfl,k0⟩:=id ha
 obtain ⟨s1,rfl,k1⟩:=id hb
 obtain ⟨s2,rfl,k2⟩:=id hc
 obtain ⟨s3,rfl,k3⟩:=id hd
 obtain ⟨s4,rfl,k4⟩:=id he
 simp [M0s,H0x,h0,eV,k0.cells,k0.plain,k1.cells,k1.plain,k2.cells,k2.plain,k3.cells,k3.plain,k4.cells,k4.plain]
 generalize hG:Array.push (Array.push (Array.push (Array.push (Array.push (Array.push (Array.push H _) _) _) _) _) _) _=G
 have hx2:Ext H G:=by rw [← hG];exact (Ext.refl H).push.push.push.push.push.push.push
 have b1:a0f.blk G (H.size + 1)=.row false a0a [.bool (a0k a).1,s0]:=by rw [← hG];simp
 have b2:a0f.blk G (H.size + 2)=.row false a0a [.bool (a0k b).1,s1]:=by rw [← hG];simp
 have b3:a0f.blk G (H.size + 3)=.row false a0a [.bool (a0k c).1,s2]:=by rw [← hG];simp
 have b4:a0f.blk G (H.size + 4)=.row false a0a [.bool (a0k d).1,s3]:=by rw [← hG];simp
 have b5:a0f.blk G (H.size + 5)=.row false a0a [.bool (a0k e).1,s4]:=by rw [← hG];simp
 have b6:a0f.blk G (H.size + 6)=.row false a0a [.bool false,.slice none 0 0]:=by rw [← hG];simp
 have hx:=Ext.refl H
 clear hG
 replace hx:=hx.trans hx2;replace k0:=k0.mono hx2;replace k1:=k1.mono hx2;replace k2:=k2.mono hx2;replace k3:=k3.mono hx2;replace k4:=k4.mono hx2
 refine a0G ?_
 simp [H0y,b1,b2]
 refine (b0E (i:=a0k a) (j:=a0k b) ⟨s0,rfl,k0⟩ ⟨s1,rfl,k1⟩ (by have:=hx.1;omega) (by rw [a0g];omega) (by rw [a0g];omega)).mono ?_
 rintro _ G2 ⟨k5,hx2⟩
 replace b3:=hx2.blk b3;replace b4:=hx2.blk b4;replace b5:=hx2.blk b5;replace b6:=hx2.blk b6;replace hx:=hx.trans hx2;replace k2:=k2.mono hx2;replace k3:=k3.mono hx2;replace k4:=k4.mono hx2
 rw [a0h,a0h] at k5
 simp [b3,b4]
 refine (b0E (i:=a0k c) (j:=a0k d) ⟨s2,rfl,k2⟩ ⟨s3,rfl,k3⟩ (by have:=hx.1;omega) (by rw [a0g];omega) (by rw [a0g];omega)).mono ?_
 rintro _ G3 ⟨k6,hx2⟩
 replace b5:=hx2.blk b5;replace b6:=hx2.blk b6;replace hx:=hx.trans hx2;replace k4:=k4.mono hx2;replace k5:=k5.mono hx2
 rw [a0h,a0h] at k6
 have l1:=c0f a b
 have l2:=c0f c d
 simp
 refine (r0Y k5 k6 (by have:=hx.1;omega) (by rw [a0g];omega) (by rw [a0g];omega)).mono ?_
 rintro _ G4 ⟨k7,hx2⟩
 replace b5:=hx2.blk b5;replace b6:=hx2.blk b6;replace hx:=hx.trans hx2;replace k4:=k4.mono hx2;replace k5:=k5.mono hx2;replace k6:=k6.mono hx2
 rw [a0h,a0h] at k7
 have l3:=X0O (a * b) (c * d)
 simp [b5]
 refine (b0R (j:=a0k e) k7 ⟨s4,rfl,k4⟩ (by have:=hx.1;omega) (by rw [a0g];omega) (by rw [a0g];omega) (by rw [a0h];exact he0)).mono ?_
 rintro _ G4 ⟨⟨_,_,rfl,⟨s5,rfl,k5⟩,⟨s6,rfl,k6⟩⟩,hx2⟩
 replace b6:=hx2.blk b6;replace hx:=hx.trans hx2
 rw [a0h,a0h] at k5 k6 ⊢
 have hsz:=hx.1
 have hsz1:H.size≤G4.size + 1:=by omega
 simp [k5.cells,k5.plain,k6.cells,k6.plain,hsz,hsz1]
 generalize hN:Array.setIfInBounds (Array.setIfInBounds (Array.push (Array.push _ _) _) _ _) _ _=G5
 obtain ⟨hx2,b7,_⟩:=U0d hN
 clear hN
 replace b6:=hx2.blk b6;replace hx:=hx.trans hx2;replace k5:=k5.mono hx2
 have hz:=a0l b6
 simp [H0z,b7,b6,k5.cells,k5.plain]
 generalize hS:Array.setIfInBounds _ _ _=G6
 have hl:Lx G5 G6:=b0e hS b6 (by decide)
 have b8:=a0u hS b6
 simp [b8]
 exact fun _=>⟨s5,rfl,k5.lx hl⟩
theorem x0z.lx2 {l:List Int} (h:Sls PI H a0a 2 v l) (h1:LxT a0a H G) (h2:Lx H G):Sls PI G a0a 2 v l:=by
 obtain ⟨cs,⟨hl,hs⟩,hp⟩:=h
 refine ⟨cs,⟨hl,?_⟩,fun k hk=>b0f.lx (hp k hk) h2⟩
 rcases hs with hs | ⟨b,off,cap,ro,cells,rfl,hb,ho,hcs⟩
 ·exact .inl hs
 ·exact .inr ⟨b,off,cap,ro,cells,rfl,h1 _ _ _ hb,ho,hcs⟩
structure ScT where
 n:Int
 A:List (List Int)
 bs:List Rat
 C:List Int
 cb:Rat
def PIs (H:a0f) (cs:List Value) (l:List Int):Prop:=∃ w,cs=[w]∧Sls PI H a0a 2 w l
theorem p0L:k0V PIs:=fun _ _ _ _ hx ⟨v,h1,h2⟩=>⟨v,h1,h2.mono d0e hx⟩
def SV (H:a0f) (v:Value) (p:ScT):Prop:=∃ sA sB sC s1 s2,v=.agg #[.int .i64 p.n,sA,sB,sC,.bool (a0e p.cb).1.1,s1,.bool (a0e p.cb).2.1,s2] ∧
 Sls PIs H b0G 1 sA p.A∧a0T H sB (p.bs.map a0e)∧Sls PI H a0a 2 sC p.C∧Lim H s1 (a0e p.cb).1.2∧Lim H s2 (a0e p.cb).2.2
theorem Whole.mono {xs:List Rat} {zs:List Int} {b:Rat} {K K':Nat} (h:Whole xs zs b K) (hK:K≤K'):Whole xs zs b K' :=
 ⟨h.len,h.pos,h.eq,fun z hz=>f1Y (h.szz z hz) hK,f1Y h.szb hK⟩
def k0r (p:LPt) (k:Nat):List Rat:=(p.A.getD k []).map b0u ++ [b0u (p.B.getD k d0Q)]
def W0l (H:a0f) (P:Nat) (p:LPt) (sA0 sB0 sC0:Value) (K:Nat) (i:Nat) (ρ:Nat→Value) (G:a0f):Prop :=
 ρ 12=sA0∧ρ 1=.pointer (some ⟨H.size,0,none⟩)∧ρ 2=.pointer (some ⟨H.size + 1,0,none⟩)∧ρ 3=.pointer (some ⟨P,0,none⟩)∧Ext H G ∧
  a0f.blk G H.size=.row false b0k [.int .i64 p.n,sA0,sB0,sC0] ∧
  a0f.blk G (H.size + 1)=.row false a0O [.int .i64 0,.slice none 0 0,.slice none 0 0,.slice none 0 0,.bool false,.slice none 0 0,.bool false,.slice none 0 0] ∧
  ∃ (sA sB:Value) (L:List (List Int)) (bs:List Rat),a0f.blk G P=.row false a0O [.int .i64 p.n,sA,sB,.slice none 0 0,.bool false,.slice none 0 0,.bool false,.slice none 0 0] ∧
   b0b PIs H.size G b0G 1 sA L∧b0b PR H.size G a0b 4 sB (bs.map a0e)∧L.length=i∧bs.length=i ∧
   ∀ k,k < i→Whole (k0r p k) (L.getD k []) (bs.getD k 0) K
theorem j0E {S N K:Nat} {p:LPt} (h:LPV H v p) (hf:fl≤H.size) (hA:∀ r ∈ p.A,Few S r∧r.length≤N) (hB:Few S p.B) (hBl:p.B.length=p.A.length) (hC:Few S p.C) (hCl:p.C.length≤N) (hAl:p.A.length < 67108864)
  (hS:1≤S) (hK:K=(N + 3) * (S + 1)) (hK2:K < 67108864) :
  a0U env fl z0M [v] H (fun r H'=>(∃ q:ScT,SV H' r q∧q.n=p.n∧q.A.length=p.A.length∧q.bs.length=p.A.length∧(∀ k,k < p.A.length→Whole (k0r p k) (q.A.getD k []) (q.bs.getD k 0) K)∧Whole (p.C.map b0u) q.C q.cb K)∧Ext H H') R:=by
 obtain ⟨sA0,sB0,sC0,rfl,kA,kB,kC⟩:=h
 refine a0i c1b hf (h:=?_)
 intro ρ h0
 simp [L0n,B0V,h0,kA.cells,kB.cells,kC.cells]
 generalize hG:Array.push (Array.push H _) _=G
 obtain ⟨hx2,b0,b1⟩:=push2 hG
 have hx:=Ext.refl H
 clear hG
 replace hx:=hx.trans hx2
 have hsz:=hx.1
 have hb1l:=a0l b1
 simp [B0W,b0,hsz]
 generalize hN:Array.setIfInBounds (Array.push _ _) _ _=G3
 obtain ⟨hx2,b2⟩:=new1 hN
 clear hN
 replace b0:=hx2.blk b0;replace b1:=hx2.blk b1;replace hx:=hx.trans hx2
 obtain ⟨P,hP⟩:∃ P,P=G.size:=⟨_,rfl⟩
 rw [← hP] at b2 hsz hb1l ⊢
 have hPne:P ≠ H.size:=by omega
 have hPne1:P ≠ H.size + 1:=by omega
 have hNS:S < K:=by rw [hK];have:1 * (S + 1)≤(N + 3) * (S + 1):=f1S _ (by omega);omega
 have hNK:N + 3≤K:=by rw [hK];have:(N + 3) * 1≤(N + 3) * (S + 1):=g1l _ (by omega);omega
 simp [B0X,b0,kA.slen]
 refine d0W (n:=p.A.length) (W0l H P p sA0 sB0 sC0 K) rfl rfl (by decide) (by omega) (by simp) (by simp) ?_ ?_ ?_ ?_
 ·exact ⟨by simp,by simp,by simp,by simp,hx,b0,b1,_,_,[],[],b2,b0b.nil,b0b.nil,rfl,rfl,fun k hk=>by omega⟩
 ·intro i ρ ρ' G h hI;simpa [W0l,h] using hI
 ·clear h0 ρ hx b0 b1 b2 hx2
  rintro i ρ G hi gi gn ⟨g12,g1,g2,g3,hx,b0,b1,sA,sB,L,bs,b2,oA,oB,hL,hbs,hW⟩
  have kA':=kA.mono b0w hx
  have kB':=kB.mono a0t hx
  obtain ⟨wr,hlr,kr⟩:=d0v.load kA' hi
  simp [B0Y,g12,gi,kA'.ia hi,hlr]
  refine e0u ?_
  simp [B0Z]
  have hAi:=hA _ (f1Q hi)
  refine (f0d kr (by have:=hx.1;omega) hAi.1 (by omega) (by omega)).mono ?_
  rintro r G2 ⟨kw,hxa⟩
  have b0':=hxa.blk b0
  have kB2:=kB'.mono a0t hxa
  have hiB:i < p.B.length:=by omega
  have hBi:=hB _ (f1Q hiB)
  obtain ⟨we,hle,k0⟩:=a0T.load kB2 hiB
  obtain ⟨s1,s2,rfl,k1,k2⟩:=id k0
  simp [g1,b0',kB2.ia hiB,hle]
  have hHG:=hx.1
  have hGG2:=hxa.1
  refine (c0X (a:=p.B[i]) k0 (b:=d0Q) h0l (by omega) (by omega) (by decide)).mono ?_
  rintro _ G3 ⟨⟨s3,s4,rfl,k3,k4⟩,hxb⟩
  replace kw:=kw.mono a0t hxb
  rw [d0q,i1j] at k3 k4 ⊢
  have hown:(i0x p.A[i]).length=p.A[i].length:=by unfold i0x;simp
  obtain ⟨r',G4,h1,h2,h3,h4⟩:=b0b.app (P:=PR) (sz:=4) (e:=a0b) (by decide) (fun G' cs x _ hl h=>b0X.lx h hl) (kw.low (show H.size≤G.size from hHG)) (e2:=a0b) (c:=1) (bytes:=64) (new:=[.bool (a0e (b0u p.B[i])).1.1,s3,.bool (a0e (b0u p.B[i])).2.1,s4]) (x:=a0e (b0u p.B[i])) ⟨s3,s4,rfl,k3,k4⟩ rfl (by simp [k3.plain,k4.plain]) (by omega) (by omega) (by omega) (by have:=hxb.1;omega)
  have hxG:Ext G G4:=by
   have hh:=hxa.trans hxb
   exact ⟨f1Y hh.1 h3.1,fun b hb=>(h3.2 b (g1c hb hh.1) (fun h=>by have:=(kw.ge h).1;omega)).trans (hh.2 b hb)⟩
  simp [h1,k3.cells,k4.cells]
  have hrow:i0x p.A[i] ++ [a0e (b0u p.B[i])]=(k0r p i).map a0e:=by
   unfold k0r i0x
   rw [f1H,f1H,f1M hi,f1M hiB];simp
  rw [hrow] at h2
  have hrl:(k0r p i).length=p.A[i].length + 1:=by rw [← hown];have:=congrArg List.length hrow;simpa using this.symm
  have hrS:∀ x ∈ k0r p i,szR x≤S:=by
   intro x hx
   unfold k0r at hx
   rw [f1H,f1H,f1M hi,f1M hiB] at hx
   simp only [g1s,g1o,g1U,i1G] at hx
   rcases hx with ⟨y,hy,rfl⟩ | rfl
   ·obtain ⟨l1,l2,l3⟩:=hAi.1 _ hy
    have:=b0N l2 l3;omega
   ·obtain ⟨l1,l2,l3⟩:=hBi
    have:=b0N l2 l3;omega
  have hrK:((k0r p i).length + 2) * (S + 1)≤K:=by rw [hK];exact f1S _ (by omega)
  refine (g0k h2.sls (by have:=hxG.1;omega) hrS (by omega)).mono ?_
  rintro _ G5 ⟨⟨q1,_,by',zs,rfl,hWi,hq,⟨s5,s6,rfl,k5,k6⟩⟩,hxc⟩
  have hxd:=hxG.trans hxc
  have hsz5:H.size≤G5.size:=by have:=hxd.1;omega
  simp [k5.cells,k6.cells,k5.plain,k6.plain,hsz5]
  generalize hN:Array.setIfInBounds (Array.push _ _) _ _=G6
  obtain ⟨hxe,b3⟩:=new1 hN
  clear hN
  replace k5:=k5.mono hxe
  replace k6:=k6.mono hxe
  replace hq:=hq.mono d0e hxe
  have hx2:Ext G G6:=hxd.trans hxe
  replace b0:=hx2.blk b0;replace b1:=hx2.blk b1;replace b2:=hx2.blk b2;replace hx:=hx.trans hx2
  replace kA':=kA'.mono b0w hx2
  replace kB':=kB'.mono a0t hx2
  replace oA:=oA.mono p0L hx2
  replace oB:=oB.mono a0t hx2
  obtain ⟨Q,hQ⟩:∃ Q,Q=G5.size:=⟨_,rfl⟩
  rw [← hQ] at b3 ⊢
  refine e0u ?_
  obtain ⟨cq,pq⟩:=hq.cells
  obtain ⟨sA',G7,h1,h2,h3,h4⟩:=b0b.app (P:=PIs) (sz:=1) (e:=b0G) (by decide)
    (fun G' cs x hxb hl ⟨w',q1,q2⟩=>⟨w',q1,x0z.lx2 q2 (oA.lxT (by decide) hxb) hl⟩) oA (e2:=b0G) (c:=1) (bytes:=24) (new:=[q1]) (x:=zs) ⟨q1,rfl,hq.sls⟩ rfl (by simp [pq]) (by omega) (by omega) (by omega) hx.1
  obtain ⟨_,_,hAe⟩:=d0M (by decide) h1
  have hlx:=oA.lx (by decide) h3
  have nA0:=oA.ne b0 (by decide)
  have nA1:=oA.ne b1 (by decide)
  have nA2:=oA.ne b2 (by decide)
  have nA3:=oA.ne b3 (by decide)
  have hAo:=oA.blkOf
  simp [C0a,g3,b2,cq,h1]
  replace b0:=(h3.2 _ (a0l b0) nA0).trans b0
  replace b1:=(h3.2 _ (a0l b1) nA1).trans b1
  replace b2:=(h3.2 _ (a0l b2) nA2).trans b2
  replace b3:=(h3.2 _ (a0l b3) nA3).trans b3
  replace hx:=h4 _ (f1I _) hx
  replace k5:=k5.lx hlx
  replace k6:=k6.lx hlx
  replace oB:=oB.lxm (Q':=PR) (oA.lxT (by decide) h3) (fun cs x h=>b0X.lx h hlx)
  simp [b2,b3]
  have hbl:(bs.map a0e).length=i:=by simp [hbs]
  obtain ⟨sB',G8,p1,p2,p3,p4⟩:=b0b.app (P:=PR) (sz:=4) (e:=a0b) (by decide) (fun G' cs x _ hl h=>b0X.lx h hl) oB (e2:=a0b) (c:=1) (bytes:=64) (new:=[.bool (a0e by').1.1,s5,.bool (a0e by').2.1,s6]) (x:=a0e by') ⟨s5,s6,rfl,k5,k6⟩ rfl (by simp [k5.plain,k6.plain]) (by omega) (by omega) (by omega) hx.1
  have hly:=oB.lx (by decide) p3
  have nB0:=oB.ne b0 (by decide)
  have nB1:=oB.ne b1 (by decide)
  have nB2:=oB.ne b2 (by decide)
  replace h2:=h2.lxm (Q':=PIs) (oB.lxT (by decide) p3) (fun cs x ⟨w',q1,q2⟩=>⟨w',q1,x0z.lx2 q2 (oB.lxT (by decide) p3) hly⟩)
  replace b0:=(p3.2 _ (a0l b0) nB0).trans b0
  replace b1:=(p3.2 _ (a0l b1) nB1).trans b1
  replace b2:=(p3.2 _ (a0l b2) nB2).trans b2
  replace hx:=p4 _ (f1I _) hx
  obtain ⟨cA,pA⟩:=h2.cells
  obtain ⟨cB,pB⟩:=p2.cells
  have hz:=a0l b2
  simp [p1,b2,cA,pA,cB,pB,hsz,hz]
  generalize hS1:Array.setIfInBounds _ _ _=G9
  have t1:∀ {e:Nat},a0O ≠ e→LxT e G8 G9:=fun hne=>b0e hS1 b2 hne
  have hbo:∀ x,x ∈ blkW sA→slB sA=some x:=by
   rcases hAo with h | ⟨b,h,h'⟩
   ·rw [h];simp
   ·rw [h,h'];simp
  refine ⟨⟨fun x hx h=>nA2 (by rw [hbo x hx,h]),fun x hx h=>nA3 (by rw [hbo x hx,h])⟩,Rnd.mk (by simp [gi]) (by simp [gn]) ⟨by simp [g12],by simp [g1],by simp [g2],by simp [g3],a0J hS1 hx hsz,a0o hS1 b0 hPne,a0o hS1 b1 hPne1,sA',sB',L ++ [zs],bs ++ [by'],a0u hS1 b2,?_,?_,by simp [hL],by simp [hbs],fun k hk=>?_⟩⟩
  ·exact h2.lxm (t1 (by decide)) (fun cs x ⟨w',q1,q2⟩=>⟨w',q1,x0z.lx2 q2 (t1 (by decide)) (t1 (by decide))⟩)
  ·rw [i1E];exact p2.lxm (t1 (by decide)) (fun cs x h=>b0X.lx h (t1 (by decide)))
  ·by_cases hki:k=i
   ·have e1:(L ++ [zs]).getD k []=zs:=by rw [hki,← hL];simp [f1H]
    have e2:(bs ++ [by']).getD k 0=by':=by rw [hki,← hbs];simp [f1H]
    rw [e1,e2,hki];exact hWi.mono hrK
   ·have e1:(L ++ [zs]).getD k []=L.getD k []:=by rw [f1H,g1z (by omega),f1H]
    have e2:(bs ++ [by']).getD k 0=bs.getD k 0:=by rw [f1H,g1z (by omega),f1H]
    rw [e1,e2];exact hW k (by omega)
 ·clear h0 ρ hx b0 b1 b2 hx2
  rintro ρ G gi gn ⟨g12,g1,g2,g3,hx,b0,b1,sA,sB,L,bs,b2,oA,oB,hL,hbs,hW⟩
  have kC':=kC.mono a0t hx
  simp [C0b,g1,b0]
  refine (f0d kC' hx.1 hC (by omega) (by omega)).mono ?_
  rintro r G2 ⟨kw,hxa⟩
  have hcs:i0x p.C=(p.C.map b0u).map a0e:=by unfold i0x;simp
  rw [hcs] at kw
  have hrS:∀ x ∈ p.C.map b0u,szR x≤S:=by
   intro x hx
   simp only [g1U] at hx
   obtain ⟨y,hy,rfl⟩:=hx
   obtain ⟨l1,l2,l3⟩:=hC _ hy
   have:=b0N l2 l3;omega
  have hrK:((p.C.map b0u).length + 2) * (S + 1)≤K:=by rw [hK,h1a];exact f1S _ (by omega)
  simp
  refine (g0k kw.sls (by have:=hxa.1;have:=hx.1;omega) hrS (by omega)).mono ?_
  rintro _ G5 ⟨⟨q1,_,by',zs,rfl,hWi,hq,⟨s5,s6,rfl,k5,k6⟩⟩,hxc⟩
  have hx2:Ext G G5:=hxa.trans hxc
  replace b1:=hx2.blk b1;replace b2:=hx2.blk b2;replace hx:=hx.trans hx2
  replace oA:=oA.mono p0L hx2
  replace oB:=oB.mono a0t hx2
  obtain ⟨cq,pq⟩:=hq.cells
  obtain ⟨cA,pA⟩:=oA.cells
  obtain ⟨cB,pB⟩:=oB.cells
  have hz1:=a0l b1
  have hz2:=a0l b2
  simp [g3,g2,b2,cq,pq,k5.cells,k5.plain,k6.cells,k6.plain,hsz]
  generalize hS1:Array.setIfInBounds _ _ _=G6
  have t1:∀ {e:Nat},a0O ≠ e→LxT e G5 G6:=fun hne=>b0e hS1 b2 hne
  replace b1:=a0o hS1 b1 hPne1
  replace b2:=a0u hS1 b2
  replace hx:=a0J hS1 hx hsz
  have hz3:=a0l b2
  simp [b2,hsz]
  generalize hS2:Array.setIfInBounds _ _ _=G7
  have t2:∀ {e:Nat},a0O ≠ e→LxT e G6 G7:=fun hne=>b0e hS2 b2 hne
  replace b1:=a0o hS2 b1 hPne1
  replace b2:=a0u hS2 b2
  have hz4:=a0l b1
  simp [C0c,g2,g3,b1,b2,cA,pA,cB,pB,cq,pq,k5.cells,k5.plain,k6.cells,k6.plain]
  generalize hS3:Array.setIfInBounds _ _ _=G8
  have t3:∀ {e:Nat},a0O ≠ e→LxT e G7 G8:=fun hne=>b0e hS3 b1 hne
  have t:∀ {e:Nat},a0O ≠ e→LxT e G5 G8:=fun hne b ro cs hb=>t3 hne _ _ _ (t2 hne _ _ _ (t1 hne _ _ _ hb))
  replace b1:=a0u hS3 b1
  simp [b1]
  refine fun _=>⟨⟨p.n,L,bs,zs,by'⟩,⟨sA,sB,q1,s5,s6,rfl,?_,?_,?_,k5.lx (t (by decide)),k6.lx (t (by decide))⟩,rfl,hL,hbs,fun k hk=>?_,hWi.mono hrK⟩
  ·exact (oA.lxm (Q':=PIs) (t (by decide)) (fun cs x ⟨w',q1,q2⟩=>⟨w',q1,x0z.lx2 q2 (t (by decide)) (t (by decide))⟩)).sls
  ·exact a0T.lx2 oB.sls (t (by decide)) (t (by decide))
  ·exact x0z.lx2 hq.sls (t (by decide)) (t (by decide))
  ·have:=hW k hk
   rwa [f1H,f1H] at this
end
section
open Go
set_option maxHeartbeats 4000000
variable {E:Env} {fl:Nat} {t:b0c} {H:a0f} {Q:d0R} {R:a0E}
def WRP (E:Env) (fl:Nat) (bef:List Nat) (pairs:List (Nat × Nat)) (Z:b0c→a0f→Prop) (R:a0E):Nat→List a0L→b0c→a0f→Option (Nat × Value)→Log→Prop
 | _,[],t,H,p,lg=>c0L lg.reverse pairs=true∧(match p with | none=>Z t H | some (_,v)=>R v)
 | i,o :: r,t,H,p,lg=>if g0N bef i p=true then WRP E fl bef pairs Z R (i + 1) r t H p (([],[]) :: lg) else
  if b0g t o.g then WS E fl t H o.op (fun v H'=>WRP E fl bef pairs Z R (i + 1) r (put t o.dst v) H' p (c0Y t o.op :: lg)) (fun v=>p=none∧WRP E fl bef pairs Z R (i + 1) r t H (some (i,v)) (([],[]) :: lg))
  else WRP E fl bef pairs Z R (i + 1) r (put t o.dst undef) H p (([],[]) :: lg)
theorem i0O (bef:List Nat) (pairs:List (Nat × Nat)) {Z:b0c→a0f→Prop}:∀ (ops:List a0L) (i:Nat) (t:b0c) (H:a0f) (p:Option (Nat × Value)) (log:Log),
  WRP E fl bef pairs Z R i ops t H p log→∃ n,k0k (fun e t H=>e=.normal∧Z t H) R (b0Q (b0o E n) fl bef pairs i ops t H p log)
 | [],i,t,H,p,log,h=>by
  refine ⟨0,?_⟩
  simp only [b0Q];rw [f1N h.1]
  cases p with
  | none=>exact ⟨rfl,h.2⟩
  | some q=>exact h.2
 | o :: r,i,t,H,p,log,h=>by
  simp only [WRP] at h
  split at h
  ·rename_i hh
   obtain ⟨n,hn⟩:=i0O bef pairs r (i + 1) _ _ _ _ h
   exact ⟨n,by simp only [b0Q];rw [f1N hh];exact hn⟩
  ·rename_i hh
   split at h
   ·rename_i hw
    obtain ⟨n,hn⟩:=z0r h
    have key:∀ (m:Nat) (t2:b0c) (H2:a0f) (p2:Option (Nat × Value)) (lg2:Log),k0k (fun e t H=>e=.normal∧Z t H) R (b0Q (b0o E m) fl bef pairs (i + 1) r t2 H2 p2 lg2) →
      b0Q (b0o E (max n m)) fl bef pairs (i + 1) r t2 H2 p2 lg2=b0Q (b0o E m) fl bef pairs (i + 1) r t2 H2 p2 lg2:=fun m t2 H2 p2 lg2 hm =>
     d0b (a0N E m (max n m) (by omega)) (f1I fl) bef pairs r (i + 1) t2 H2 p2 lg2 (by intro hb;rw [hb] at hm;exact hm)
    have h1:∀ m,b0D (b0o E n) fl t H o.op ≠ .bad→b0D (b0o E (max n m)) fl t H o.op=b0D (b0o E n) fl t H o.op:=fun m hb=>f0A (a0N E n (max n m) (by omega)) (f1I fl) (t:=t) (H:=H) (so:=o.op) hb
    cases hs:b0D (b0o E n) fl t H o.op with
    | bad=>rw [hs] at hn;exact g1g hn id
    | pan v =>
     rw [hs] at hn
     obtain ⟨rfl,hn⟩:=hn
     obtain ⟨m,hm⟩:=i0O bef pairs r (i + 1) _ _ _ _ hn
     refine ⟨max n m,?_⟩
     simp only [b0Q]
     rw [f1K hh,f1N hw,h1 m (by rw [hs];simp),hs]
     simp only []
     rw [key m _ _ _ _ hm];exact hm
    | ok rr =>
     obtain ⟨v,H'⟩:=rr
     rw [hs] at hn
     obtain ⟨m,hm⟩:=i0O bef pairs r (i + 1) _ _ _ _ hn
     refine ⟨max n m,?_⟩
     simp only [b0Q]
     rw [f1K hh,f1N hw,h1 m (by rw [hs];simp),hs]
     simp only []
     rw [key m _ _ _ _ hm];exact hm
   ·rename_i hw
    obtain ⟨m,hm⟩:=i0O bef pairs r (i + 1) _ _ _ _ h
    exact ⟨m,by simp only [b0Q];rw [f1K hh,f1K hw];exact hm⟩
theorem l0E {ops:List a0L} {bef:List Nat} {pairs:List (Nat × Nat)} (h:WRP E fl bef pairs (fun t H=>Q .normal t H) R 0 ops t H none []):W E fl (.draw ops bef pairs) t H Q R:=by
 obtain ⟨n,hn⟩:=i0O bef pairs ops 0 t H none [] h
 refine ⟨n + 1,?_⟩
 have h2:=d0b (a0N E n (n+1) (by omega)) (f1I fl) bef pairs ops 0 t H none [] (by intro hb;rw [hb] at hn;exact hn)
 simp only [b0d,h2]
 cases hd:b0Q (b0o E n) fl bef pairs 0 ops t H none [] with
 | bad=>rw [hd] at hn;exact hn
 | pan v=>rw [hd] at hn;exact hn
 | fin e t' H'=>rw [hd] at hn;obtain ⟨rfl,hn⟩:=hn;exact hn
section
variable {bef:List Nat} {pairs:List (Nat × Nat)} {Z:b0c→a0f→Prop} {lg lg2:Log} {d:Option Nat} {op:SOp} {r:List a0L} {i j:Nat} {v:Value} {x:Opd} {K:n0t}
@[simp ↓] theorem b1b:WRP E fl bef pairs Z R i [] t H none lg=(c0L lg.reverse pairs=true∧Z t H):=nr rfl
@[simp ↓] theorem Z0n:WRP E fl bef pairs Z R i [] t H (some (j,v)) lg=(c0L lg.reverse pairs=true∧R v):=nr rfl
@[simp ↓] theorem Z0m:WRP E fl bef pairs Z R i (⟨d,none,op⟩ :: r) t H none lg =
  WS E fl t H op (fun v H'=>WRP E fl bef pairs Z R (i + 1) r (put t d v) H' none (c0Y t op :: lg)) (fun v=>WRP E fl bef pairs Z R (i + 1) r t H (some (i,v)) (([],[]) :: lg)):=by
 simp [WRP,b0g,g0N]
@[simp ↓] theorem W0q:WRP E fl bef pairs Z R i (⟨d,none,op⟩ :: r) t H (some (j,v)) lg =
  if (bef.getD i 0).testBit j=true then WRP E fl bef pairs Z R (i + 1) r t H (some (j,v)) (([],[]) :: lg) else
  WS E fl t H op (fun w H'=>WRP E fl bef pairs Z R (i + 1) r (put t d w) H' (some (j,v)) (c0Y t op :: lg)) (fun _=>False):=by
 simp [WRP,b0g,g0N]
theorem z0o {t':b0c} {ops:List a0L} {p:Option (Nat × Value)} (h:t=t'):WRP E fl bef pairs Z R i ops t H p lg=WRP E fl bef pairs Z R i ops t' H p lg:=by rw [h]
attribute [congr] z0o
def S0U (E:Env) (fl fl':Nat) (bef:List Nat) (pairs:List (Nat × Nat)) (Z:b0c→a0f→Prop) (R:a0E) (i j:Nat) (f:FuncId) (args:List Value) (H:a0f) (d:Option Nat) (r:List a0L) (t:b0c) (lg lg2:Log):Prop :=
 a0U E fl' f args H (fun v H'=>WRP E fl bef pairs Z R j r (put t d v) H' none lg) (fun v=>WRP E fl bef pairs Z R j r t H (some (i,v)) lg2)
@[simp ↓ high] theorem Z0q {f:FuncId} {al:List Opd} {lone:Bool} :
  WS E fl t H (.call f al lone) (fun v H'=>WRP E fl bef pairs Z R j r (put t d v) H' none lg) (fun v=>WRP E fl bef pairs Z R j r t H (some (i,v)) lg2) =
   S0U E fl (if lone then fl else max fl H.size) bef pairs Z R i j f (al.map (ev t)) H d r t lg lg2:=nr rfl
theorem s0U {fl' fl2:Nat} {f:FuncId} {al al':List Value} {t':b0c} (h:al=al') (ht:t=t') (hf:fl' = fl2) :
  S0U E fl fl' bef pairs Z R i j f al H d r t lg lg2=S0U E fl fl2 bef pairs Z R i j f al' H d r t' lg lg2:=by rw [h,ht,hf]
attribute [congr] s0U
def d1w (tbl:List (TypeId × FuncId)):Value→Option (FuncId × Value)
 | .iface ty v=>match tbl.lookup ty with | some f=>some (f,v) | none=>none
 | _=>none
@[simp] theorem V0T {ty:TypeId} {tbl:List (TypeId × FuncId)}:d1w tbl (.iface ty v)=match tbl.lookup ty with | some f=>some (f,v) | none=>none:=nr rfl
@[simp ↓] theorem d1P {tbl:List (TypeId × FuncId)} {al:List Opd} {lone:Bool}:WS E fl t H (.inv x tbl al lone) K R=oo (d1w tbl (ev t x)) fun q=>WS E fl t H (.call q.1 (.const q.2 :: al) lone) K R:=by
 simp only [WS,opA];generalize ev t x=y
 cases y <;> simp only [d1w,t0v]
 rename_i ty v
 cases tbl.lookup ty <;> simp
def Z0D (e b:Nat):Blk→Option Value
 | .row false e' _=>if e' = e then some (.pointer (some ⟨b,0,none⟩)) else none
 | _=>none
@[simp] theorem Z0E {e e' b:Nat} {cs:List Value}:Z0D e b (.row false e' cs)=if e' = e then some (.pointer (some ⟨b,0,none⟩)) else none:=nr rfl
def X0H (H:a0f) (e:Nat):Value→Option Value
 | .pointer (some p)=>if p.spot.isSome=false∧p.off=0 then Z0D e p.block (H.blk p.block) else none
 | _=>none
@[simp] theorem Z0F {e b:Nat}:X0H H e (.pointer (some ⟨b,0,none⟩))=Z0D e b (H.blk b):=by simp [X0H]
@[simp ↓] theorem d1O {e:TypeId}:WS E fl t H (.fa0 e x) K R=oo (X0H H e (ev t x)) fun v=>K v H:=by
 simp only [WS,opA];generalize ev t x=y
 cases y <;> simp only [X0H,t0v]
 rename_i p;cases p <;> simp only [X0H,t0v]
 rename_i q
 cases hb:a0f.blk H q.block <;> simp [Z0D]
 rename_i ro e' cs
 cases ro
 ·by_cases h1:q.spot=none <;> by_cases h2:e' = e <;> by_cases h3:q.off=0 <;> simp [h1,h2,h3]
 ·simp
end
attribute [simp ↓] W0u
@[simp] theorem V0V {G:a0f} {a:Addr}:b0y G true 0 (.pointer (some a))=some (.agg #[]):=nr rfl
@[simp] theorem Z0B {a:Addr}:b1R (.pointer (some a))=some (.pointer (some a)):=nr rfl
@[simp] theorem V0o {n j:Nat}:n.testBit j=decide (n / 2 ^ j % 2=1):=Nat.testBit_eq_decide_div_mod_eq
theorem y0m {a b:FuncId}:List.lookup a0n [(a0m,a),(a0n,b)]=some b:=by simp [List.lookup];rfl
theorem y0l {a b:FuncId}:List.lookup a0m [(a0m,a),(a0n,b)]=some a:=by simp [List.lookup]
attribute [simp] y0m y0l
def PF (_:a0f) (cs:List Value) (z:Int):Prop:=cs=[.int .i64 z]∧f0m z
theorem X0P:k0V PF:=fun _ _ _ _ _ h=>h
theorem p0C {a b:Int} {p:Nat} {cs:List Value} (hf:fl≤H.size) (hb:a0f.blk H p=.row false a0d cs) (ha:f0m a) (hbz:f0m b) (hR:R v0i) :
  a0U env fl y0b [.pointer (some ⟨p,0,none⟩),.int .i64 a,.int .i64 b] H (fun r H'=>(r=.int .i64 (a - b)∧f0m (a - b))∧Ext H H') R:=by
 refine a0i c1U hf (h:=?_)
 intro ρ h0
 simp [M0f,G0H,h0]
 refine l0E ?_
 simp [G0I,h0,hb]
 refine (c0S (n:=1) (by omega) (by omega) (by omega)).mono ?_
 rintro _ G ⟨k0,hx⟩
 simp
 have h1:lz 1 < 1073741824:=by rw [g0e];omega
 refine (l0U k0 (by have:=hx.1;omega) h1 (by simp;exact hR)).mono ?_
 rintro _ G2 ⟨⟨rfl,_⟩,hx2⟩
 have hb2:=(hx.trans hx2).blk hb
 have hsz:=(hx.trans hx2).1
 simp [G0J,h0,hb2]
 have f1:f0m 1:=by unfold f0m;omega
 refine (i0Y (by omega) ha f1 hbz f1 (by decide) hR).mono ?_
 rintro _ G3 ⟨⟨rfl,h⟩,hx3⟩
 have e1:(a * 1 - b * 1).tdiv 1=a - b:=by simp
 rw [e1] at h ⊢
 simp [h]
theorem p0l {a b:Int} {p:Nat} {cs:List Value} {va vb:Value} (hf:fl≤H.size) (hb:a0f.blk H p=.row false a0c cs) (ha:b0f H va (a0k a)) (hbz:b0f H vb (a0k b)) (la:lz a < 67108864) (lb:lz b < 67108864) :
  a0U env fl x0Z [.pointer (some ⟨p,0,none⟩),va,vb] H (fun r H'=>b0f H' r (a0k (a - b))∧Ext H H') R:=by
 refine a0i c1L hf (h:=?_)
 intro ρ h0
 obtain ⟨s0,rfl,k0⟩:=id ha
 obtain ⟨s1,rfl,k1⟩:=id hbz
 simp [L0W,F0C,h0,k0.cells,k0.plain,k1.cells,k1.plain]
 generalize hG:Array.push (Array.push (Array.push H _) _) _=G
 have hx2:Ext H G:=by rw [← hG];exact (Ext.refl H).push.push.push
 have b0:a0f.blk G H.size=.row false a0a [.bool (a0k a).1,s0]:=by rw [← hG];simp
 have b1:a0f.blk G (H.size + 1)=.row false a0a [.bool (a0k b).1,s1]:=by rw [← hG];simp
 have b2:a0f.blk G (H.size + 2)=.row false a0a [.bool false,.slice none 0 0]:=by rw [← hG];simp
 have b3:=hb
 have hx:=Ext.refl H
 clear hG
 replace b3:=hx2.blk b3;replace hx:=hx.trans hx2;replace k0:=k0.mono hx2;replace k1:=k1.mono hx2
 refine a0G ?_
 simp [F0D,h0,b3]
 refine (c0S (n:=1) (by have:=hx.1;omega) (by omega) (by omega)).mono ?_
 rintro _ G2 ⟨k2,hx2⟩
 replace b0:=hx2.blk b0;replace b1:=hx2.blk b1;replace b2:=hx2.blk b2;replace b3:=hx2.blk b3;replace hx:=hx.trans hx2;replace k0:=k0.mono hx2;replace k1:=k1.mono hx2
 simp
 refine (i0o k2 (by have:=hx.1;omega)).mono ?_
 rintro _ G3 ⟨⟨s2,rfl,k3⟩,hx2⟩
 replace b0:=hx2.blk b0;replace b1:=hx2.blk b1;replace b2:=hx2.blk b2;replace b3:=hx2.blk b3;replace hx:=hx.trans hx2;replace k0:=k0.mono hx2;replace k1:=k1.mono hx2
 have hsz:=hx.1
 simp [k3.cells,k3.plain,hsz]
 generalize hN:Array.setIfInBounds (Array.push _ _) _ _=G4
 obtain ⟨hx2,b4⟩:=new1 hN
 clear hN
 replace b0:=hx2.blk b0;replace b1:=hx2.blk b1;replace b2:=hx2.blk b2;replace b3:=hx2.blk b3;replace hx:=hx.trans hx2;replace k0:=k0.mono hx2;replace k1:=k1.mono hx2;replace k3:=k3.mono hx2
 refine a0G ?_
 simp [F0E,h0,b0,b1,b3,b4]
 have l1:lz 1=1:=g0e
 refine (i0Q (a:=a) (b:=1) (c:=b) (d:=1) (e:=1) ⟨s0,rfl,k0⟩ ⟨s2,rfl,k3⟩ ⟨s1,rfl,k1⟩ ⟨s2,rfl,k3⟩ ⟨s2,rfl,k3⟩ (by have:=hx.1;omega) la (by omega) lb (by omega) (by omega) (by decide)).mono ?_
 rintro _ G5 ⟨⟨s5,rfl,k5⟩,hx2⟩
 replace b2:=hx2.blk b2;replace hx:=hx.trans hx2
 have e1:(a * 1 - b * 1).tdiv 1=a - b:=by simp
 rw [e1] at k5 ⊢
 have hz:=a0l b2
 simp [b2,k5.cells,k5.plain]
 generalize hS:Array.setIfInBounds _ _ _=G6
 have hl:Lx G5 G6:=b0e hS b2 (by decide)
 have b8:=a0u hS b2
 simp [b8]
 exact fun _=>⟨s5,rfl,k5.lx hl⟩
end
section
open Go
set_option maxHeartbeats 4000000
variable {fl:Nat} {H G:a0f} {R:a0E} {v w u:Value}
theorem n0I {x D:Int} {p:Nat} {c0 c1 c2 c3:Value} {cs:List Value} (hf:fl≤H.size) (hb:a0f.blk H p=.row false a0d (c0 :: c1 :: c2 :: c3 :: .int .i64 D :: cs)) (hx0:f0m x) (hD:f0m D) (hD0:D ≠ 0) :
  a0U env fl r0D [.pointer (some ⟨p,0,none⟩),.int .i64 x] H (fun r H'=>b0X H' r (a0e (Rat.divInt x D))∧Ext H H') R:=by
 refine a0i c1W hf (h:=?_)
 intro ρ h0
 simp [M0h,G0R,h0]
 generalize hG:Array.push H _=G
 obtain ⟨hx2,b2⟩:=g0B hG
 have b1:=hb
 have hx:=Ext.refl H
 clear hG
 replace b1:=hx2.blk b1;replace hx:=hx.trans hx2
 have lF:∀ z,f0m z→lz z < 536870912:=fun z hz=>by
  have:lz z≤1:=r0R (by obtain ⟨h1,h2⟩:=hz;omega)
  omega
 refine a0G ?_
 simp [G0S,h0,b1]
 refine (k0G (by have:=hx.1;omega) hx0).mono ?_
 rintro _ G2 ⟨k0,hx2⟩
 replace b1:=hx2.blk b1;replace b2:=hx2.blk b2;replace hx:=hx.trans hx2
 simp [h0,b1]
 refine (k0G (by have:=hx.1;omega) hD).mono ?_
 rintro _ G3 ⟨k1,hx2⟩
 replace b2:=hx2.blk b2;replace hx:=hx.trans hx2;replace k0:=k0.mono hx2
 simp
 refine (d0G k0 k1 (by have:=hx.1;omega) (by rw [a0g];exact lF _ hx0) (by rw [a0g];exact lF _ hD) (by rw [a0h];exact hD0)).mono ?_
 rintro _ G4 ⟨⟨_,rfl,s3,s4,rfl,k5,k6⟩,hx2⟩
 replace b2:=hx2.blk b2;replace hx:=hx.trans hx2
 rw [a0h,a0h] at k5 k6 ⊢
 have hsz:=hx.1
 simp [k5.cells,k5.plain,k6.cells,k6.plain,hsz]
 generalize hN:Array.setIfInBounds (Array.push _ _) _ _=G5
 obtain ⟨hx2,b3⟩:=new1 hN
 clear hN
 replace b2:=hx2.blk b2;replace hx:=hx.trans hx2;replace k5:=k5.mono hx2;replace k6:=k6.mono hx2
 have hz:=a0l b2
 simp [G0T,b3,b2,k5.cells,k5.plain,k6.cells,k6.plain]
 generalize hS:Array.setIfInBounds _ _ _=G6
 have hl:Lx G5 G6:=b0e hS b2 (by decide)
 have b8:=a0u hS b2
 simp [b8]
 exact fun _=>⟨s3,s4,by simp [Rat.divInt],by simpa using k5.lx hl,by simpa using k6.lx hl⟩
theorem n0x {x D:Int} {p:Nat} {c0 c1 c2 c3 vx sD:Value} {cs:List Value} (hf:fl≤H.size) (hb:a0f.blk H p=.row false a0c (c0 :: c1 :: c2 :: c3 :: .bool (a0k D).1 :: sD :: cs)) (kD:Lim H sD (a0k D).2) (kx:b0f H vx (a0k x)) (lx:lz x < 67108864) (lD:lz D < 67108864) (hD0:D ≠ 0) :
  a0U env fl r0C [.pointer (some ⟨p,0,none⟩),vx] H (fun r H'=>b0X H' r (a0e (Rat.divInt x D))∧Ext H H') R:=by
 refine a0i c1O hf (h:=?_)
 intro ρ h0
 obtain ⟨s0,rfl,k2⟩:=id kx
 simp [L0Z,F0P,h0,k2.cells,k2.plain]
 generalize hG:Array.push (Array.push H _) _=G
 obtain ⟨hx2,b0,b2⟩:=push2 hG
 have b1:=hb
 have k3:=kD
 have hx:=Ext.refl H
 clear hG
 replace b1:=hx2.blk b1;replace hx:=hx.trans hx2;replace k2:=k2.mono hx2;replace k3:=k3.mono hx2
 refine a0G ?_
 simp [F0Q,h0,b1,b0]
 refine (k0B (a:=x) ⟨s0,rfl,k2⟩ (by have:=hx.1;omega)).mono ?_
 rintro _ G2 ⟨k0,hx2⟩
 replace b1:=hx2.blk b1;replace b2:=hx2.blk b2;replace hx:=hx.trans hx2;replace k3:=k3.mono hx2
 simp [h0,b1]
 refine (k0B (a:=D) ⟨sD,rfl,k3⟩ (by have:=hx.1;omega)).mono ?_
 rintro _ G3 ⟨k1,hx2⟩
 replace b2:=hx2.blk b2;replace hx:=hx.trans hx2;replace k0:=k0.mono hx2
 simp
 refine (d0G k0 k1 (by have:=hx.1;omega) (by rw [a0g];omega) (by rw [a0g];omega) (by rw [a0h];exact hD0)).mono ?_
 rintro _ G4 ⟨⟨_,rfl,s3,s4,rfl,k5,k6⟩,hx2⟩
 replace b2:=hx2.blk b2;replace hx:=hx.trans hx2
 rw [a0h,a0h] at k5 k6 ⊢
 have hsz:=hx.1
 simp [k5.cells,k5.plain,k6.cells,k6.plain,hsz]
 generalize hN:Array.setIfInBounds (Array.push _ _) _ _=G5
 obtain ⟨hx2,b3⟩:=new1 hN
 clear hN
 replace b2:=hx2.blk b2;replace hx:=hx.trans hx2;replace k5:=k5.mono hx2;replace k6:=k6.mono hx2
 have hz:=a0l b2
 simp [F0R,b3,b2,k5.cells,k5.plain,k6.cells,k6.plain]
 generalize hS:Array.setIfInBounds _ _ _=G6
 have hl:Lx G5 G6:=b0e hS b2 (by decide)
 have b8:=a0u hS b2
 simp [b8]
 exact fun _=>⟨s3,s4,by simp [Rat.divInt],by simpa using k5.lx hl,by simpa using k6.lx hl⟩
theorem q0U {α:Type} {Q:a0f→List Value→α→Prop} {z:List Value} {x:α} (hz:Q H z x):∀ n:Nat,(f0n z n).length=n * z.length∧∀ k,k < n→Q H (((f0n z n).drop (k * z.length)).take z.length) x
 | 0=>⟨by simp [f0n],fun k hk=>by omega⟩
 | n + 1=>by
  obtain ⟨h1,h2⟩:=q0U hz n
  refine ⟨by rw [f0n,g1n,h1,g1e];omega,fun k hk=>?_⟩
  cases k with
  | zero=>simpa [f0n] using hz
  | succ k =>
   have:=h2 k (by omega)
   rw [f0n,show (k + 1) * z.length=z.length + k * z.length by rw [g1e];omega,← h1R,List.drop_left]
   exact this
theorem n0G {p q6 q7 l:Nat} {c0 c1:Value} {cs:List Value} (hf:fl≤H.size) (h6:a0f.blk H q6=.row false a0M [.pointer (some ⟨p,0,none⟩)])
  (hb:a0f.blk H p=.row false a0d (c0 :: c1 :: .int .i64 (l:Int) :: cs)) (h7:a0f.blk H q7=.row false d0w [.int .i64 0]) (hl:l < 1073741823) :
  a0U env fl n0A [.pointer (some ⟨q6,0,none⟩),.pointer (some ⟨q7,0,none⟩)] H (fun r H'=>b0b PF H.size H' d0w 1 r (List.replicate (l + 1) 0)∧Ext H H') R:=by
 refine a0i c1T hf (h:=?_)
 intro ρ h0
 obtain ⟨n,hn⟩:∃ n,n=l + 1:=⟨_,rfl⟩
 rw [← hn]
 have w1:IntKind.i64.wrap ((l:Int) + 1)=(n:Int):=by rw [a0Q (by omega) (by omega)];omega
 have hmk:=g0Q (bytes:=8) (k:=.i64) (k':=.i64) (l:=n) (c:=n) (f1I _) (by omega) (by omega)
 simp [M0e,G0B,G0C,h0,h6,hb,w1,hmk]
 generalize hG:Array.push H _=G
 obtain ⟨hx2,b0⟩:=g0B hG
 have f0:f0m 0:=by unfold f0m;omega
 obtain ⟨hr1,hr2⟩:=q0U (H:=G) (Q:=PF) (z:=[.int .i64 0]) (x:=0) ⟨rfl,f0⟩ n
 have ho:b0b PF H.size G d0w 1 (.slice (some ⟨H.size,0,none⟩) n n) (List.replicate n 0):=by
  refine ⟨_,by simpa using Own.mk (n:=n) (sz:=1) (cap:=n) b0 (by simpa using hr1) (f1I _),fun k hk=>?_⟩
  rw [List.getElem_replicate];exact hr2 k (by simpa using hk)
 clear hG b0
 have hsl:=ho.slen
 rw [List.length_replicate] at hsl
 simp [G0D,hsl]
 refine d0W (n:=n) (fun _ ρ G=>ρ 1=.pointer (some ⟨q7,0,none⟩)∧Ext H G∧b0b PF H.size G d0w 1 (ρ 3) (List.replicate n 0)) rfl rfl (by decide) (by omega) (by simp) (by simp) ?_ ?_ ?_ ?_
 ·exact ⟨by simp [h0],hx2,by simpa using ho⟩
 ·intro i ρ ρ' G h hI;simpa [h] using hI
 ·clear h0 ρ ho hx2 hr2
  rintro i ρ G hi gi gn ⟨g1,hx,ho⟩
  obtain ⟨so,g3⟩:∃ so,ρ 3=so:=⟨_,rfl⟩
  rw [g3] at ho
  have h7':=hx.blk h7
  have hil:i < (List.replicate n (0:Int)).length:=by simpa using hi
  obtain ⟨G5,hst,ho2,hxb⟩:=b0b.store (j:=i) (x:=(0:Int)) (w:=.int .i64 0) ho hil (by omega) rfl rfl (fun G' _ _=>⟨rfl,f0⟩) (by decide) (fun G' cs y _ _ h=>h)
  simp [G0E,G0F,g1,g3,gi,h7',ho.sls.ia hil,hst]
  have hs:(List.replicate n (0:Int)).set i 0=List.replicate n 0:=by simp
  rw [hs] at ho2
  exact Rnd.mk (by simp [gi]) (by simp [gn]) ⟨by simp [g1],⟨f1Y hx.1 hxb.1,fun b hb=>(hxb.2 b (g1c hb hx.1) (fun h=>by have:=(ho.ge h).1;omega)).trans (hx.2 b hb)⟩,by simpa [g3] using ho2⟩
 ·rintro ρ G gi gn ⟨g1,hx,ho⟩
  simp [G0G]
  exact fun _=>ho
theorem n0v {p q6 q7 l:Nat} {c0 c1 s7:Value} {cs:List Value} (hf:fl≤H.size) (h6:a0f.blk H q6=.row false a0I [.pointer (some ⟨p,0,none⟩)])
  (hb:a0f.blk H p=.row false a0c (c0 :: c1 :: .int .i64 (l:Int) :: cs)) (h7:a0f.blk H q7=.row false a0a [.bool (a0k 0).1,s7]) (k7:Lim H s7 (a0k 0).2) (hl:l < 1073741823) :
  a0U env fl n0z [.pointer (some ⟨q6,0,none⟩),.pointer (some ⟨q7,0,none⟩)] H (fun r H'=>b0b PI H.size H' a0a 2 r (List.replicate (l + 1) 0)∧Ext H H') R:=by
 refine a0i c1K hf (h:=?_)
 intro ρ h0
 obtain ⟨n,hn⟩:∃ n,n=l + 1:=⟨_,rfl⟩
 rw [← hn]
 have w1:IntKind.i64.wrap ((l:Int) + 1)=(n:Int):=by rw [a0Q (by omega) (by omega)];omega
 have hmk:=g0Q (bytes:=32) (k:=.i64) (k':=.i64) (l:=n) (c:=n) (f1I _) (by omega) (by omega)
 simp [L0V,F0w,F0x,h0,h6,hb,w1,hmk]
 generalize hG:Array.push H _=G
 obtain ⟨hx2,b0⟩:=g0B hG
 have f0:PI G [.bool false,.slice none 0 0] 0:=⟨_,by rw [e0b],by rw [e0b];exact Lim.nil⟩
 obtain ⟨hr1,hr2⟩:=q0U (H:=G) (Q:=PI) (z:=[.bool false,.slice none 0 0]) (x:=0) f0 n
 have ho:b0b PI H.size G a0a 2 (.slice (some ⟨H.size,0,none⟩) n n) (List.replicate n 0):=by
  refine ⟨_,by simpa using Own.mk (n:=n) (sz:=2) (cap:=n) b0 (by simpa using hr1) (f1I _),fun k hk=>?_⟩
  rw [List.getElem_replicate];exact hr2 k (by simpa using hk)
 clear hG b0
 have hsl:=ho.slen
 rw [List.length_replicate] at hsl
 simp [F0y,hsl]
 refine d0W (n:=n) (fun _ ρ G=>ρ 1=.pointer (some ⟨q7,0,none⟩)∧Ext H G∧b0b PI H.size G a0a 2 (ρ 3) (List.replicate n 0)) rfl rfl (by decide) (by omega) (by simp) (by simp) ?_ ?_ ?_ ?_
 ·exact ⟨by simp [h0],hx2,by simpa using ho⟩
 ·intro i ρ ρ' G h hI;simpa [h] using hI
 ·clear h0 ρ ho hx2 hr2
  rintro i ρ G hi gi gn ⟨g1,hx,ho⟩
  obtain ⟨so,g3⟩:∃ so,ρ 3=so:=⟨_,rfl⟩
  rw [g3] at ho
  have h7':=hx.blk h7
  have k7':=k7.mono hx
  have hil:i < (List.replicate n (0:Int)).length:=by simpa using hi
  obtain ⟨G5,hst,ho2,hxb⟩:=b0b.store (j:=i) (x:=(0:Int)) (w:=.agg #[.bool (a0k 0).1,s7]) ho hil (by omega) rfl (by simp [k7'.plain]) (fun G' _ hl=>⟨s7,rfl,k7'.lx hl⟩) (by decide) (fun G' cs y _ hl h=>b0f.lx h hl)
  simp [F0z,F0A,g1,g3,gi,h7',ho.sls.ia hil,hst]
  have hs:(List.replicate n (0:Int)).set i 0=List.replicate n 0:=by simp
  rw [hs] at ho2
  exact Rnd.mk (by simp [gi]) (by simp [gn]) ⟨by simp [g1],⟨f1Y hx.1 hxb.1,fun b hb=>(hxb.2 b (g1c hb hx.1) (fun h=>by have:=(ho.ge h).1;omega)).trans (hx.2 b hb)⟩,by simpa [g3] using ho2⟩
 ·rintro ρ G gi gn ⟨g1,hx,ho⟩
  simp [F0B]
  exact fun _=>ho
end
end Go.Proofs.YtjlohmnnldbjoaaGreat.AI
