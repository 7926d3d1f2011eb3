/- Part 9 of the proof. -/
import Derived.Test.YtacninhfdfhgjaaGreatM06
import Derived.Test.YtacninhfdfhgjaaGreatM07
set_option linter.unusedVariables false
set_option linter.unusedSimpArgs false
set_option linter.unusedSectionVars false
namespace Go.Proofs.YtacninhfdfhgjaaGreat.AI
section
open Go
variable {H:a0c} {v:Value} {m:Nat} {cs:List Value} {P:Program}
structure e0b (P:Program):Prop where
 t:h0c P
 u78:∃ f g h:Field,P.underlying 78=some (.struct #[f,g,h])∧f.type=76∧g.type=76∧h.type=44
 u76:P.underlying 76=some (.slice 44)
 u49:P.underlying 49=some (.slice 78)
 u50:P.underlying 50=some (.slice 4)
 u52:∃ a b c d e f:Field,P.underlying 52=some (.struct #[a,b,c,d,e,f])∧a.type=3∧b.type=3∧c.type=3∧d.type=49∧e.type=49∧f.type=50
 u24:P.underlying 24=some (.slice 52)
 u55:∃ a b c d:Field,P.underlying 55=some (.struct #[a,b,c,d])∧a.type=3∧b.type=3∧c.type=3∧d.type=49
 u25:P.underlying 25=some (.slice 55)
 u22:P.underlying 22=some (.slice 60)
 u23:P.underlying 23=some (.slice 9)
 u27:∃ a b c d:Field,P.underlying 27=some (.struct #[a,b,c,d])∧a.type=22∧b.type=23∧c.type=24∧d.type=25
 u31:P.underlying 31=some (.slice 36)
 c44:P.cellsOf 44=2
 c78:P.cellsOf 78=4
 c52:P.cellsOf 52=6
 c55:P.cellsOf 55=4
 c36:P.cellsOf 36=1
theorem e0f {t e:TypeId} (hu:P.underlying t=some (.slice e)) (h:IsT P H (m + 1) t cs):∃ v,cs=[v]∧a0M v=[v]∧a0B v=true:=by
 unfold IsT at h
 rw [hu] at h
 rcases h with h | ⟨b,len,cap,cells,h,_⟩ <;> exact ⟨_,h,rfl,rfl⟩
theorem I0Q {t e:TypeId} (hu:P.underlying t=some (.slice e)) (h:IsT P H (m + 1) t cs):∃ v n,cs=[v]∧E0X v n:=by
 unfold IsT at h
 rw [hu] at h
 rcases h with h | ⟨b,len,cap,cells,h,_⟩
 ·exact ⟨_,0,h,rfl,rfl,rfl⟩
 ·exact ⟨_,len,h,rfl,rfl,rfl⟩
theorem x0X (hP:e0b P) (h:IsT P H (m + 4) 76 [v]):∃ l,e0a H v l:=k0t hP.u76 hP.c44 (fun cs _ h=>by
 obtain ⟨b,s,l,rfl,hl⟩:=w0H hP.t h
 exact ⟨(b,l),s,rfl,hl⟩) h
theorem O0H (hP:e0b P) (h:IsT P H (m + 5) 78 cs):∃ a,v0T H (.agg cs.toArray) a:=by
 obtain ⟨f,g,k,hu,h1,h2,h3⟩:=hP.u78
 unfold IsT at h
 rw [hu] at h
 obtain ⟨parts,rfl,hl,hp⟩:=h
 obtain ⟨p,q,r,rfl⟩:∃ p q r,parts=[p,q,r]:=by
  match parts,hl with
  | [p,q,r],_=>exact ⟨p,q,r,rfl⟩
 have h1':IsT P H (m + 4) 76 p:=by simpa [h1] using hp 0 _ rfl
 have h2':IsT P H (m + 4) 76 q:=by simpa [h2] using hp 1 _ rfl
 obtain ⟨sX,rfl,_⟩:=e0f hP.u76 h1'
 obtain ⟨sW,rfl,_⟩:=e0f hP.u76 h2'
 obtain ⟨X,hX⟩:=x0X hP h1'
 obtain ⟨W,hW⟩:=x0X hP h2'
 obtain ⟨b,s,l,rfl,hs⟩:=w0H (m:=m + 1) hP.t (by simpa [h3] using hp 2 _ rfl)
 exact ⟨⟨X,W,(b,l)⟩,sX,sW,s,rfl,hX,hW,hs⟩
theorem q0Q (hP:e0b P) (h:IsT P H (m + 6) 49 [v]):∃ l,f0W H v l:=k0t hP.u49 hP.c78 (fun _ _ h=>O0H hP h) h
theorem Q0M (hP:e0b P) (h:IsT P H (m + 7) 52 cs):∃ x,EdV H cs x:=by
 obtain ⟨a,b,c,d,e,f,hu,h1,h2,h3,h4,h5,h6⟩:=hP.u52
 unfold IsT at h
 rw [hu] at h
 obtain ⟨parts,rfl,hl,hp⟩:=h
 obtain ⟨p1,p2,p3,p4,p5,p6,rfl⟩:∃ p1 p2 p3 p4 p5 p6,parts=[p1,p2,p3,p4,p5,p6]:=by
  match parts,hl with
  | [p1,p2,p3,p4,p5,p6],_=>exact ⟨p1,p2,p3,p4,p5,p6,rfl⟩
 obtain ⟨n1,rfl⟩:=g0d (m:=m + 5) hP.t (by simpa [h1] using hp 0 _ rfl)
 obtain ⟨n2,rfl⟩:=g0d (m:=m + 5) hP.t (by simpa [h2] using hp 1 _ rfl)
 obtain ⟨n3,rfl⟩:=g0d (m:=m + 5) hP.t (by simpa [h3] using hp 2 _ rfl)
 have h4':IsT P H (m + 6) 49 p4:=by simpa [h4] using hp 3 _ rfl
 have h5':IsT P H (m + 6) 49 p5:=by simpa [h5] using hp 4 _ rfl
 have h6':IsT P H (m + 6) 50 p6:=by simpa [h6] using hp 5 _ rfl
 obtain ⟨sG,rfl,_⟩:=e0f hP.u49 h4'
 obtain ⟨sS,rfl,_⟩:=e0f hP.u49 h5'
 obtain ⟨sP,rfl,hPc,hPp⟩:=e0f hP.u50 h6'
 obtain ⟨G,hG⟩:=q0Q hP h4'
 obtain ⟨S,hS⟩:=q0Q hP h5'
 exact ⟨⟨n1,n2,⟨n3,G,S⟩⟩,sG,sS,sP,rfl,hG,hS,hPc,hPp⟩
theorem Q0N (hP:e0b P) (h:IsT P H (m + 7) 55 cs):∃ x,ViV H cs x:=by
 obtain ⟨a,b,c,d,hu,h1,h2,h3,h4⟩:=hP.u55
 unfold IsT at h
 rw [hu] at h
 obtain ⟨parts,rfl,hl,hp⟩:=h
 obtain ⟨p1,p2,p3,p4,rfl⟩:∃ p1 p2 p3 p4,parts=[p1,p2,p3,p4]:=by
  match parts,hl with
  | [p1,p2,p3,p4],_=>exact ⟨p1,p2,p3,p4,rfl⟩
 obtain ⟨n1,rfl⟩:=g0d (m:=m + 5) hP.t (by simpa [h1] using hp 0 _ rfl)
 obtain ⟨n2,rfl⟩:=g0d (m:=m + 5) hP.t (by simpa [h2] using hp 1 _ rfl)
 obtain ⟨n3,rfl⟩:=g0d (m:=m + 5) hP.t (by simpa [h3] using hp 2 _ rfl)
 have h4':IsT P H (m + 6) 49 p4:=by simpa [h4] using hp 3 _ rfl
 obtain ⟨sG,rfl,_⟩:=e0f hP.u49 h4'
 obtain ⟨G,hG⟩:=q0Q hP h4'
 exact ⟨⟨n1,n3,G⟩,n2,sG,rfl,hG⟩
theorem H0F (hP:e0b P) (h:IsV P H (m + 9) 27 v):∃ l,m0w H v l:=by
 obtain ⟨a,b,c,d,hu,h1,h2,h3,h4⟩:=hP.u27
 unfold IsV at h;rw [hu] at h
 obtain ⟨cs,rfl,h⟩:=h
 unfold IsT at h
 rw [hu] at h
 obtain ⟨parts,hc,hl,hp⟩:=h
 obtain ⟨p1,p2,p3,p4,rfl⟩:∃ p1 p2 p3 p4,parts=[p1,p2,p3,p4]:=by
  match parts,hl with
  | [p1,p2,p3,p4],_=>exact ⟨p1,p2,p3,p4,rfl⟩
 have h1':IsT P H (m + 8) 22 p1:=by simpa [h1] using hp 0 _ rfl
 have h2':IsT P H (m + 8) 23 p2:=by simpa [h2] using hp 1 _ rfl
 have h3':IsT P H (m + 8) 24 p3:=by simpa [h3] using hp 2 _ rfl
 have h4':IsT P H (m + 8) 25 p4:=by simpa [h4] using hp 3 _ rfl
 obtain ⟨sL,nl,rfl,hL⟩:=I0Q hP.u22 h1'
 obtain ⟨sS,ns,rfl,hS⟩:=I0Q hP.u23 h2'
 obtain ⟨sE,rfl,_⟩:=e0f hP.u24 h3'
 obtain ⟨sV,rfl,_⟩:=e0f hP.u25 h4'
 obtain ⟨E,hE⟩:=k0t (P:=EdV) hP.u24 hP.c52 (fun _ _ h=>Q0M hP h) h3'
 obtain ⟨V,hV⟩:=k0t (P:=ViV) hP.u25 hP.c55 (fun _ _ h=>Q0N hP h) h4'
 have:cs = #[sL,sS,sE,sV]:=by rw [← Array.toList_inj];simpa using hc
 exact ⟨⟨nl,ns,E,V⟩,[sL,sS,sE,sV],by rw [this],sL,sS,sE,sV,rfl,hL,hS,hE,hV⟩
theorem w0k (hP:e0b P) (h:IsV P H (m + 7) 31 v):∃ d,c0b H v d:=by
 unfold IsV at h;rw [hP.u31] at h
 refine k0t (P:=PEs) hP.u31 hP.c36 (fun cs hc h=>?_) h
 obtain ⟨w,rfl,_⟩:=e0f (m:=m + 5) hP.t.u27 h
 obtain ⟨l,hl⟩:=I0P hP.t h
 exact ⟨l,w,rfl,hl⟩
theorem k0s (hP:e0b P) {vs:List Value} (h:w0a P H 12 [27,30,31] vs):∃ u v w l rows d,vs=[u,v,w]∧m0w H u l∧c0C H v rows∧c0b H w d:=by
 match vs,h with
 | [u,v,w],⟨h1,h2,h3,_⟩ =>
  obtain ⟨l,hl⟩:=H0F (m:=3) hP h1
  obtain ⟨t,ht⟩:=w0l (m:=5) hP.t h2
  obtain ⟨d,hd⟩:=w0k (m:=5) hP h3
  exact ⟨u,v,w,l,t,d,rfl,hl,ht,hd⟩
theorem G0D:e0b Tryz.prog where
 t:=types
 u78:=⟨_,_,_,Tryz.underlying78,rfl,rfl,rfl⟩
 u76:=Tryz.underlying76
 u49:=Tryz.underlying49
 u50:=by kernel_rfl
 u52:=⟨_,_,_,_,_,_,Tryz.underlying52,rfl,rfl,rfl,rfl,rfl,rfl⟩
 u24:=Tryz.underlying24
 u55:=⟨_,_,_,_,Tryz.underlying55,rfl,rfl,rfl,rfl⟩
 u25:=Tryz.underlying25
 u22:=Tryz.underlying22
 u23:=Tryz.underlying23
 u27:=⟨_,_,_,_,Tryz.underlying27,rfl,rfl,rfl,rfl⟩
 u31:=Tryz.underlying31
 c44:=by kernel_rfl
 c78:=by kernel_rfl
 c52:=by kernel_rfl
 c55:=by kernel_rfl
 c36:=by kernel_rfl
end
end Go.Proofs.YtacninhfdfhgjaaGreat.AI
