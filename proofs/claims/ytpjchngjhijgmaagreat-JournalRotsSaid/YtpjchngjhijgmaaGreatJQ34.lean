import Derived.Test.YtpjchngjhijgmaaGreatJQ33
set_option linter.all false
namespace Go.Proofs.YtpjchngjhijgmaaGreat
open Go.RowKit
def posD (J:Jn):Int:=if (slowC J.r.cls).2=true then min J.safe (slowC J.r.cls).1 else J.safe
def Zq105 (pos:Int):List En→List Pl→Nat→Int→Nat × Int→Nat × Int
 | e::es,p::ps,i,q,r=>if p.set=r.2 then Zq105 pos es ps (i+1) e.seq r else if pos<q then r else Zq105 pos es ps (i+1) e.seq (i,p.set)
 | _,_,_,_,r=>r
def doneJ (J:Jn):Nat × Int:=Zq105 (posD J) J.l J.at_ 0 0 (0,J.r.set)
section
variable {W w w' : World} {I : Hp} {l : List HP} {p q : Nat} {J : Jn} {S : Str}
set_option maxRecDepth 4000
set_option maxHeartbeats 8000000
theorem Zq627 (h:St W I w (jnHP q p J::l)) (hB:JB J) (h0:∀ p,J.at_[0]?=some p→p.set=J.r.set) :
  Calls Tryz.prog 104 #[.pointer (some ⟨q,0,none⟩)] w fun e w'=>e=.returned (.tuple #[.int .i64 ((doneJ J).1:Nat),.int .i64 (doneJ J).2])∧St W I w' (jnHP q p J::l):=by
 obtain ⟨⟨vt,vc,vl,va⟩,hrI,h1⟩:=h.jn_open
 obtain ⟨A,c,hvl,hnc,_⟩:=(h1.pull 1 _ rfl).ents_slice
 obtain ⟨Aa,ca,hva,hnca,_⟩:=(h1.pull 2 _ rfl).win_slice
 obtain ⟨Ac,cc,hvc,_⟩:=hrI.2
 simp only at hvl hva hrI h1 hvc
 subst hvl hva hvc
 have k5:=jn_c5 h1
 have k7:=jn_c7 h1
 have k8:=jn_c8 h1
 have k15:=Zq685 h1
 simp only at k7 k8
 have lq:=h1.lt
 have hsl:=Zq315 _ J.r.cls h1 hrI.2 (by have:=(Zq119 hB.ok.cls).1;omega)
 obtain ⟨R,hR⟩:∃ x,x=doneJ J:=⟨_,rfl⟩
 rw [←hR]
 unfold doneJ posD at hR
 obtain ⟨⟨sn,sb⟩,hs⟩:∃ x,x=slowC J.r.cls:=⟨_,rfl⟩
 rw [←hs] at hsl hR
 obtain ⟨sf,hsf⟩:∃ x,x=J.safe:=⟨_,rfl⟩
 rw [←hsf] at k15 hR
 obtain ⟨s0,hs0⟩:∃ x,x=J.r.set:=⟨_,rfl⟩
 rw [←hs0] at k5 hR h0
 obtain ⟨n0,hn0⟩:∃ x,x=J.l.length:=⟨_,rfl⟩
 have hl:=hB.lens
 rw [hl] at h1
 have hn5:=hB.len
 rw [←hn0] at k8 h1 hl hn5
 have HR:=Zh hR
 have HSL:=Zh hsl
 have HN0:=Zh hn0
 have HL:=Zh hl
 have H0:=Zh h0
 have HS0:=Zh hs0
 have HRI:=Zh hrI
 have H1:=Zh h1
 clear h h1 hrI hR hsl hs hsf hs0 hn0 hl h0 hnca hnc hB
 go_enter Tryz.func104,Tryz.ntmps104
 go_wp2_with fail
 refine HSL.out.mono ?_
 rintro e w2 ⟨rfl,hb2⟩
 have h2:=H1.out.keep hb2
 have k5:=jn_c5 h2
 rw [←HS0.out] at k5
 have k8:=jn_c8 h2
 simp only at k8
 have lq:=h2.lt
 have H2:=Zh h2
 clear h2 hb2 H1 HSL k7 k15
 have key:∀ ps:Int,R=Zq105 ps J.l J.at_ 0 0 (0,s0)→R=Zq105 ps J.l J.at_ 0 0 (0,s0):=fun _ h=>h
 cases sb with
 | true =>
  obtain ⟨ps,hps⟩:∃ x,x=min sf sn:=⟨_,rfl⟩
  have HR2:=Zh (show R=Zq105 ps J.l J.at_ 0 0 (0,s0) by rw [hps];exact HR.out)
  clear HR
  go_upto_region 5 with fail
  rw [←hps]
  clear hps
  go_quiet (fail)
  go_upto_region 6 with fail
  have H3:=Zh (H2.out.drewN nq)
  have k8:=jn_c8 H3.out
  simp only at k8
  have lq:=H3.out.lt
  clear H2
  go_wp2_with fail
  go_loopw [7,8,37] (fun a7 a8 a37 wr=>∃ (i n:Nat) (st pq:Int),a37=.int .i64 i∧a7=.int .i64 n∧a8=.int .i64 st∧i≤n0∧R=Zq105 ps (J.l.drop i) (J.at_.drop i) i pq (n,st)∧(∀ i',i=i'+1→∃ e,J.l[i']?=some e∧e.seq=pq)∧(i=0→st=s0)∧St W I wr (jnBlk q p J ⟨vt,.slice Ac J.r.cls.length cc,.slice A n0 c,.slice Aa n0 ca⟩::Zq26 (.slice A n0 c) J.l::Zq19 (.slice Aa n0 ca) J.at_::l)) (fun _ _ a37 _=>n0 - (intOf a37).toNat)
  case atStart=>exact ⟨0,0,s0,0,rfl,rfl,rfl,Nat.zero_le _,HR2.out,fun i' e=>(by cases e),fun _=>rfl,H3.out⟩
  case round =>
   obtain ⟨i,n,st,pq,rfl,rfl,rfl,hi,hgo,hpv,hi0,hst⟩:=hrel
   clear H3 k8 lq HR2
   by_cases hlt:i<n0
   ·have hlt2:(i:Int)<(n0:Int):=by omega
    obtain ⟨e,he⟩:∃ e,J.l[i]?=some e:=⟨_,List.getElem?_eq_getElem (by rw [←HN0.out];exact hlt)⟩
    obtain ⟨pl,hpl⟩:∃ e,J.at_[i]?=some e:=⟨_,List.getElem?_eq_getElem (by rw [HL.out];exact hlt)⟩
    obtain ⟨g',qq',c3,e3,hg',hnc3,z0,z1⟩:=(hst.pull 2 _ rfl).places_cell hpl
    rw [HL.out] at e3 hnc3
    simp only [Value.slice.injEq] at e3
    obtain ⟨rfl,hnn,rfl⟩:=e3
    clear hnn
    have k8:=jn_c8 hst
    have k9:=jn_c9 hst
    simp only at k8 k9
    have lq:=hst.lt
    have hdr:R=if pl.set=st then Zq105 ps (J.l.drop (i+1)) (J.at_.drop (i+1)) (i+1) e.seq (n,st) else if ps<pq then (n,st) else Zq105 ps (J.l.drop (i+1)) (J.at_.drop (i+1)) (i+1) e.seq (i,pl.set):=by
     rw [hgo,List.drop_eq_getElem_cons (List.getElem?_eq_some_iff.1 he).1,List.drop_eq_getElem_cons (List.getElem?_eq_some_iff.1 hpl).1,(List.getElem?_eq_some_iff.1 he).2,(List.getElem?_eq_some_iff.1 hpl).2]
     rfl
    have hnext:∀ i',i+1=i'+1→∃ x,J.l[i']?=some x∧x.seq=e.seq:=fun i' h=>by
     obtain rfl:i=i':=by omega
     exact ⟨e,he,rfl⟩
    have h00:i=0→pl.set=st:=fun h=>by
     rw [hi0 h]
     subst h
     exact H0.out pl hpl
    obtain ⟨sq,hsq⟩:∃ x,x=e.seq:=⟨_,rfl⟩
    rw [←hsq] at hdr hnext
    obtain ⟨pls,plo⟩:=pl
    simp only at z0 z1 hdr h00
    have HDR:=Zh hdr
    have HNX:=Zh hnext
    have HST:=Zh hst
    by_cases hse:pls=st
    ·have HR4:=Zh (HDR.out.trans (if_pos hse))
     subst hse
     clear hgo hpv hi0 he hpl hdr hnext h00 hst hsq z1
     go_wp2_with fail
     go_roundw
     case rel=>exact ⟨i+1,n,pls,sq,by go_num,rfl,rfl,by omega,HR4.out,HNX.out,fun h=>by omega,HST.out⟩
     case measure=>first|(simp [intOf];done)|(simp [intOf];omega)|fail
    ·have hin:¬ i=0:=fun h=>hse (h00 h)
     obtain ⟨i',rfl⟩:∃ i',i=i'+1:=⟨i - 1,by omega⟩
     obtain ⟨x,hx,hxs⟩:=hpv i' rfl
     obtain ⟨g,qq,c5,vd,e2,hg,hbd,hbb,y0,y1,y2⟩:=(hst.pull 1 _ rfl).ents_cell hx
     rw [←HN0.out] at e2
     simp only [Value.slice.injEq] at e2
     obtain ⟨rfl,hnn,rfl⟩:=e2
     clear hnn
     rw [hxs] at y1
     have hne:(pls==st)=false:=by simpa using hse
     have HR4:=Zh (HDR.out.trans (if_neg hse))
     have w1:IntKind.i64.wrap (((i'+1:Nat):Int) - 1)=(i':Int):=by rw [IntKind.wrap_i64];omega
     have hii:i'<n0:=by omega
     by_cases hpp:ps<pq
     ·have e1:=HR4.out.trans (if_pos hpp)
      subst e1
      have h5:=St.jn_shut (J:=J) (V:=⟨vt,.slice Ac J.r.cls.length cc,.slice (some ⟨g,qq,none⟩) n0 c,.slice (some ⟨g',qq',none⟩) n0 ca⟩) HRI.out HST.out
      have H5:=Zh h5
      clear hgo hpv hi0 he hpl hdr hnext h00 hst hsq z1 hx hxs y0 y2 hbd hbb h5
      go_wp2_with fail
      go_ret2
      exact ⟨rfl,H5.out⟩
     ·have HR5:=Zh (HR4.out.trans (if_neg hpp))
      clear hgo hpv hi0 he hpl hdr hnext h00 hst hsq z1 hx hxs y0 y2 hbd hbb
      go_wp2_with fail
      go_upto_region 11 with fail
      go_quiet (fail)
      go_wp2_with fail
      go_roundw
      case rel=>exact ⟨i'+1+1,i'+1,pls,sq,by go_num,rfl,rfl,by omega,HR5.out,HNX.out,fun h=>by omega,HST.out.drewN nq⟩
      case measure=>first|(simp [intOf];done)|(simp [intOf];omega)|fail
   ·obtain rfl:i=n0:=by omega
    have hlt2:¬ (i:Int)<(i:Int):=by omega
    rw [List.drop_of_length_le (by rw [←HN0.out];exact Nat.le_refl _)] at hgo
    have e1:R=(n,st):=hgo
    subst e1
    have h5:=St.jn_shut (J:=J) (V:=⟨vt,.slice Ac J.r.cls.length cc,.slice A i c,.slice Aa i ca⟩) HRI.out hst
    have H5:=Zh h5
    clear hst hgo hpv hi0 h5
    go_wp2_with fail
    go_ret2
    exact ⟨rfl,H5.out⟩
 | false =>
  obtain ⟨ps,hps⟩:∃ x,x=sf:=⟨_,rfl⟩
  have HR2:=Zh (show R=Zq105 ps J.l J.at_ 0 0 (0,s0) by rw [hps];exact HR.out)
  subst hps
  clear HR
  go_upto_region 5 with fail
  go_quiet (fail)
  go_upto_region 6 with fail
  have H3:=Zh (H2.out.drewN nq)
  have k8:=jn_c8 H3.out
  simp only at k8
  have lq:=H3.out.lt
  clear H2
  go_wp2_with fail
  go_loopw [7,8,37] (fun a7 a8 a37 wr=>∃ (i n:Nat) (st pq:Int),a37=.int .i64 i∧a7=.int .i64 n∧a8=.int .i64 st∧i≤n0∧R=Zq105 ps (J.l.drop i) (J.at_.drop i) i pq (n,st)∧(∀ i',i=i'+1→∃ e,J.l[i']?=some e∧e.seq=pq)∧(i=0→st=s0)∧St W I wr (jnBlk q p J ⟨vt,.slice Ac J.r.cls.length cc,.slice A n0 c,.slice Aa n0 ca⟩::Zq26 (.slice A n0 c) J.l::Zq19 (.slice Aa n0 ca) J.at_::l)) (fun _ _ a37 _=>n0 - (intOf a37).toNat)
  case atStart=>exact ⟨0,0,s0,0,rfl,rfl,rfl,Nat.zero_le _,HR2.out,fun i' e=>(by cases e),fun _=>rfl,H3.out⟩
  case round =>
   obtain ⟨i,n,st,pq,rfl,rfl,rfl,hi,hgo,hpv,hi0,hst⟩:=hrel
   clear H3 k8 lq HR2
   by_cases hlt:i<n0
   ·have hlt2:(i:Int)<(n0:Int):=by omega
    obtain ⟨e,he⟩:∃ e,J.l[i]?=some e:=⟨_,List.getElem?_eq_getElem (by rw [←HN0.out];exact hlt)⟩
    obtain ⟨pl,hpl⟩:∃ e,J.at_[i]?=some e:=⟨_,List.getElem?_eq_getElem (by rw [HL.out];exact hlt)⟩
    obtain ⟨g',qq',c3,e3,hg',hnc3,z0,z1⟩:=(hst.pull 2 _ rfl).places_cell hpl
    rw [HL.out] at e3 hnc3
    simp only [Value.slice.injEq] at e3
    obtain ⟨rfl,hnn,rfl⟩:=e3
    clear hnn
    have k8:=jn_c8 hst
    have k9:=jn_c9 hst
    simp only at k8 k9
    have lq:=hst.lt
    have hdr:R=if pl.set=st then Zq105 ps (J.l.drop (i+1)) (J.at_.drop (i+1)) (i+1) e.seq (n,st) else if ps<pq then (n,st) else Zq105 ps (J.l.drop (i+1)) (J.at_.drop (i+1)) (i+1) e.seq (i,pl.set):=by
     rw [hgo,List.drop_eq_getElem_cons (List.getElem?_eq_some_iff.1 he).1,List.drop_eq_getElem_cons (List.getElem?_eq_some_iff.1 hpl).1,(List.getElem?_eq_some_iff.1 he).2,(List.getElem?_eq_some_iff.1 hpl).2]
     rfl
    have hnext:∀ i',i+1=i'+1→∃ x,J.l[i']?=some x∧x.seq=e.seq:=fun i' h=>by
     obtain rfl:i=i':=by omega
     exact ⟨e,he,rfl⟩
    have h00:i=0→pl.set=st:=fun h=>by
     rw [hi0 h]
     subst h
     exact H0.out pl hpl
    obtain ⟨sq,hsq⟩:∃ x,x=e.seq:=⟨_,rfl⟩
    rw [←hsq] at hdr hnext
    obtain ⟨pls,plo⟩:=pl
    simp only at z0 z1 hdr h00
    have HDR:=Zh hdr
    have HNX:=Zh hnext
    have HST:=Zh hst
    by_cases hse:pls=st
    ·have HR4:=Zh (HDR.out.trans (if_pos hse))
     subst hse
     clear hgo hpv hi0 he hpl hdr hnext h00 hst hsq z1
     go_wp2_with fail
     go_roundw
     case rel=>exact ⟨i+1,n,pls,sq,by go_num,rfl,rfl,by omega,HR4.out,HNX.out,fun h=>by omega,HST.out⟩
     case measure=>first|(simp [intOf];done)|(simp [intOf];omega)|fail
    ·have hin:¬ i=0:=fun h=>hse (h00 h)
     obtain ⟨i',rfl⟩:∃ i',i=i'+1:=⟨i - 1,by omega⟩
     obtain ⟨x,hx,hxs⟩:=hpv i' rfl
     obtain ⟨g,qq,c5,vd,e2,hg,hbd,hbb,y0,y1,y2⟩:=(hst.pull 1 _ rfl).ents_cell hx
     rw [←HN0.out] at e2
     simp only [Value.slice.injEq] at e2
     obtain ⟨rfl,hnn,rfl⟩:=e2
     clear hnn
     rw [hxs] at y1
     have hne:(pls==st)=false:=by simpa using hse
     have HR4:=Zh (HDR.out.trans (if_neg hse))
     have w1:IntKind.i64.wrap (((i'+1:Nat):Int) - 1)=(i':Int):=by rw [IntKind.wrap_i64];omega
     have hii:i'<n0:=by omega
     by_cases hpp:ps<pq
     ·have e1:=HR4.out.trans (if_pos hpp)
      subst e1
      have h5:=St.jn_shut (J:=J) (V:=⟨vt,.slice Ac J.r.cls.length cc,.slice (some ⟨g,qq,none⟩) n0 c,.slice (some ⟨g',qq',none⟩) n0 ca⟩) HRI.out HST.out
      have H5:=Zh h5
      clear hgo hpv hi0 he hpl hdr hnext h00 hst hsq z1 hx hxs y0 y2 hbd hbb h5
      go_wp2_with fail
      go_ret2
      exact ⟨rfl,H5.out⟩
     ·have HR5:=Zh (HR4.out.trans (if_neg hpp))
      clear hgo hpv hi0 he hpl hdr hnext h00 hst hsq z1 hx hxs y0 y2 hbd hbb
      go_wp2_with fail
      go_upto_region 11 with fail
      go_quiet (fail)
      go_wp2_with fail
      go_roundw
      case rel=>exact ⟨i'+1+1,i'+1,pls,sq,by go_num,rfl,rfl,by omega,HR5.out,HNX.out,fun h=>by omega,HST.out.drewN nq⟩
      case measure=>first|(simp [intOf];done)|(simp [intOf];omega)|fail
   ·obtain rfl:i=n0:=by omega
    have hlt2:¬ (i:Int)<(i:Int):=by omega
    rw [List.drop_of_length_le (by rw [←HN0.out];exact Nat.le_refl _)] at hgo
    have e1:R=(n,st):=hgo
    subst e1
    have h5:=St.jn_shut (J:=J) (V:=⟨vt,.slice Ac J.r.cls.length cc,.slice A i c,.slice Aa i ca⟩) HRI.out hst
    have H5:=Zh h5
    clear hst hgo hpv hi0 h5
    go_wp2_with fail
    go_ret2
    exact ⟨rfl,H5.out⟩
end
end Go.Proofs.YtpjchngjhijgmaaGreat
namespace Go.Proofs.YtpjchngjhijgmaaGreat
open Go.RowKit
def goneR (r:Rc) (n set:Int):Rc:=⟨r.shape,r.first+n,set,r.tags,r.cls⟩
def goneJ (J:Jn) (n:Nat):Jn:=lJ J (J.l.drop n) (J.at_.drop n) J.fill
def Zq124 (S:Str) (J:Jn):(Int × Int) × Str × Jn :=
 if mayJ S J≠0 then ((0,mayJ S J),S,mayJ2 S J)
 else if (doneJ J).1=0 then ((0,(Zq9 S).1),(Zq9 S).2,endsJ J (Zq9 S).1)
 else if (keepJ S J (goneR J.r (doneJ J).1 (doneJ J).2)).1≠0 then ((0,(keepJ S J (goneR J.r (doneJ J).1 (doneJ J).2)).1),(keepJ S J (goneR J.r (doneJ J).1 (doneJ J).2)).2.1,(keepJ S J (goneR J.r (doneJ J).1 (doneJ J).2)).2.2)
 else if (trimJ (keepJ S J (goneR J.r (doneJ J).1 (doneJ J).2)).2.1 (goneJ (recJ J (goneR J.r (doneJ J).1 (doneJ J).2)) (doneJ J).1)).1≠0 then
  ((0,(trimJ (keepJ S J (goneR J.r (doneJ J).1 (doneJ J).2)).2.1 (goneJ (recJ J (goneR J.r (doneJ J).1 (doneJ J).2)) (doneJ J).1)).1),
    (trimJ (keepJ S J (goneR J.r (doneJ J).1 (doneJ J).2)).2.1 (goneJ (recJ J (goneR J.r (doneJ J).1 (doneJ J).2)) (doneJ J).1)).2,
    endsJ (goneJ (recJ J (goneR J.r (doneJ J).1 (doneJ J).2)) (doneJ J).1) (trimJ (keepJ S J (goneR J.r (doneJ J).1 (doneJ J).2)).2.1 (goneJ (recJ J (goneR J.r (doneJ J).1 (doneJ J).2)) (doneJ J).1)).1)
 else (((doneJ J).1,0),(trimJ (keepJ S J (goneR J.r (doneJ J).1 (doneJ J).2)).2.1 (goneJ (recJ J (goneR J.r (doneJ J).1 (doneJ J).2)) (doneJ J).1)).2,goneJ (recJ J (goneR J.r (doneJ J).1 (doneJ J).2)) (doneJ J).1)
theorem Zq322 (pos:Int):∀ (es:List En) (ps:List Pl) (i:Nat) (q:Int) (r:Nat × Int),Zq105 pos es ps i q r=r∨(i≤(Zq105 pos es ps i q r).1∧(Zq105 pos es ps i q r).1<i+es.length)
 | [],ps,i,q,r=>by cases ps <;> exact .inl rfl
 | e::es,[],i,q,r=>.inl rfl
 | e::es,p::ps,i,q,r=>by
  unfold Zq105
  simp only [List.length_cons]
  split
  ·rcases Zq322 pos es ps (i+1) e.seq r with h|h
   ·exact .inl h
   ·exact .inr (by omega)
  ·split
   ·exact .inl rfl
   ·rcases Zq322 pos es ps (i+1) e.seq (i,p.set) with h|h
    ·right;rw [h];simp only;omega
    ·exact .inr (by omega)
theorem Zq766 {J:Jn} (h:(doneJ J).1≠0):(doneJ J).1<J.l.length:=by
 unfold doneJ at h ⊢
 rcases Zq322 (posD J) J.l J.at_ 0 0 (0,J.r.set) with e|e
 ·rw [e] at h;exact absurd rfl h
 ·omega
section
variable {W w w' : World} {I : Hp} {l : List HP} {p q : Nat} {J : Jn} {S : Str}
theorem St.ents_dropN {g o n c k:Nat} {es:List En} (h:St W I w (Zq26 (.slice (some ⟨g,o,none⟩) n c) es::l)) (hk:k≤es.length):St W I w (Zq26 (.slice (some ⟨g,o+k*3,none⟩) (n - k) (c - k)) (es.drop k)::l):=by
 obtain ⟨M,rfl,hM,h1⟩:=h.ents_open
 obtain ⟨A2,c2,e2,hrest⟩:=h1.win_slice
 clear hrest
 simp only [Value.slice.injEq] at e2
 obtain ⟨_,rfl,rfl⟩:=e2
 have h2:=h1.win_drop hk
 rw [List.length_map] at hk h2
 have e:(M.flatMap mcell).drop (k*3)=(M.drop k).flatMap mcell:=by
  clear h h1 h2 hM
  induction M generalizing k with
  | nil=>simp
  | cons x M ih =>
   cases k with
   | zero=>simp
   | succ k =>
    rw [List.flatMap_cons,List.drop_succ_cons,List.drop_append,List.drop_of_length_le (by rw [Zq132];omega),Zq132,show (k+1)*3 - 3=k*3 by omega,Zl3,ih (by simpa using hk)]
 rw [e] at h2
 have h3:St W I w (HP.win 50 3 (.slice (some ⟨g,o+k*3,none⟩) (M.length - k) (c - k)) (M.drop k).length ((M.drop k).flatMap mcell)::l):=by
  rw [List.length_drop]
  exact h2
 have h4:=h3.ents_shut (fun x hx=>hM x (List.mem_of_mem_drop hx))
 rw [List.map_drop] at h4
 rw [List.length_map]
 exact h4
theorem St.places_dropN {g o n c k:Nat} {ps:List Pl} (h:St W I w (Zq19 (.slice (some ⟨g,o,none⟩) n c) ps::l)) (hk:k≤ps.length):St W I w (Zq19 (.slice (some ⟨g,o+k*2,none⟩) (n - k) (c - k)) (ps.drop k)::l):=by
 have h1:St W I w (HP.win 41 2 (.slice (some ⟨g,o,none⟩) n c) ps.length (ps.flatMap Pl.vals)::l):=h
 obtain ⟨A2,c2,e2,hrest⟩:=h1.win_slice
 clear hrest
 simp only [Value.slice.injEq] at e2
 obtain ⟨_,rfl,rfl⟩:=e2
 have h2:=h1.win_drop hk
 have e:(ps.flatMap Pl.vals).drop (k*2)=(ps.drop k).flatMap Pl.vals:=by
  clear h h1 h2
  induction ps generalizing k with
  | nil=>simp
  | cons x ps ih =>
   cases k with
   | zero=>simp
   | succ k =>
    rw [List.flatMap_cons,List.drop_succ_cons,List.drop_append,List.drop_of_length_le (by rw [Pl.vals_len];omega),Pl.vals_len,show (k+1)*2 - 2=k*2 by omega,Zl3,ih (by simpa using hk)]
 rw [e] at h2
 unfold Zq19
 rw [List.length_drop]
 exact h2
theorem Zq767 {r:Rc} (h:(keepJ S J r).1=0):(keepJ S J r).2.2=recJ J r:=by
 unfold keepJ at h ⊢
 simp only at h ⊢
 rw [h,if_pos rfl]
 rfl
set_option maxRecDepth 8000
set_option maxHeartbeats 8000000
theorem Zq432 (o:Option Rc) {m m2:Nat} (h:St W I w (Zq8 p S::jnHP q p J::l)) (hk:Keeps S (m+2)) (hB:JB J) (hE:∀ e ∈ J.l,e.okB=true) (h0:∀ p,J.at_[0]?=some p→p.set=J.r.set) (hj:JRec S o)
  (hr:(doneJ J).1≠0→(goneR J.r (doneJ J).1 (doneJ J).2).Ok)
  (hk1:(doneJ J).1≠0→(keepJ S J (goneR J.r (doneJ J).1 (doneJ J).2)).1=0→Keeps (keepJ S J (goneR J.r (doneJ J).1 (doneJ J).2)).2.1 (m2+4*(Zq28 (keepJ S J (goneR J.r (doneJ J).1 (doneJ J).2)).2.1 ⟨2,0⟩).length)∧(Zq18 (keepJ S J (goneR J.r (doneJ J).1 (doneJ J).2)).2.1 ⟨2,0⟩).length≤1000000∧SeenB (keepJ S J (goneR J.r (doneJ J).1 (doneJ J).2)).2.1) :
  Calls Tryz.prog 45 #[.pointer (some ⟨q,0,none⟩)] w fun e w'=>∃ I',I.sub I'∧e=.returned (.tuple #[.int .i64 (Zq124 S J).1.1,.int .i64 (Zq124 S J).1.2])∧St W I' w' (Zq8 p (Zq124 S J).2.1::jnHP q p (Zq124 S J).2.2::l):=by
 have HM:=Zh (Zq317 h)
 have HSM:=Zh (@Zq319 S J)
 obtain ⟨⟨⟨rn0,re0⟩,RS,RJ⟩,hR⟩:∃ x,x=Zq124 S J:=⟨_,rfl⟩
 rw [←hR]
 unfold Zq124 at hR
 obtain ⟨e0,he0⟩:∃ x,x=mayJ S J:=⟨_,rfl⟩
 rw [←he0] at HM HSM hR
 have hlt:=@Zq766 J
 have HDN:=Zh (fun w1 L (h:St W I w1 (jnHP q p J::L))=>Zq627 h hB h0)
 obtain ⟨⟨n,st⟩,hd⟩:∃ x,x=doneJ J:=⟨_,rfl⟩
 rw [←hd] at hR hr hk1 hlt HDN
 simp only at hR hr hk1 hlt HDN
 have HX:=Zh hR
 have HB:=Zh hB
 have HK:=Zh hk
 have HEE:=Zh hE
 have HJ:=Zh hj
 have HR:=Zh hr
 have HK1:=Zh hk1
 have HLT:=Zh hlt
 clear h hk hB hE h0 hj hr hk1 he0 hd hR hlt
 by_cases hz:e0=0
 ·subst hz
  have HX2:=Zh (HX.out.trans (if_neg (by simp)))
  have hsame:=HSM.out rfl
  rw [hsame] at HM
  clear HX HSM hsame
  go_enter Tryz.func45,Tryz.ntmps45
  go_wp2_with fail
  refine HM.out.mono ?_
  rintro e w2 ⟨rfl,h2⟩
  have H2:=Zh h2
  clear h2 HM
  go_wp2_with fail
  refine (HDN.out _ _ (H2.out.pull 1 _ rfl)).mono ?_
  rintro e w3 ⟨rfl,h3⟩
  have H3:=Zh (h3.pull 1 _ rfl)
  clear h3 H2 HDN
  by_cases hn0:n=0
  ·have e1:=HX2.out.trans (if_pos hn0)
   subst hn0
   obtain ⟨x0,lq⟩:=(H3.out.pull 1 _ rfl).jn_ptr
   have hba:=Zq73 H3.out HK.out
   obtain ⟨⟨bw,S4⟩,hb4⟩:∃ x,x=Zq9 S:=⟨_,rfl⟩
   rw [←hb4] at hba e1
   simp only [Prod.mk.injEq] at e1
   obtain ⟨⟨rfl,rfl⟩,rfl,rfl⟩:=e1
   have HBA:=Zh hba
   clear hba hb4 H3
   go_wp2_with fail
   refine HBA.out.mono ?_
   rintro e w4 ⟨I4,s4,rfl,h4⟩
   have HE:=Zh (Zq70 re0 (h4.pull 1 _ rfl))
   have S4':=Zh s4
   clear h4 s4 HBA x0 lq
   go_wp2_with fail
   refine HE.out.mono ?_
   rintro e w5 ⟨rfl,h5⟩
   have H5:=Zh (h5.pull 1 _ rfl)
   clear h5 HE
   go_wp2_with fail
   go_ret2
   exact ⟨I4,S4'.out,rfl,H5.out⟩
  ·have HX3:=Zh (HX2.out.trans (if_neg hn0))
   have hok:=HR.out hn0
   have HOK:=Zh hok
   have hnl:=HLT.out hn0
   have hne0:((n:Int)==0)=false:=by simpa using hn0
   obtain ⟨⟨vt,vc,vl,va⟩,hrI,h4⟩:=(H3.out.pull 1 _ rfl).jn_open
   obtain ⟨At,ct,ev,_⟩:=hrI.1
   obtain ⟨Ac,cc,ec,_⟩:=hrI.2
   simp only at ev ec hrI h4
   subst ev ec
   obtain ⟨a1,a2,a3⟩:=Zq134 h4
   have a4:=jn_c4 h4
   have a5:=jn_c5 h4
   have a6:=jn_c6 h4
   have a7:=jn_c7 h4
   have lq:=h4.lt
   simp only at a6 a7
   obtain ⟨fi,hfi⟩:∃ x,x=J.r.first:=⟨_,rfl⟩
   have hfr:=HB.out.first
   have hlen:=HB.out.len
   rw [←hfi] at hfr
   have w1:IntKind.i64.wrap (fi+(n:Int))=fi+(n:Int):=by rw [IntKind.wrap_i64];omega
   have h5:=H3.out.alloc (.cells #[.int .i64 J.r.shape.splay,.int .i64 J.r.shape.sets,.int .i64 J.r.shape.size,.int .i64 J.r.first,.int .i64 J.r.set,.slice At J.r.tags.length ct,.slice Ac J.r.cls.length cc] 105)
   obtain ⟨g7,hg7⟩:∃ x,x=w3.heap.size:=⟨_,rfl⟩
   rw [←hg7] at h5
   have HRI:=Zh hrI
   have HFI:=Zh hfi
   have H5:=Zh h5
   clear h4 h5 H3 HX2 hrI hok hfr hfi
   go_upto_region 8 with fail
   rw [←hg7]
   have h5:=H5.out
   generalize (World.alloc _ _:World)=w5 at h5 ⊢
   clear a1 a2 a3 a4 a5 a6 a7 lq H5 hg7
   obtain ⟨z0,z1,z2,z3,z4,z5,z6⟩:=Zq83 h5
   rw [←HFI.out] at z3
   have lg:=h5.lt
   have fg:=frozen_of_row h5.heap
   have h6:=(h5.setCell 3 (.int .i64 (fi+(n:Int)))).setCell 4 (.int .i64 st)
   simp only [List.setIfInBounds_toArray,Zl4,Zl5] at h6
   have hkp:=fun w1 L (h:St W I w1 (Zq8 p S::jnHP q p J::L))=>Zq605 (goneR J.r n st) (.slice At J.r.tags.length ct) (.slice Ac J.r.cls.length cc) o h HK.out HOK.out ⟨HRI.out.1,HRI.out.2⟩ HJ.out
   have hkq:=@Zq767 J S (goneR J.r n st)
   have hk1:=HK1.out hn0
   obtain ⟨⟨kw,S8,J8⟩,hkj⟩:∃ x,x=keepJ S J (goneR J.r n st):=⟨_,rfl⟩
   have hx3:=HX3.out
   rw [←hkj] at hkp hx3 hkq hk1
   simp only [Rc.cells,goneR,←HFI.out] at hkp
   have HKP:=Zh hkp
   have HX4:=Zh hx3
   have HKQ:=Zh hkq
   have HK2:=Zh hk1
   have H6:=Zh ((h6.pull 2 _ rfl).pull 2 _ rfl)
   clear h5 h6 hkp hx3 hkq hkj hk1 HX3 HK1
   go_upto_region 9 with fail
   have h7:=H6.out
   generalize (World.setCell _ _ _:World)=w7 at h7 ⊢
   clear z0 z1 z2 z3 z4 z5 z6 lg fg H6 w1
   obtain ⟨z0,z1,z2,z3,z4,z5,z6⟩:=Zq83 (h7.pull 2 _ rfl)
   have lg:=(h7.pull 2 _ rfl).lt
   have H7:=Zh h7
   clear h7
   go_wp2_with fail
   refine (HKP.out _ _ H7.out).mono ?_
   rintro e w8 ⟨I8,s8,rfl,h8⟩
   have H8:=Zh (h8.pull 2 _ rfl).drop
   have S8':=Zh s8
   clear h8 s8 z0 z1 z2 z3 z4 z5 z6 lg H7 HKP
   by_cases hkw:kw=0
   ·subst hkw
    have hj8:=HKQ.out (by first|rfl|trivial)
    have hkk:=HK2.out (by first|rfl|trivial)
    have hx5:=HX4.out.trans (if_neg (by simp))
    subst hj8
    obtain ⟨R,hRR⟩:∃ x,x=goneR J.r n st:=⟨_,rfl⟩
    rw [←hRR] at H8 hx5
    have HX5:=Zh hx5
    have HKK:=Zh hkk
    clear hx5 hkk HX4 HKQ HK2 hRR
    obtain ⟨⟨vt9,vc9,vl9,va9⟩,hrI9,h9⟩:=(H8.out.pull 1 _ rfl).jn_open
    have hJl:(recJ J R).l=J.l:=rfl
    have hJa:(recJ J R).at_=J.at_:=rfl
    rw [hJl,hJa] at h9
    obtain ⟨x0,hx0⟩:∃ x,J.l[0]?=some x:=⟨_,List.getElem?_eq_getElem (by omega)⟩
    obtain ⟨pl0,hp0⟩:∃ x,J.at_[0]?=some x:=⟨_,List.getElem?_eq_getElem (by rw [HB.out.lens];omega)⟩
    obtain ⟨g,qq,c1,vd,e1,hg,_,_,_,_,_⟩:=(h9.pull 1 _ rfl).ents_cell hx0
    obtain ⟨g',qq',c2,e2,hg',hnc2,_,_⟩:=(h9.pull 2 _ rfl).places_cell hp0
    obtain ⟨A3,c3,e3,hnc1,_⟩:=(h9.pull 1 _ rfl).ents_slice
    simp only at e1 e2 e3 h9 hrI9
    subst e1 e2
    simp only [Value.slice.injEq] at e3
    obtain ⟨rfl,hnn9,rfl⟩:=e3
    clear hnn9
    obtain ⟨n0,hn00⟩:∃ x,x=J.l.length:=⟨_,rfl⟩
    have hal:J.at_.length=n0:=by rw [hn00];exact HB.out.lens
    rw [hal,←hn00] at h9
    rw [hal] at hnc2
    rw [←hn00] at hnc1 hnl hlen
    have HN00:=Zh hn00
    have HAL:=Zh hal
    have h10:=h9.drew
    have k8:=jn_c8 h10
    have k9:=jn_c9 h10
    simp only at k8 k9
    have lq:=h9.lt
    have H10:=Zh h10
    have HR9:=Zh hrI9
    clear h9 h10 hg hg' hx0 hp0 hrI9 H8 hn00 hal hJl hJa
    go_wp2_with fail
    go_upto_region 12 with fail
    have hcn1:¬ c1=n:=by omega
    have hcn2:¬ c2=n:=by omega
    have hnn0:n≤n0:=by omega
    have hnc3:n≤c1:=by omega
    have hnc4:n≤c2:=by omega
    refine Zq165 (fun w'=>w'.cell? ⟨q,8,none⟩=some (.slice (some ⟨g,qq,none⟩) n0 c1)∧w'.cell? ⟨q,9,none⟩=some (.slice (some ⟨g',qq',none⟩) n0 c2)) (fun w'=>True) [0,2,3,4,5,6,7,8,9,10,11,14,15] [1,12,13] [] [16] (Tr.one 16 Tr.leaf) [17,18,19] (by kernel_rfl) (by kernel_rfl) (by (exact ⟨⟨k8,k9⟩,trivial⟩)) ?_
    simp only [pickL,Zl6,Zl7]
    repeat (first|(refine Zq4 _ (Or.inl ⟨by rfl,by (intro w hSw;(try dsimp only at hSw);go_simp;try with_reducible rfl)⟩) ?_;(try simp only [Act.put,List.setIfInBounds_toArray,Zl4,Zl5]))|(refine Zq4 _ (Or.inr ⟨by rfl,rfl⟩) ?_;(try simp only [Act.put,List.setIfInBounds_toArray,Zl4,Zl5]))|fail)
    (try refine Zq10 ?_)
    repeat (first|(refine Zq4 _ (Or.inl ⟨by rfl,by (intro w hSw;(try dsimp only at hSw);go_simp;try with_reducible rfl)⟩) ?_;(try simp only [Act.put,List.setIfInBounds_toArray,Zl4,Zl5]))|(refine Zq4 _ (Or.inr ⟨by rfl,rfl⟩) ?_;(try simp only [Act.put,List.setIfInBounds_toArray,Zl4,Zl5]))|fail)
    (try refine Zq10 ?_)
    unfold wpTr2
    simp only [pickL,Zl6,Zl7]
    clear k8 k9 lq
    obtain ⟨w0,hw0⟩:∃ x,x=w8.drew:=⟨_,rfl⟩
    rw [←hw0] at H10 ⊢
    clear hw0
    have kq:=Zq40 H10.out
    have k8:=kq 8
    have k9:=kq 9
    have fq:=Zq42 H10.out
    have lq:=H10.out.lt
    simp [Zq104] at k8 k9
    have h11:=(H10.out.jb_l (.slice (some ⟨g,qq+n*3,none⟩) (n0 - n) (c1 - n))).jb_at (.slice (some ⟨g',qq'+n*2,none⟩) (n0 - n) (c2 - n))
    have h12:=(h11.pull 1 _ rfl).ents_dropN (k:=n) (by rw [←HN00.out];exact hnn0)
    have h13:=(h12.pull 2 _ rfl).places_dropN (k:=n) (by rw [HAL.out];exact hnn0)
    have h14:St W I8 ((w0.setCell ⟨q,8,none⟩ (.slice (some ⟨g,qq+n*3,none⟩) (n0 - n) (c1 - n))).setCell ⟨q,9,none⟩ (.slice (some ⟨g',qq'+n*2,none⟩) (n0 - n) (c2 - n))) (jnHP q p (goneJ (recJ J R) n)::Zq8 p S8::l) :=
     St.jn_shut (J:=goneJ (recJ J R) n) (V:=⟨vt9,vc9,.slice (some ⟨g,qq+n*3,none⟩) (n0 - n) (c1 - n),.slice (some ⟨g',qq'+n*2,none⟩) (n0 - n) (c2 - n)⟩) HR9.out ((h13.pull 1 _ rfl).pull 2 _ rfl)
    have H14:=Zh (h14.pull 1 _ rfl)
    clear kq h11 h12 h13 h14 H10
    go_wp2_with fail
    refine Zq0 (Zq56 rfl trivial) ?_
    unfold wpTr2
    go_wp2_with fail
    refine NoPanic.normal ?_
    clear k8 k9 fq lq hcn1 hcn2 hnc1 hnc2
    have h14:=H14.out
    generalize (World.setCell _ _ _:World)=w14 at h14 ⊢
    have htr:=Zq375 (m:=m2) h14 HKK.out.1 HKK.out.2.1 HKK.out.2.2 (show (J.at_.drop n).length=(J.l.drop n).length by rw [List.length_drop,List.length_drop,HB.out.lens]) (show (J.l.drop n).length≤100000 by rw [List.length_drop];have:=HB.out.len;omega) (show ∀ e ∈ J.l.drop n,e.okB=true from fun e he=>HEE.out e (List.mem_of_mem_drop he))
    obtain ⟨⟨tw,S15⟩,ht15⟩:∃ x,x=trimJ S8 (goneJ (recJ J R) n):=⟨_,rfl⟩
    have hx5:=HX5.out
    rw [←ht15] at htr hx5
    have HX6:=Zh hx5
    have HTR:=Zh htr
    clear h14 htr ht15 hx5 H14 HX5 HKK
    go_wp2_with fail
    refine HTR.out.mono ?_
    rintro e w15 ⟨I15,s15,rfl,h15⟩
    have H15:=Zh h15
    have S15':=Zh (S8'.out.trans s15)
    clear h15 s15 HTR
    by_cases htw:tw=0
    ·have e1:=HX6.out.trans (if_neg (by simp [htw]))
     simp only [Prod.mk.injEq] at e1
     obtain ⟨⟨rfl,rfl⟩,rfl,rfl⟩:=e1
     subst htw
     go_wp2_with fail
     go_ret2
     exact ⟨I15,S15'.out,rfl,H15.out⟩
    ·have e1:=HX6.out.trans (if_pos htw)
     simp only [Prod.mk.injEq] at e1
     obtain ⟨⟨rfl,rfl⟩,rfl,rfl⟩:=e1
     have hne:(re0 != 0)=true:=by simpa using htw
     have HE:=Zh (Zq70 re0 (H15.out.pull 1 _ rfl))
     go_wp2_with fail
     refine HE.out.mono ?_
     rintro e w16 ⟨rfl,h16⟩
     have H16:=Zh (h16.pull 1 _ rfl)
     clear h16 HE
     go_wp2_with fail
     go_ret2
     exact ⟨I15,S15'.out,rfl,H16.out⟩
   ·have e1:=HX4.out.trans (if_pos hkw)
    simp only [Prod.mk.injEq] at e1
    obtain ⟨⟨rfl,rfl⟩,rfl,rfl⟩:=e1
    have hne:(re0 != 0)=true:=by simpa using hkw
    go_wp2_with fail
    go_ret2
    exact ⟨I8,S8'.out,rfl,H8.out⟩
 ·have e1:=HX.out.trans (if_pos hz)
  simp only [Prod.mk.injEq] at e1
  obtain ⟨⟨rfl,rfl⟩,rfl,rfl⟩:=e1
  have hne:(re0 != 0)=true:=by simpa using hz
  go_enter Tryz.func45,Tryz.ntmps45
  go_wp2_with fail
  refine HM.out.mono ?_
  rintro e w2 ⟨rfl,h2⟩
  have H2:=Zh h2
  clear h2
  go_wp2_with fail
  go_ret2
  exact ⟨I,Hp.sub.refl _,rfl,H2.out⟩
end
end Go.Proofs.YtpjchngjhijgmaaGreat
namespace Go.Proofs.YtpjchngjhijgmaaGreat
open Go.RowKit
def sumS (L:List (K4 × TS)):Int:=(L.map fun x=>x.2.size).sum
theorem Zq694 (t:TS):0≤t.size:=by
 unfold TS.size Zq94
 have:∀ l:List (ByteArray × List Int),0≤(l.map fun x=>(x.1.size:Int)+x.2.length).sum:=fun l=>by
  induction l with
  | nil=>simp
  | cons a l ih=>simp only [List.map_cons,List.sum_cons];omega
 have:=this t.attr
 omega
theorem Zq290:∀ L:List (K4 × TS),0≤sumS L
 | []=>by simp [sumS]
 | x::L=>by
  have:=Zq290 L
  have h:=Zq694 x.2
  have e:sumS (x::L)=x.2.size+sumS L:=by simp [sumS]
  omega
theorem Zq768 {l k:List Int} (h:l.Perm k):l.sum=k.sum:=by
 induction h with
 | nil=>rfl
 | cons a _ ih=>simp [ih]
 | swap a b l=>simp only [List.sum_cons];omega
 | trans _ _ i j=>exact i.trans j
theorem Zq628 {L:List (K4 × TS)} (hn:(L.map (·.1)).Nodup) (k:K4):sumS L=sizeO (get k L)+sumS (del k L):=by
 cases hg:get k L with
 | none=>rw [Zq54 hg];simp [sizeO]
 | some t =>
  have h:=Zq768 ((Zq100 hn hg).map fun x=>x.2.size)
  unfold sumS
  rw [h]
  simp [sizeO]
end Go.Proofs.YtpjchngjhijgmaaGreat
