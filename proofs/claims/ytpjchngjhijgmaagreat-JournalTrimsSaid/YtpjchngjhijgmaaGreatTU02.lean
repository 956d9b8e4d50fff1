import Derived.Test.YtpjchngjhijgmaaGreatTU01
set_option linter.all false
namespace Go.Proofs.YtpjchngjhijgmaaGreat
open Go.RowKit
theorem placeC_le:∀ (l:List Cl) (id:Int),(Zq439 l id).1≤l.length∧((Zq439 l id).2=true→(Zq439 l id).1<l.length)
 | [],_=>⟨Nat.le_refl _,fun h=>by cases h⟩
 | c::l,id=>by
  unfold Zq439
  have ih:=placeC_le l id
  split
  ·exact ⟨Nat.zero_le _,fun _=>by simp⟩
  ·simp only [List.length_cons]
   exact ⟨by omega,fun h=>by have:=ih.2 h;omega⟩
theorem knownC_lt {l:List Cl} {id pos:Int} (h:(Zq329 l id pos).2=0):(Zq329 l id pos).1<l.length:=by
 unfold Zq329 at h ⊢
 split at h
 ·cases h
 split at h
 ·cases h
 rename_i h1 h2
 rw [if_neg h1,if_neg h2]
 exact (placeC_le l id).2 (by simpa using h2)
section
variable {W w w' : World} {I : Hp} {l : List HP}
set_option maxRecDepth 4000
set_option maxHeartbeats 4000000
theorem client_known (A:Option Addr) (c:Nat) (cs:List Cl) (id pos:Int) (h:St W I w l) (hv:RowI I 3 (.slice A cs.length c) cs.length (cs.flatMap Cl.vals)) (hn:cs.length≤1000000) :
  Calls Tryz.prog 161 #[.slice A cs.length c,.int .i64 id,.int .i64 pos] w fun e w'=>e=.returned (.tuple #[.int .i64 ((Zq329 cs id pos).1:Nat),.int .i64 (Zq329 cs id pos).2])∧Below w.heap.size w w':=by
 have HRT:=Zh (Zq419 _ cs h hv hn)
 have HPL:=Zh (fun w1 (h1:St W I w1 l)=>client_place _ cs id h1 hv hn)
 obtain ⟨⟨kn,kw⟩,hR⟩:∃ x,x=Zq329 cs id pos:=⟨_,rfl⟩
 rw [←hR]
 unfold Zq329 at hR
 obtain ⟨r,hr⟩:∃ x,x=Zq69 cs:=⟨_,rfl⟩
 obtain ⟨m,hm⟩:∃ x,x=mayC id pos:=⟨_,rfl⟩
 obtain ⟨⟨pn,pb⟩,hp⟩:∃ x,x=Zq439 cs id:=⟨_,rfl⟩
 rw [←hr] at HRT
 rw [←hp] at HPL
 rw [←hr,←hm,←hp] at hR
 have HM:=Zh (Zq589 id pos)
 rw [←hm] at HM
 have HX:=Zh hR
 have H:=Zh h
 obtain ⟨n,hnn⟩:∃ x,x=cs.length:=⟨_,rfl⟩
 rw [←hnn] at HRT HPL ⊢
 clear h hv hn hR hr hm hp hnn
 go_enter Tryz.func161,Tryz.ntmps161
 go_wp2_with fail
 refine HRT.out.mono ?_
 rintro e w2 ⟨rfl,hb2⟩
 have HB2:=Zh hb2
 clear hb2 HRT
 cases r with
 | false =>
  have e1:=HX.out.trans (if_pos (.inl rfl))
  simp only [Prod.mk.injEq] at e1
  obtain ⟨rfl,rfl⟩:=e1
  go_wp2_with fail
  go_ret2
  exact ⟨rfl,HB2.out⟩
 | true =>
  go_wp2_with fail
  refine (HM.out _).mono ?_
  rintro e w3 ⟨rfl,rfl⟩
  cases m with
  | false =>
   have e1:=HX.out.trans (if_pos (.inr rfl))
   simp only [Prod.mk.injEq] at e1
   obtain ⟨rfl,rfl⟩:=e1
   go_wp2_with fail
   go_ret2
   exact ⟨rfl,HB2.out⟩
  | true =>
   have HX2:=Zh (HX.out.trans (if_neg (by simp)))
   go_wp2_with fail
   refine (HPL.out _ (H.out.keep HB2.out)).mono ?_
   rintro e w4 ⟨rfl,hb4⟩
   have HB4:=Zh (HB2.out.trans (hb4.mono HB2.out.size))
   clear hb4 HB2
   cases pb with
   | false =>
    have e1:=HX2.out.trans (if_pos rfl)
    simp only [Prod.mk.injEq] at e1
    obtain ⟨rfl,rfl⟩:=e1
    go_wp2_with fail
    go_ret2
    exact ⟨rfl,HB4.out⟩
   | true =>
    have e1:=HX2.out.trans (if_neg (by simp))
    simp only [Prod.mk.injEq] at e1
    obtain ⟨rfl,rfl⟩:=e1
    go_wp2_with fail
    go_ret2
    exact ⟨rfl,HB4.out⟩
theorem modify_set {α:Type} {f:α→α}:∀ {l:List α} {i:Nat} {a:α},l[i]?=some a→l.modify i f=l.set i (f a)
 | [],i,a,h=>by simp at h
 | x::l,0,a,h=>by
  simp only [Zl6,Option.some.injEq] at h
  subst h
  simp
 | x::l,i+1,a,h=>by
  rw [List.modify_succ_cons,Zl5,modify_set (by simpa using h)]
theorem client_commit (A:Option Addr) (c:Nat) (cs:List Cl) (id pos:Int) (h:St W I w l) (hv:RowI I 3 (.slice A cs.length c) cs.length (cs.flatMap Cl.vals)) (hn:cs.length≤1000000) :
  Calls Tryz.prog 163 #[.slice A cs.length c,.int .i64 id,.int .i64 pos] w fun e w'=>∃ I' v,I.sub I'∧e=.returned (.tuple #[v,.int .i64 (Zq644 cs id pos).2])∧RowI I' 3 v (Zq644 cs id pos).1.length ((Zq644 cs id pos).1.flatMap Cl.vals)∧St W I' w' l:=by
 have HKN:=Zh (client_known A c cs id pos h hv hn)
 have HCL:=Zh (fun w1 (h1:St W I w1 l)=>Zq516 (.slice A cs.length c) cs.length (cs.flatMap Cl.vals) w1 (hv.src h1.imm (Zq812 _) (by omega)) hn)
 obtain ⟨⟨rs,rw'⟩,hR⟩:∃ x,x=Zq644 cs id pos:=⟨_,rfl⟩
 rw [←hR]
 unfold Zq644 at hR
 have hlt:=@knownC_lt cs id pos
 obtain ⟨⟨kn,kw⟩,hk⟩:∃ x,x=Zq329 cs id pos:=⟨_,rfl⟩
 rw [←hk] at HKN hR hlt
 have HX:=Zh hR
 have H:=Zh h
 have HN:=Zh hn
 obtain ⟨n,hnn⟩:∃ x,x=cs.length:=⟨_,rfl⟩
 rw [←hnn] at HKN HCL hlt ⊢
 have HNN:=Zh hnn
 have HLT:=Zh hlt
 clear h hv hn hR hk hlt hnn
 go_enter Tryz.func163,Tryz.ntmps163
 go_wp2_with fail
 refine HKN.out.mono ?_
 rintro e w2 ⟨rfl,hb2⟩
 have H2:=Zh (H.out.keep hb2)
 clear hb2 HKN
 by_cases hkw:kw=0
 ·subst hkw
  have HX2:=Zh (HX.out.trans (if_neg (by simp)))
  have hkl:=HLT.out (by first|rfl|trivial)
  go_wp2_with fail
  refine (HCL.out _ H2.out).mono ?_
  rintro e w3 ⟨v3,rfl,ho3,hb3⟩
  obtain ⟨A3,c3,rfl⟩:=Zq15 ho3
  have h3:=H2.out.row_fresh hb3 ho3
  have H3:=Zh h3
  clear ho3 hb3 h3 HCL H2
  obtain ⟨cl,hcl⟩:∃ x,cs[kn]?=some x:=⟨_,List.getElem?_eq_getElem (by rw [←HNN.out];exact hkl)⟩
  have h3:St W I w3 (HP.row 212 3 (.slice A3 cs.length c3) cs.length (cs.flatMap Cl.vals)::l):=by rw [←HNN.out];exact H3.out
  obtain ⟨g3,rfl,hcc⟩:=h3.rowk_cells (fun _=>rfl) hcl
  have y0:=hcc 0 (by omega)
  have y1:=hcc 1 (by omega)
  have y2:=hcc 2 (by omega)
  obtain ⟨h4,f4,l4⟩:=h3.row_set (mk:=Cl.vals) (fun _=>rfl) (j:=1) (a':={ cl with pos:=max cl.pos pos }) (v:=.int .i64 (max cl.pos pos)) hcl (by omega) rfl
  have f4:=f4 (kn*3+1)
  have hmod:rs=cs.set kn ({ cl with pos:=max cl.pos pos }):=by
   have e1:=HX2.out
   simp only [Prod.mk.injEq] at e1
   rw [e1.1]
   exact modify_set hcl
  have hrw:rw'=0:=by
   have e1:=HX2.out
   simp only [Prod.mk.injEq] at e1
   exact e1.2
  subst hrw
  rw [←hmod] at h4
  have hrl:cs.length=rs.length:=by rw [hmod,List.length_set]
  rw [hrl] at h4
  obtain ⟨I5,s5,hR5,h5⟩:=h4.freeze_row
  obtain ⟨cid,cpos,coff⟩:=cl
  simp only [Cl.vals,Zl6,Zl7,Nat.add_zero] at y0 y1 y2
  simp only at h4 h5 hmod
  have hnr:n=rs.length:=by rw [HNN.out,hrl]
  have HNR:=Zh hnr
  have HR5:=Zh hR5
  have S5:=Zh s5
  have H5:=Zh h5
  have hn1:n≤1000000:=by rw [HNN.out];exact HN.out
  have hki:(kn:Int)<(n:Int):=by omega
  clear h3 h4 h5 hR5 s5 hcc hcl hmod hrl hnr H3 HX HX2
  go_wp2_with fail
  go_ret2
  rw [HNR.out]
  exact ⟨I5,_,S5.out,rfl,HR5.out,H5.out⟩
 ·have e1:=HX.out.trans (if_pos hkw)
  simp only [Prod.mk.injEq] at e1
  obtain ⟨rfl,rfl⟩:=e1
  have hne:(rw' != 0)=true:=by simpa using hkw
  go_wp2_with fail
  go_ret2
  exact ⟨I,_,Hp.sub.refl _,rfl,Zq763 _ _,H2.out⟩
theorem client_turn (A:Option Addr) (c:Nat) (cs:List Cl) (id:Int) (off:Bool) (h:St W I w l) (hv:RowI I 3 (.slice A cs.length c) cs.length (cs.flatMap Cl.vals)) (hn:cs.length≤1000000) :
  Calls Tryz.prog 109 #[.slice A cs.length c,.int .i64 id,.bool off] w fun e w'=>∃ I' v,I.sub I'∧e=.returned (.tuple #[v,.int .i64 (turnC cs id off).2])∧RowI I' 3 v (turnC cs id off).1.length ((turnC cs id off).1.flatMap Cl.vals)∧St W I' w' l:=by
 have HKN:=Zh (client_known A c cs id 0 h hv hn)
 have HCL:=Zh (fun w1 (h1:St W I w1 l)=>Zq516 (.slice A cs.length c) cs.length (cs.flatMap Cl.vals) w1 (hv.src h1.imm (Zq812 _) (by omega)) hn)
 obtain ⟨⟨rs,rw'⟩,hR⟩:∃ x,x=turnC cs id off:=⟨_,rfl⟩
 rw [←hR]
 unfold turnC at hR
 have hlt:=@knownC_lt cs id 0
 obtain ⟨⟨kn,kw⟩,hk⟩:∃ x,x=Zq329 cs id 0:=⟨_,rfl⟩
 rw [←hk] at HKN hR hlt
 have HX:=Zh hR
 have H:=Zh h
 have HN:=Zh hn
 obtain ⟨n,hnn⟩:∃ x,x=cs.length:=⟨_,rfl⟩
 rw [←hnn] at HKN HCL hlt ⊢
 have HNN:=Zh hnn
 have HLT:=Zh hlt
 clear h hv hn hR hk hlt hnn
 go_enter Tryz.func109,Tryz.ntmps109
 go_wp2_with fail
 refine HKN.out.mono ?_
 rintro e w2 ⟨rfl,hb2⟩
 have H2:=Zh (H.out.keep hb2)
 clear hb2 HKN
 by_cases hkw:kw=0
 ·subst hkw
  have HX2:=Zh (HX.out.trans (if_neg (by simp)))
  have hkl:=HLT.out (by first|rfl|trivial)
  go_wp2_with fail
  refine (HCL.out _ H2.out).mono ?_
  rintro e w3 ⟨v3,rfl,ho3,hb3⟩
  obtain ⟨A3,c3,rfl⟩:=Zq15 ho3
  have h3:=H2.out.row_fresh hb3 ho3
  have H3:=Zh h3
  clear ho3 hb3 h3 HCL H2
  obtain ⟨cl,hcl⟩:∃ x,cs[kn]?=some x:=⟨_,List.getElem?_eq_getElem (by rw [←HNN.out];exact hkl)⟩
  have h3:St W I w3 (HP.row 212 3 (.slice A3 cs.length c3) cs.length (cs.flatMap Cl.vals)::l):=by rw [←HNN.out];exact H3.out
  obtain ⟨g3,rfl,hcc⟩:=h3.rowk_cells (fun _=>rfl) hcl
  have y0:=hcc 0 (by omega)
  have y1:=hcc 1 (by omega)
  have y2:=hcc 2 (by omega)
  obtain ⟨h4,f4,l4⟩:=h3.row_set (mk:=Cl.vals) (fun _=>rfl) (j:=2) (a':={ cl with off:=off }) (v:=.bool off) hcl (by omega) rfl
  have f4:=f4 (kn*3+2)
  have hmod:rs=cs.set kn ({ cl with off:=off }):=by
   have e1:=HX2.out
   simp only [Prod.mk.injEq] at e1
   rw [e1.1]
   exact modify_set hcl
  have hrw:rw'=0:=by
   have e1:=HX2.out
   simp only [Prod.mk.injEq] at e1
   exact e1.2
  subst hrw
  rw [←hmod] at h4
  have hrl:cs.length=rs.length:=by rw [hmod,List.length_set]
  rw [hrl] at h4
  obtain ⟨I5,s5,hR5,h5⟩:=h4.freeze_row
  obtain ⟨cid,cpos,coff⟩:=cl
  simp only [Cl.vals,Zl6,Zl7,Nat.add_zero] at y0 y1 y2
  simp only at h4 h5 hmod
  have hnr:n=rs.length:=by rw [HNN.out,hrl]
  have HNR:=Zh hnr
  have HR5:=Zh hR5
  have S5:=Zh s5
  have H5:=Zh h5
  have hn1:n≤1000000:=by rw [HNN.out];exact HN.out
  have hki:(kn:Int)<(n:Int):=by omega
  clear h3 h4 h5 hR5 s5 hcc hcl hmod hrl hnr H3 HX HX2
  go_wp2_with fail
  go_ret2
  rw [HNR.out]
  exact ⟨I5,_,S5.out,rfl,HR5.out,H5.out⟩
 ·have e1:=HX.out.trans (if_pos hkw)
  simp only [Prod.mk.injEq] at e1
  obtain ⟨rfl,rfl⟩:=e1
  have hne:(rw' != 0)=true:=by simpa using hkw
  go_wp2_with fail
  go_ret2
  exact ⟨I,_,Hp.sub.refl _,rfl,Zq763 _ _,H2.out⟩
theorem client_add (A:Option Addr) (c:Nat) (cs:List Cl) (id pos:Int) (h:St W I w l) (hv:RowI I 3 (.slice A cs.length c) cs.length (cs.flatMap Cl.vals)) (hn:cs.length≤1000000) :
  Calls Tryz.prog 108 #[.slice A cs.length c,.int .i64 id,.int .i64 pos] w fun e w'=>∃ I' v,I.sub I'∧e=.returned (.tuple #[v,.int .i64 (addC cs id pos).2])∧RowI I' 3 v (addC cs id pos).1.length ((addC cs id pos).1.flatMap Cl.vals)∧St W I' w' l:=by
 have HRT:=Zh (Zq419 _ cs h hv hn)
 have HPL:=Zh (fun w1 (h1:St W I w1 l)=>client_place _ cs id h1 hv hn)
 have HCL:=Zh (fun w1 (h1:St W I w1 l)=>Zq516 (.slice A cs.length c) cs.length (cs.flatMap Cl.vals) w1 (hv.src h1.imm (Zq812 _) (by omega)) hn)
 obtain ⟨⟨rs,rw'⟩,hR⟩:∃ x,x=addC cs id pos:=⟨_,rfl⟩
 rw [←hR]
 unfold addC at hR
 have hple:=(placeC_le cs id).1
 obtain ⟨r,hr⟩:∃ x,x=Zq69 cs:=⟨_,rfl⟩
 obtain ⟨m,hm⟩:∃ x,x=mayC id pos:=⟨_,rfl⟩
 obtain ⟨⟨pn,pb⟩,hp⟩:∃ x,x=Zq439 cs id:=⟨_,rfl⟩
 rw [←hr] at HRT
 rw [←hp] at HPL hple
 rw [←hr,←hm,←hp] at hR
 have HM:=Zh (Zq589 id pos)
 rw [←hm] at HM
 have HX:=Zh hR
 have H:=Zh h
 obtain ⟨n,hnn⟩:∃ x,x=cs.length:=⟨_,rfl⟩
 rw [←hnn] at HRT HPL HCL hple ⊢
 have HN:=Zh hn
 have HNN:=Zh hnn
 have HPLE:=Zh hple
 clear h hv hn hR hr hm hp hnn hple
 go_enter Tryz.func108,Tryz.ntmps108
 go_wp2_with fail
 refine HRT.out.mono ?_
 rintro e w2 ⟨rfl,hb2⟩
 have H2:=Zh (H.out.keep hb2)
 clear hb2 HRT
 cases r with
 | false =>
  have e1:=HX.out.trans (if_pos (.inl rfl))
  simp only [Prod.mk.injEq] at e1
  obtain ⟨rfl,rfl⟩:=e1
  go_wp2_with fail
  go_ret2
  exact ⟨I,_,Hp.sub.refl _,rfl,Zq763 _ _,H2.out⟩
 | true =>
  go_wp2_with fail
  refine (HM.out _).mono ?_
  rintro e w3 ⟨rfl,rfl⟩
  cases m with
  | false =>
   have e1:=HX.out.trans (if_pos (.inr rfl))
   simp only [Prod.mk.injEq] at e1
   obtain ⟨rfl,rfl⟩:=e1
   go_wp2_with fail
   go_ret2
   exact ⟨I,_,Hp.sub.refl _,rfl,Zq763 _ _,H2.out⟩
  | true =>
   have HX2:=Zh (HX.out.trans (if_neg (by simp)))
   go_wp2_with fail
   refine (HPL.out _ H2.out).mono ?_
   rintro e w4 ⟨rfl,hb4⟩
   have H4:=Zh (H2.out.keep hb4)
   clear hb4 H2
   cases pb with
   | true =>
    have e1:=HX2.out.trans (if_pos rfl)
    simp only [Prod.mk.injEq] at e1
    obtain ⟨rfl,rfl⟩:=e1
    go_wp2_with fail
    go_ret2
    exact ⟨I,_,Hp.sub.refl _,rfl,Zq763 _ _,H4.out⟩
   | false =>
    have HX3:=Zh (HX2.out.trans (if_neg (by simp)))
    rw [←HNN.out] at HX3
    by_cases h4:n=4
    ·have e1:=HX3.out.trans (if_pos h4)
     simp only [Prod.mk.injEq] at e1
     obtain ⟨rfl,rfl⟩:=e1
     have HNN4:=Zh h4
     have hn4:((n:Int)==4)=true:=by rw [h4];rfl
     clear h4
     go_wp2_with fail
     go_ret2
     exact ⟨I,_,Hp.sub.refl _,rfl,Zq763 _ _,H4.out⟩
    ·have e1:=HX3.out.trans (if_neg h4)
     simp only [Prod.mk.injEq] at e1
     obtain ⟨hrs,rfl⟩:=e1
     have hn4:((n:Int)==4)=false:=by simp;omega
     have hrs2:rs=cinsK pn ⟨id,pos,false⟩ cs:=by rw [hrs];unfold cinsK;simp
     have HRS:=Zh hrs2
     clear hrs hrs2 h4
     go_wp2_with fail
     refine (HCL.out _ H4.out).mono ?_
     rintro e w5 ⟨v5,rfl,ho5,hb5⟩
     obtain ⟨A5,c5,rfl⟩:=Zq15 ho5
     have h5:=H4.out.row_fresh hb5 ho5
     have h6:=(h5.alloc (.cells #[.int .i64 id,.int .i64 pos,.bool false] 212))
     have h7:St W I (w5.alloc (.cells #[.int .i64 id,.int .i64 pos,.bool false] 212)) (HP.pt w5.heap.size (.cells #[.int .i64 id,.int .i64 pos,.bool false] 212)::Zq855 (.slice A5 n c5) cs::l):=by
      unfold Zq855
      rw [←HNN.out]
      exact h6
     have HIN:=Zh (cinsert_spec (i:=pn) ⟨id,pos,false⟩ h7 HN.out (by rw [←HNN.out];exact HPLE.out))
     clear ho5 hb5 h5 h6 h7 HCL H4
     go_wp2_with fail
     refine HIN.out.mono ?_
     rintro e w6 ⟨v6,rfl,h8⟩
     rw [←HRS.out] at h8
     obtain ⟨I9,s9,hR9,h9⟩:=St.freeze_row h8
     have hR6:=hR9
     obtain ⟨A9,c9,ev,_⟩:=hR6
     subst ev
     have HR9:=Zh hR9
     have S9:=Zh s9
     have H9:=Zh h9
     clear h8 h9 hR9 s9 HIN
     go_wp2_with fail
     go_ret2
     exact ⟨I9,_,S9.out,rfl,HR9.out,H9.out⟩
end
end Go.Proofs.YtpjchngjhijgmaaGreat
namespace Go.Proofs.YtpjchngjhijgmaaGreat
open Go.RowKit
theorem clsGo_less:∀ {l:List Cl} {a b:Int},clsGo l a=true→b≤a→clsGo l b=true
 | [],_,_,_,_=>rfl
 | c::l,a,b,h,hb=>by
  unfold clsGo at h ⊢
  simp only [Bool.and_eq_true,decide_eq_true_eq] at h ⊢
  exact ⟨⟨h.1.1,by omega⟩,h.2⟩
theorem clsGo_ins {id pos:Int} (hm:mayC id pos=true):∀ {l:List Cl} {a:Int},clsGo l a=true→a<id→(Zq439 l id).2=false→clsGo (l.take (Zq439 l id).1++[⟨id,pos,false⟩]++l.drop (Zq439 l id).1) a=true
 | [],a,_,ha,_=>by
  show (mayC id pos&&decide (a<id)&&clsGo [] id)=true
  rw [hm,decide_eq_true ha];rfl
 | c::l,a,h,ha,hp=>by
  unfold Zq439 at hp ⊢
  by_cases hle:id≤c.id
  ·rw [if_pos hle] at hp ⊢
   simp only [decide_eq_false_iff_not] at hp
   unfold clsGo at h
   simp only [Bool.and_eq_true,decide_eq_true_eq] at h
   show (mayC id pos&&decide (a<id)&&(mayC c.id c.pos&&decide (id<c.id)&&clsGo l c.id))=true
   rw [hm,decide_eq_true ha,h.1.1,decide_eq_true (by omega:id<c.id),h.2]
   rfl
  ·rw [if_neg hle] at hp ⊢
   unfold clsGo at h
   simp only [Bool.and_eq_true,decide_eq_true_eq] at h
   have ih:=clsGo_ins hm (l:=l) h.2 (by omega) hp
   show (mayC c.id c.pos&&decide (a<c.id)&&clsGo (l.take (Zq439 l id).1++[⟨id,pos,false⟩]++l.drop (Zq439 l id).1) c.id)=true
   rw [h.1.1,decide_eq_true h.1.2,ih]
   rfl
theorem clsGo_erase:∀ {l:List Cl} {a:Int} (i:Nat),clsGo l a=true→clsGo (l.eraseIdx i) a=true
 | [],_,_,_=>by simp [clsGo]
 | c::l,a,0,h=>by
  unfold clsGo at h
  simp only [Bool.and_eq_true,decide_eq_true_eq] at h
  exact clsGo_less h.2 (by omega)
 | c::l,a,i+1,h=>by
  rw [Zl0]
  unfold clsGo at h ⊢
  simp only [Bool.and_eq_true,decide_eq_true_eq] at h ⊢
  exact ⟨h.1,clsGo_erase i h.2⟩
theorem clsGo_modify {f:Cl→Cl} (hf:∀ c,mayC c.id c.pos=true→(f c).id=c.id∧mayC (f c).id (f c).pos=true):∀ {l:List Cl} {a:Int} (i:Nat),clsGo l a=true→clsGo (l.modify i f) a=true
 | [],_,_,_=>by simp [clsGo]
 | c::l,a,0,h=>by
  unfold clsGo at h
  simp only [Bool.and_eq_true,decide_eq_true_eq] at h
  obtain ⟨h1,h2⟩:=hf c h.1.1
  show clsGo (f c::l) a=true
  unfold clsGo
  simp only [Bool.and_eq_true,decide_eq_true_eq]
  exact ⟨⟨h2,by omega⟩,by rw [h1];exact h.2⟩
 | c::l,a,i+1,h=>by
  rw [List.modify_succ_cons]
  unfold clsGo at h ⊢
  simp only [Bool.and_eq_true,decide_eq_true_eq] at h ⊢
  exact ⟨h.1,clsGo_modify hf i h.2⟩
theorem clsRight_iff {l:List Cl}:Zq69 l=true↔clsGo l 0=true∧l.length≤4:=by
 unfold Zq69
 rw [Bool.and_eq_true,decide_eq_true_eq]
theorem addC_right {cs:List Cl} {id pos:Int} (h:(addC cs id pos).2=0):Zq69 (addC cs id pos).1=true:=by
 unfold addC at h ⊢
 split at h
 ·cases h
 rename_i h1
 rw [if_neg h1]
 split at h
 ·cases h
 rename_i h2
 rw [if_neg h2]
 split at h
 ·cases h
 rename_i h3
 rw [if_neg h3]
 rw [not_or] at h1
 have hr:=clsRight_iff.1 (by simpa using h1.1)
 have hm:mayC id pos=true:=by simpa using h1.2
 have hid:1≤id:=by unfold mayC at hm;rw [decide_eq_true_eq] at hm;exact hm.1
 refine clsRight_iff.2 ⟨clsGo_ins hm hr.1 (by omega) (by simpa using h2),?_⟩
 have:=(placeC_le cs id).1
 simp only [List.length_append,List.length_take,List.length_drop,List.length_cons,List.length_nil]
 omega
theorem knownC_ok {cs:List Cl} {id pos:Int} (h:(Zq329 cs id pos).2=0):Zq69 cs=true∧mayC id pos=true:=by
 unfold Zq329 at h
 split at h
 ·cases h
 rename_i h1
 rw [not_or] at h1
 exact ⟨by simpa using h1.1,by simpa using h1.2⟩
theorem turnC_right {cs:List Cl} {id:Int} {off:Bool} (h:(turnC cs id off).2=0):Zq69 (turnC cs id off).1=true:=by
 unfold turnC at h ⊢
 split at h
 ·rename_i h1;exact absurd h h1
 ·rename_i h1
  rw [if_neg h1]
  obtain ⟨hr,hm⟩:=knownC_ok (cs:=cs) (id:=id) (pos:=0) (by simpa using h1)
  have hr:=clsRight_iff.1 hr
  exact clsRight_iff.2 ⟨clsGo_modify (f:=fun c=>{ c with off:=off }) (fun c hc=>⟨rfl,hc⟩) _ hr.1,by rw [List.length_modify];exact hr.2⟩
theorem uptoJ_may {S:Str} {J:Jn} {id pos:Int} (h:uptoJ S J id pos=0):mayJ S J=0:=by
 unfold uptoJ at h
 split at h
 ·exact h
 ·rename_i h1;simpa using h1
section
variable {W w w' : World} {I : Hp} {l : List HP} {p q : Nat} {J : Jn} {S : Str}
set_option maxRecDepth 4000
set_option maxHeartbeats 4000000
theorem jadd_spec (id pos:Int) (o:Option Rc) {m:Nat} (h:St W I w (Zq8 p S::jnHP q p J::l)) (hk:Keeps S (m+2)) (hB:JB J) (hj:JRec S o) :
  Calls Tryz.prog 46 #[.pointer (some ⟨q,0,none⟩),.int .i64 id,.int .i64 pos] w fun e w'=>∃ I',I.sub I'∧e=.returned (.int .i64 (addJ2 S J id pos).1)∧St W I' w' (Zq8 p (addJ2 S J id pos).2.1::jnHP q p (addJ2 S J id pos).2.2::l):=by
 have HU:=Zh (jupto_spec id pos h hB)
 have HSM:=Zh (show uptoJ S J id pos=0→mayJ2 S J=J from fun h=>Zq319 (uptoJ_may h))
 obtain ⟨⟨why,RS,RJ⟩,hR⟩:∃ x,x=addJ2 S J id pos:=⟨_,rfl⟩
 rw [←hR]
 unfold addJ2 at hR
 obtain ⟨u,hu⟩:∃ x,x=uptoJ S J id pos:=⟨_,rfl⟩
 rw [←hu] at HU HSM hR
 have HX:=Zh hR
 have HK:=Zh hk
 have HB:=Zh hB
 have HJ:=Zh hj
 clear h hk hB hj hR hu
 go_enter Tryz.func46,Tryz.ntmps46
 go_wp2_with fail
 refine HU.out.mono ?_
 rintro e w2 ⟨rfl,h2⟩
 have H2:=Zh h2
 clear h2 HU
 by_cases hu0:u=0
 ·subst hu0
  have e1:=HX.out.trans (if_neg (by simp))
  have hs:=HSM.out (by first|rfl|trivial)
  rw [hs] at H2
  obtain ⟨vt,vc,hrI,hcs,lq,fq⟩:=(H2.out.pull 1 _ rfl).jn_rcells
  have k7:=hcs.2.2.2.2.2.2.2
  obtain ⟨Ac,cc,rfl,_⟩:=hrI.2
  have HCN:=Zh (show J.r.cls.length≤1000000 by have:=(Zq119 HB.out.ok.cls).1;omega)
  have HC:=Zh (client_add Ac cc J.r.cls id pos H2.out hrI.2 HCN.out)
  have HRT:=Zh (show (addC J.r.cls id pos).2=0→Zq69 (addC J.r.cls id pos).1=true from addC_right)
  obtain ⟨⟨cs,cw⟩,hc⟩:∃ x,x=addC J.r.cls id pos:=⟨_,rfl⟩
  rw [←hc] at HC e1 HRT
  have E1:=Zh (show (why,RS,RJ)=withJ S J cs cw from e1)
  clear hrI hcs fq hc hs HX HSM e1
  go_wp2_with fail
  refine HC.out.mono ?_
  rintro e w3 ⟨I3,v3,s3,rfl,hI3,h3⟩
  have hI4:=hI3
  obtain ⟨A3,c3,ev,_⟩:=hI4
  subst ev
  have hw:=jwith_spec (.slice A3 cs.length c3) cs cw o h3 HK.out HB.out HRT.out hI3 HJ.out
  rw [←E1.out] at hw
  have HW:=Zh hw
  have S3:=Zh s3
  clear hI3 h3 s3 H2 HC k7 lq hw
  go_wp2_with fail
  refine HW.out.mono ?_
  rintro e w4 ⟨I4,s4,rfl,h4⟩
  have H4:=Zh h4
  have S4:=Zh (S3.out.trans s4)
  clear h4 s4 HW
  go_wp2_with fail
  go_ret
  exact ⟨I4,S4.out,rfl,H4.out⟩
 ·have e1:=HX.out.trans (if_pos hu0)
  simp only [Prod.mk.injEq] at e1
  obtain ⟨rfl,rfl,rfl⟩:=e1
  have hne:(why != 0)=true:=by simpa using hu0
  go_wp2_with fail
  go_ret
  exact ⟨I,Hp.sub.refl _,rfl,H2.out⟩
theorem jturn_spec (id:Int) (off:Bool) (o:Option Rc) {m:Nat} (h:St W I w (Zq8 p S::jnHP q p J::l)) (hk:Keeps S (m+2)) (hB:JB J) (hj:JRec S o) :
  Calls Tryz.prog 47 #[.pointer (some ⟨q,0,none⟩),.int .i64 id,.bool off] w fun e w'=>∃ I',I.sub I'∧e=.returned (.int .i64 (turnJ S J id off).1)∧St W I' w' (Zq8 p (turnJ S J id off).2.1::jnHP q p (turnJ S J id off).2.2::l):=by
 have HU:=Zh (Zq317 h)
 have HSM:=Zh (show mayJ S J=0→mayJ2 S J=J from fun h=>Zq319 (h))
 obtain ⟨⟨why,RS,RJ⟩,hR⟩:∃ x,x=turnJ S J id off:=⟨_,rfl⟩
 rw [←hR]
 unfold turnJ at hR
 obtain ⟨u,hu⟩:∃ x,x=mayJ S J:=⟨_,rfl⟩
 rw [←hu] at HU HSM hR
 have HX:=Zh hR
 have HK:=Zh hk
 have HB:=Zh hB
 have HJ:=Zh hj
 clear h hk hB hj hR hu
 go_enter Tryz.func47,Tryz.ntmps47
 go_wp2_with fail
 refine HU.out.mono ?_
 rintro e w2 ⟨rfl,h2⟩
 have H2:=Zh h2
 clear h2 HU
 by_cases hu0:u=0
 ·subst hu0
  have e1:=HX.out.trans (if_neg (by simp))
  have hs:=HSM.out (by first|rfl|trivial)
  rw [hs] at H2
  obtain ⟨vt,vc,hrI,hcs,lq,fq⟩:=(H2.out.pull 1 _ rfl).jn_rcells
  have k7:=hcs.2.2.2.2.2.2.2
  obtain ⟨Ac,cc,rfl,_⟩:=hrI.2
  have HCN:=Zh (show J.r.cls.length≤1000000 by have:=(Zq119 HB.out.ok.cls).1;omega)
  have HC:=Zh (client_turn Ac cc J.r.cls id off H2.out hrI.2 HCN.out)
  have HRT:=Zh (show (turnC J.r.cls id off).2=0→Zq69 (turnC J.r.cls id off).1=true from turnC_right)
  obtain ⟨⟨cs,cw⟩,hc⟩:∃ x,x=turnC J.r.cls id off:=⟨_,rfl⟩
  rw [←hc] at HC e1 HRT
  have E1:=Zh (show (why,RS,RJ)=withJ S J cs cw from e1)
  clear hrI hcs fq hc hs HX HSM e1
  go_wp2_with fail
  refine HC.out.mono ?_
  rintro e w3 ⟨I3,v3,s3,rfl,hI3,h3⟩
  have hI4:=hI3
  obtain ⟨A3,c3,ev,_⟩:=hI4
  subst ev
  have hw:=jwith_spec (.slice A3 cs.length c3) cs cw o h3 HK.out HB.out HRT.out hI3 HJ.out
  rw [←E1.out] at hw
  have HW:=Zh hw
  have S3:=Zh s3
  clear hI3 h3 s3 H2 HC k7 lq hw
  go_wp2_with fail
  refine HW.out.mono ?_
  rintro e w4 ⟨I4,s4,rfl,h4⟩
  have H4:=Zh h4
  have S4:=Zh (S3.out.trans s4)
  clear h4 s4 HW
  go_wp2_with fail
  go_ret
  exact ⟨I4,S4.out,rfl,H4.out⟩
 ·have e1:=HX.out.trans (if_pos hu0)
  simp only [Prod.mk.injEq] at e1
  obtain ⟨rfl,rfl,rfl⟩:=e1
  have hne:(why != 0)=true:=by simpa using hu0
  go_wp2_with fail
  go_ret
  exact ⟨I,Hp.sub.refl _,rfl,H2.out⟩
end
end Go.Proofs.YtpjchngjhijgmaaGreat
namespace Go.Proofs.YtpjchngjhijgmaaGreat
open Go.RowKit
theorem JOK.may2 {S:Str} {J:Jn} (h:JOK S J):mayJ2 S J=J:=Zq319 h.may
end Go.Proofs.YtpjchngjhijgmaaGreat
namespace Go.Proofs.YtpjchngjhijgmaaGreat
open Go.RowKit
theorem JOK.withC {S:Str} {J:Jn} {cs:List Cl} {why:Int} (h:JOK S J) (hc:why=0→Zq69 cs=true) :
  withJ S J cs why=(if why≠0 then (why,S,J) else if (saveJ S (clsR J.r cs)).1=0 then (0,(saveJ S (clsR J.r cs)).2,recJ J (clsR J.r cs)) else (7,(saveJ S (clsR J.r cs)).2,deadJ J)) ∧
  (why=0→(saveJ S (clsR J.r cs)).1=0→JOK (saveJ S (clsR J.r cs)).2 (recJ J (clsR J.r cs))):=by
 by_cases hw:why=0
 ·have ok:(clsR J.r cs).Ok:=⟨h.ok.shape,h.ok.first,h.ok.set,h.ok.tags,hc hw⟩
  obtain ⟨a,b⟩:=h.keep ok
  refine ⟨?_,fun _=>b rfl rfl rfl fun _ _=>rfl⟩
  unfold withJ
  rw [if_neg (by simp [hw]),if_neg (by simp [hw]),a]
 ·refine ⟨?_,fun e=>absurd e hw⟩
  unfold withJ
  rw [if_pos hw,if_pos hw]
end Go.Proofs.YtpjchngjhijgmaaGreat
