import Derived.ChangeMaps5
import Derived.Test.YtcbdghojlbpomaaGreatIR00
set_option linter.all false
namespace Go.Proofs.YtcbdghojlbpomaaGreat
open Go.RowKit
theorem readB_all (b:List Int):readB b 0 b.length=(b,0):=by
 unfold readB
 rw [if_neg (by omega),if_neg (by omega),Int.toNat_natCast]
 show ((b.drop 0).take b.length,(0:Int))=_
 rw [List.drop_zero,List.take_length]
theorem readV_snap {V:Vw} (hd:(V.snaps.map (·.1)).Nodup) (hn:∀ x ∈ V.snaps,x.1≠⟨#[]⟩) {k:Nat} {x:ByteArray × List Int} (hx:V.snaps[k]?=some x):readV V x.1 0 x.2.length=(x.2,0):=by
 have hm:(V.snaps.map (·.1))[k]?=some x.1:=by rw [List.getElem?_map,hx];rfl
 have hf:findI (V.snaps.map (·.1)) x.1=some k:=Zjv (fun j hj b hb he=>by
  subst he
  obtain ⟨h1,e1⟩:=List.getElem?_eq_some_iff.1 hm
  obtain ⟨h2,e2⟩:=List.getElem?_eq_some_iff.1 hb
  exact List.pairwise_iff_getElem.1 hd j k h2 h1 hj (e2.trans e1.symm)) hm
 unfold readV
 rw [if_neg (hn x (List.mem_of_getElem? hx)),hf]
 show readB (V.snaps.getD k (x.1,[])).2 0 x.2.length=_
 rw [List.getD_eq_getElem?_getD,hx]
 exact readB_all x.2
theorem view_names {h:Hd} (R:List RO) (H:h.Ok):((viewI h R).snaps.map (·.1)).Nodup∧∀ x ∈ (viewI h R).snaps,x.1≠⟨#[]⟩:=by
 have e:(viewI h R).snaps.map (·.1)=h.seen.map (·.name):=by
  show (h.seen.map _).map _=_
  rw [List.map_map]
  rfl
 refine ⟨e ▸ H.diff,fun x hx=>?_⟩
 obtain ⟨m,hm,rfl⟩:=List.mem_map.1 hx
 have:=(Mk.named_size (H.names m (ZcH hm))).1
 intro q
 have q2:m.name=⟨#[]⟩:=q
 rw [q2] at this
 exact absurd this (by decide)
section
variable {W w : World} {I : Hp} {l : List HP} {p q : Nat} {S : Str}
set_option maxRecDepth 8000
set_option maxHeartbeats 16000000
theorem imageReads_walk (a0 a1 a2 a3 a6 a7:Int) (v4:Value) (s5:ByteArray) (es:List (Ev × Value)) (W:World) (h4:EvsI W.hp v4 es) (hs5:s5.size≤maxLen) :
  Calls Tryz.prog 4 #[.int .i64 a0,.int .i64 a1,.int .i64 a2,.int .i64 a3,v4,.string s5,.int .i64 a6,.int .i64 a7] W fun e w'=>e=.returned (.bool true)∧Below W.heap.size W w':=by
 have SML:=Zh (ZmQ es v4 40 (by decide) (St.init W) h4)
 have H4:=Zh h4
 obtain ⟨AE,cE,rfl,hcE⟩:=RowI.cap h4.1
 obtain ⟨sm,hsm⟩:∃ x,ZdB es 40=x:=⟨_,rfl⟩
 rw [hsm] at SML
 clear h4
 cases sm with
 | false =>
  clear hsm
  go_enter Tryz.func4,Tryz.ntmps4
  go_wp2_with fail
  refine SML.out.mono ?_
  rintro e w2 ⟨rfl,hb2⟩
  have HK:=Zh (ZjB ((St.init W).keep hb2))
  clear hb2
  go_wp2_with fail
  refine HK.out.mono ?_
  rintro e w3 ⟨I3,hs3,rfl,h3⟩
  have H3:=Zh h3.below
  clear h3
  go_wp2_with fail
  go_ret
  exact ⟨rfl,H3.out⟩
 | true =>
  have hel:es.length≤40:=by
   unfold ZdB at hsm
   rw [Bool.and_eq_true,decide_eq_true_eq] at hsm
   exact hsm.2
  have hnm:∀ x ∈ es,x.1.name.size≤1000:=fun x hx=>by
   unfold ZdB at hsm
   rw [Bool.and_eq_true] at hsm
   have:=List.all_eq_true.1 hsm.1 x hx
   unfold fewB at this
   rw [Bool.and_eq_true,decide_eq_true_eq,decide_eq_true_eq] at this
   omega
  have HNM:=Zh hnm
  clear hsm hnm
  obtain ⟨s1,hs1⟩:∃ x:Nat,a0 % 1024=x:=⟨(a0 % 1024).toNat,by omega⟩
  have k1:bits .and .i64 a0 1023=(s1:Int):=(ZmP a0).trans hs1
  obtain ⟨n,hn⟩:∃ x,s1 % 513=x:=⟨_,rfl⟩
  have k2:(s1:Int).tmod 513=(n:Int):=by
   rw [Int.tmod_eq_emod_of_nonneg (by omega),←hn,Int.natCast_emod]
   rfl
  have hn5:n≤512:=by
   have:=Nat.mod_lt s1 (show 0<513 by decide)
   omega
  have hs1b:s1<1024:=by omega
  clear hs1 hn
  have KN:=Zh (fun (wx:World) (I':Hp) (l':List HP) (hst:St W I' wx l')=>ZjB hst)
  by_cases hln:(40:Int)<(s5.size:Int)
  ·have d0:decide ((40:Int)<(s5.size:Int))=true:=decide_eq_true hln
   clear KN
   go_enter Tryz.func4,Tryz.ntmps4
   go_wp2_with fail
   refine SML.out.mono ?_
   rintro e w2 ⟨rfl,hb2⟩
   have HK:=Zh (ZjB ((St.init W).keep hb2))
   clear hb2
   go_wp2_with fail
   refine HK.out.mono ?_
   rintro e w3 ⟨I3,hs3,rfl,h3⟩
   have H3:=Zh h3.below
   clear h3
   go_wp2_with fail
   go_ret
   exact ⟨rfl,H3.out⟩
  have d0:decide ((40:Int)<(s5.size:Int))=false:=decide_eq_false hln
  go_enter Tryz.func4,Tryz.ntmps4
  go_wp2_with fail
  refine SML.out.mono ?_
  rintro e w2 ⟨rfl,hb2⟩
  have H2:=Zh ((St.init W).keep hb2)
  clear hb2 SML
  go_wp2_with fail
  refine (Zmb a1 a2 a3 _).mono ?_
  rintro e w3 ⟨L,rfl,hL,hb3⟩
  have h3:=H2.out.keep hb3
  obtain ⟨S,F,_,_⟩:=Zkm 1048576 (by decide) (by decide) (size:=n) hL hn5
  have J:IJ S (newH n L) newR:=by
   rw [←F.eq]
   exact (ZnP hL hn5).2.2.2.1
  have HF:=Zh (Zjz 1048576 n L hL hn5 h3 F)
  have HJ:=Zh J
  clear h3 hb3 F J hL H2
  go_wp2_with fail
  refine HF.out.mono ?_
  rintro e w4 ⟨I4,hs4,p,q,rfl,h4,hk4⟩
  have H4S:=Zh h4
  have HK4:=Zh hk4
  have HS4:=Zh hs4
  clear h4 hk4 hs4 HF
  go_wp2_with fail
  go_loopw [19] (fun a19 wr=>∃ (k:Nat) (I':Hp) (S:Str) (h:Hd) (R:List RO),a19=.int .i64 k∧k≤es.length∧W.hp.sub I'∧IJ S h R∧Keeps S ((40 - k)*2080+4000)∧h.next≤1+k ∧
   St W I' wr (Zd p S::imgHP q p h::[])) (fun a19 _=>es.length - (intOf a19).toNat)
  case atStart=>exact ⟨0,I4,S,newH n L,newR,rfl,by omega,HS4.out,HJ.out,HK4.out.fewer (by omega),by show (1:Int)≤1+((0:Nat):Int);omega,H4S.out⟩
  case round =>
   obtain ⟨k,I',S,h,R,rfl,hk,hsub,J,hkp,hnx,hst⟩:=hrel
   clear H4S HK4 HJ HS4 k1 k2 hn5 hs1b
   by_cases hlt:k<es.length
   ·have d0:decide ((k:Int)<(es.length:Int))=true:=by rw [decide_eq_true_eq];omega
    obtain ⟨⟨e,ev⟩,hee⟩:∃ y,es[k]?=some y:=⟨_,List.getElem?_eq_getElem hlt⟩
    have hE:=EvsI.mono hsub H4.out
    have hev:=(hE.2 _ (List.mem_of_getElem? hee))
    have hen:=HNM.out _ (List.mem_of_getElem? hee)
    simp only [evOk] at hev hen
    obtain ⟨b,bo,e1,hc⟩:=ZbJ (i:=k) (mk:=ecell) (k:=5) hE.1 (Hp.sub.refl _) hst (fun _=>rfl) hee
    simp only [Value.slice.injEq,and_true,true_and] at e1
    subst e1
    obtain ⟨Ae,ce,rfl,_⟩:=hev.1.cap
    have hx:h.next<1073741824:=by omega
    have HDO:=Zh (Zn4 h R e (.slice Ae e.data.length ce) k (m:=(40 - (k+1))*2080+4000) hst J (hkp.fewer (by omega)) (by omega) hev.1 hev.2.1 (hkp.fewer (by omega)) hx)
    have HNX:=Zh hnx
    have HSUB:=Zh hsub
    obtain ⟨ek,eo,el,dt,nm⟩:=e
    have y0:wr.cell? ⟨b,bo+k*5,none⟩=some (.int .i64 ek):=hc 0 (by decide)
    have y1:wr.cell? ⟨b,bo+k*5+1,none⟩=some (.int .i64 eo):=hc 1 (by decide)
    have y2:wr.cell? ⟨b,bo+k*5+2,none⟩=some (.int .i64 el):=hc 2 (by decide)
    have y3:wr.cell? ⟨b,bo+k*5+3,none⟩=some (.slice Ae dt.length ce):=hc 3 (by decide)
    have y4:wr.cell? ⟨b,bo+k*5+4,none⟩=some (.string nm):=hc 4 (by decide)
    simp only [Ev.val] at HDO
    clear hee hE hev hen hc hx J hkp hnx hst hsub
    go_wp2_with fail
    refine HDO.out.mono ?_
    rintro x w3 ⟨I3,hs3,ans,rfl,S3,h3,R3,hst3,D3,J3,hk3⟩
    have HNX3:=Zh D3.next
    have HJ3:=Zh J3
    have HK3:=Zh hk3
    have HS3:=Zh (HSUB.out.trans hs3)
    have HST3:=Zh hst3
    clear J3 hk3 D3 hst3 hs3 HDO
    go_wp2_with fail
    go_roundw
    case rel=>exact ⟨k+1,I3,S3,h3,R3,by go_num,by omega,HS3.out,HJ3.out,HK3.out,by have h1:=HNX.out;have h2:=HNX3.out.1;omega,HST3.out⟩
    case measure=>first|(simp [intOf];done)|(simp [intOf];omega)|fail
   ·obtain rfl:k=es.length:=by omega
    have d0:decide (((es.length:Nat):Int)<(es.length:Int))=false:=by rw [decide_eq_false_iff_not];omega
    have HKP:=Zh (hkp.fewer (show 4000≤_ by omega))
    have HJ:=Zh J
    have HVW:=Zh (J.view h R hst hkp)
    clear J hkp hst hsub hnx hlt
    go_wp2_with fail
    refine HVW.out.mono ?_
    rintro e w2 ⟨I2,v,hs2,rfl,hv,h2⟩
    obtain ⟨vd,vs,M,rfl,hd,hr,ho⟩:=hv
    obtain ⟨A,c,rfl,_⟩:=hd.cap
    obtain ⟨B,d,rfl,_⟩:=hr.cap
    have hml:=ho.len
    have hvb:=VwB.view HJ.out.hd
    have h3:=h2.alloc (.cells #[.slice A (viewI h R).data.length c,.slice B M.length d] 35)
    obtain ⟨g,hg⟩:∃ g,w2.heap.size=g:=⟨_,rfl⟩
    rw [hg] at h3
    have HG:=Zh hg
    have H3:=Zh h3
    have HV:=Zh (show VwI I2 (.agg #[.slice A (viewI h R).data.length c,.slice B M.length d]) (viewI h R) from ⟨_,_,M,rfl,hd,hr,ho⟩)
    have HVB:=Zh hvb
    have HR:=Zh hr
    have HO:=Zh ho
    have HVN:=Zh (view_names R HJ.out.ok)
    obtain ⟨V,hV⟩:∃ V,viewI h R=V:=⟨_,rfl⟩
    have RD:=Zh (fun (wx:World) (Ix:Hp) (l':List HP) (nm:ByteArray) (off n:Int) (hst:St W Ix wx (Zd p S::imgHP q p h::l'))=>iread_spec h R nm off n hst HJ.out HKP.out)
    rw [hV] at HV HVB HO HVN RD H3 hml ⊢
    obtain ⟨ML,hML⟩:∃ x,M.length=x:=⟨_,rfl⟩
    rw [hML] at HV HR H3 hml ⊢
    have HMM:=Zh hML
    obtain ⟨VL,hVL⟩:∃ x,V.data.length=x:=⟨_,rfl⟩
    rw [hVL] at HV H3 ⊢
    have HML:=Zh hml
    clear h2 h3 hg hd hr ho hs2 HVW hvb hV hML hVL hml HJ HKP
    go_upto_region 12 with fail
    rw [HG.out]
    have h3:=H3.out
    generalize (World.alloc _ _:World)=w3 at h3 ⊢
    clear H3 HG
    have HRD:=Zh (RD.out _ _ _ s5 a6 a7 ((h3.pull 2 _ rfl).pull 2 _ rfl))
    clear h3
    go_wp2_with fail
    refine HRD.out.mono ?_
    rintro e w4 ⟨I4,hs4,x,rfl,hx,h4⟩
    have hst4:=h4.pull 2 _ rfl
    obtain ⟨y0,y1⟩:=Zq hst4
    have HRR:=Zh (rread14_spec V _ s5 a6 a7 hst4 (HV.out.mono hs4) HVB.out)
    obtain ⟨⟨rb,re⟩,hrb⟩:∃ x,readV V s5 a6 a7=x:=⟨_,rfl⟩
    rw [hrb] at HRR hx ⊢
    obtain ⟨AX,cX,rfl,_⟩:=hx.cap
    have HX:=Zh hx
    have HS4:=Zh hs4
    clear hst4 h4 hx hs4 hrb HRD
    simp only at HRR HX ⊢
    go_wp2_with fail
    refine HRR.out.mono ?_
    rintro e w5 ⟨I5,hs5b,y,rfl,hy,h5⟩
    simp only at hy ⊢
    obtain ⟨AY,cY,rfl,_⟩:=hy.cap
    have hx5:=(Zbv _ _).mono hs5b HX.out
    have d1:((0:Int)==0)=true:=by decide
    have d2:(re==re)=true:=by simp
    have q1:=Zdk (hx5.src h5.imm (Zac rb) (by decide))
    have q2:=Zdk (hy.src h5.imm (Zac rb) (by decide))
    have d3:((strOfNums rb).toList==(strOfNums rb).toList)=true:=by simp
    have HR5:=Zh (HR.out.mono (HS4.out.trans hs5b))
    have HO5:=Zh (HO.out.mono (HS4.out.trans hs5b))
    have H5:=Zh h5
    clear y0 y1
    clear hy hx5 hs5b h5 HRR HX HS4 HV HR HO
    go_wp2_with fail
    clear q1 q2 d1 d2 d3
    have hml8:ML≤8:=by have:=HVB.out.few;have:=HML.out;omega
    go_loopw [26] (fun a26 wr2=>∃ (j:Nat) (I':Hp),a26=.int .i64 j∧j≤ML∧I5.sub I'∧St W I' wr2 (HP.pt g (.cells #[.slice A VL c,.slice B ML d] 35)::Zd p S::imgHP q p h::[])) (fun a26 _=>ML - (intOf a26).toNat)
    case atStart=>exact ⟨0,I5,rfl,by omega,Hp.sub.refl _,H5.out⟩
    case round =>
     obtain ⟨j,I',rfl,hj,hsub,hst⟩:=hrel
     clear H5
     obtain ⟨y0,y1⟩:=Zq hst
     by_cases hlt:j<ML
     ·have d0:decide ((j:Int)<(ML:Int))=true:=by rw [decide_eq_true_eq];omega
      obtain ⟨⟨nm,dt⟩,he⟩:∃ y,V.snaps[j]?=some y:=⟨_,List.getElem?_eq_getElem (by have:=HML.out;omega)⟩
      obtain ⟨u,hu,hub⟩:=(HO5.out.mono hsub).at he
      simp only at hu hub
      obtain ⟨Au,cu,rfl,_⟩:=hub.cap
      have hrow:RowI I' 2 (.slice B M.length d) M.length (M.flatMap ocell):=by have:=RowI.mono hsub HR5.out;rw [←HMM.out] at this;exact this
      obtain ⟨b,bo,e1,hc⟩:=ZbJ (i:=j) (mk:=ocell) (k:=2) hrow (Hp.sub.refl _) hst.drew (fun _=>rfl) hu
      simp only [Value.slice.injEq,and_true,true_and] at e1
      subst e1
      have hcell:∀ (w':World) (I2:Hp) (l1:List HP),I'.sub I2→St W I2 w' (HP.pt g (.cells #[.slice A VL c,.slice (some ⟨b,bo,none⟩) ML d] 35)::l1)→(w'.cell? ⟨g,1,none⟩=some (.slice (some ⟨b,bo,none⟩) ML d)∧w'.cell? ⟨b,bo+j*2,none⟩=some (.string nm)∧w'.cell? ⟨b,bo+j*2+1,none⟩=some (.slice Au dt.length cu)):=fun w' I2 l1 hsb h1=>by
       obtain ⟨b',bo',e1,hc'⟩:=ZbJ (i:=j) (mk:=ocell) (k:=2) (RowI.mono hsb hrow) (Hp.sub.refl _) h1 (fun _=>rfl) hu
       simp only [Value.slice.injEq,Option.some.injEq,Addr.mk.injEq,and_true,true_and] at e1
       obtain ⟨rfl,rfl⟩:=e1
       exact ⟨(Zq h1).2,hc' 0 (by decide),hc' 1 (by decide)⟩
      have HCELL:=Zh hcell
      have Q0:=Zh (hcell _ _ _ (Hp.sub.refl _) hst.drew)
      have hrd:=RD.out _ _ _ nm 0 dt.length ((hst.drew.pull 2 _ rfl).pull 2 _ rfl)
      rw [readV_snap HVN.out.1 HVN.out.2 he] at hrd
      have HRD:=Zh hrd
      have HUB:=Zh hub
      have HSUB:=Zh hsub
      have hnj:(0:Int)≤(j:Int):=by omega
      clear hst hsub he hu hub hc hcell hrd y0 hrow
      go_upto_region 19 with fail
      obtain ⟨w6,hw6⟩:∃ x,x=wr.drew:=⟨_,rfl⟩
      rw [←hw6] at HRD Q0
      have HW6:=Zh hw6
      clear hw6
      refine ZcY (fun w'=>w'.cell? ⟨g,1,none⟩=some (.slice (some ⟨b,bo,none⟩) ML d)∧w'.cell? ⟨b,bo+j*2,none⟩=some (.string nm)∧w'.cell? ⟨b,bo+j*2+1,none⟩=some (.slice Au dt.length cu)) [0,1,2,3,4,5,6,7,8,9,10,11,12,13,14,15,16,17,18] (Tp.pull [0,1,2,3,4,5,6,7,8,9,10,11,12,13] (Tp.one 14 (Tp.pull [15,16,17,18] Tp.leaf))) [19] (by kernel_rfl) (by kernel_rfl) (by (rw [←HW6.out];exact Q0.out)) ?_
      rw [←HW6.out]
      unfold wpTp
      (try simp only [pickL,Zg,Zi])
      repeat (first|(refine Zs _ (Or.inl ⟨by rfl,by (intro w hSw;(try dsimp only at hSw);go_simp;try with_reducible rfl)⟩) ?_;(try simp only [Act.put,List.setIfInBounds_toArray,Zl,Zm]))|(refine Zs _ (Or.inr ⟨by rfl,rfl⟩) ?_;(try simp only [Act.put,List.setIfInBounds_toArray,Zl,Zm]))|fail)
      refine ZC ?_
      unfold wpTp
      (try simp only [pickL,Zg,Zi])
      clear y1
      go_wp2_with fail
      refine HRD.out.mono ?_
      rintro x w7 ⟨I7,hs7,v,rfl,hv,h7⟩
      simp only at hv ⊢
      obtain ⟨AV,cV,rfl,_⟩:=hv.cap
      have h8:=h7.pull 2 _ rfl
      have Q8:=Zh (HCELL.out _ _ _ hs7 h8)
      have hub7:=(Zbv _ _).mono hs7 HUB.out
      have HQ1:=Zh (fun (nq:Nat)=>Zdk (hv.src (h8.drewN nq).imm (Zac dt) (by decide)))
      have HQ2:=Zh (fun (nq:Nat)=>Zdk (hub7.src (h8.drewN nq).imm (Zac dt) (by decide)))
      have H8:=Zh h8
      have HS7:=Zh (HSUB.out.trans hs7)
      clear hv h7 h8 hub7 hs7 HRD Q0
      go_wp2_with fail
      refine Zt Q8.out ?_
      unfold wpTp
      (try simp only [pickL,Zg,Zi])
      repeat (first|(refine Zs _ (Or.inl ⟨by rfl,by (intro w hSw;(try dsimp only at hSw);go_simp;try with_reducible rfl)⟩) ?_;(try simp only [Act.put,List.setIfInBounds_toArray,Zl,Zm]))|(refine Zs _ (Or.inr ⟨by rfl,rfl⟩) ?_;(try simp only [Act.put,List.setIfInBounds_toArray,Zl,Zm]))|fail)
      refine ZC ?_
      unfold wpTp
      (try simp only [pickL,Zg,Zi])
      go_wp2_with fail
      refine NoPanic.normal ?_
      have q1:=HQ1.out
      have q2:=HQ2.out
      obtain ⟨y1,k0,k1⟩:=Q8.out
      have d2:((strOfNums dt).toList==(strOfNums dt).toList)=true:=by simp
      go_upto_region 20 with fail
      go_quiet (fail)
      have H9:=Zh (H8.out.drewN nq)
      clear q1 q2
      go_wp2_with fail
      go_roundw
      case rel=>exact ⟨j+1,I7,by go_num,by omega,HS7.out,H9.out⟩
      case measure=>first|(simp [intOf];done)|(simp [intOf];omega)|fail
     ·obtain rfl:j=ML:=by omega
      have d0:decide (((j:Nat):Int)<(j:Int))=false:=by rw [decide_eq_false_iff_not];omega
      have HK:=Zh (KN.out _ _ _ hst)
      clear hst hsub
      go_wp2_with fail
      refine HK.out.mono ?_
      rintro e w6 ⟨I6,hs6,rfl,h6⟩
      have H6:=Zh h6.below
      clear h6
      go_wp2_with fail
      go_ret
      exact ⟨rfl,H6.out⟩
end
end Go.Proofs.YtcbdghojlbpomaaGreat
namespace Go.Proofs.YtcbdghojlbpomaaGreat
open Go.RowKit Go.ChangeShapes Go.WideShapes Go.ChangeAt Go.Deep Go.Joins
set_option maxRecDepth 100000
section
variable {H : Type} {enc : TypeId × Value → H} {w : World} {base : Nat} {spare : Nat → Bool} {held : Bool}
theorem open_name {r:Reach} {b0:Nat} {v:Value} {d:DataW H} {p:List MemPlace} (hv:Value.okWide Tryz.prog w r b0 9 v) (h:DataW.Trod enc Tryz.prog w base spare held 9 v d p):∃ s:ByteArray,v=.string s∧s.size≤maxLen:=by
 obtain ⟨s,e,_,_,hs⟩:=Go.ChangeMaps.open_string Tryz.underlying9 hv h
 exact ⟨s,e,hs⟩
end
end Go.Proofs.YtcbdghojlbpomaaGreat
