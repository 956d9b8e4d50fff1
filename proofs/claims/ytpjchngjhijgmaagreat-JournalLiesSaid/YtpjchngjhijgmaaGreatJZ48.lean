import Derived.Test.YtpjchngjhijgmaaGreatJZ43
import Derived.Test.YtpjchngjhijgmaaGreatJZ44
import Derived.Test.YtpjchngjhijgmaaGreatJZ46
import Derived.Test.YtpjchngjhijgmaaGreatJZ47
set_option linter.all false
namespace Go.Proofs.YtpjchngjhijgmaaGreat
open Go.RowKit
section
variable {W w : World} {I : Hp} {l : List HP}
set_option maxRecDepth 4000
set_option maxHeartbeats 8000000
theorem Zq277 {ca cb:Code} {Q:Exit→Act→World→Prop} {K:Act→World→Prop} (hK:∀ x y,cb.wp Tryz.prog Q x y→K x y) (hC:(Tryz.f3).body.bind (fromR 12)=some (.seq ca cb)) {x0 x1 x2 x4 x5 x6 x7 x8 x9 x10 x15 x18 x19 x20 x21 x22 x23 x24 x25 x26 x27 x28 x29 x30 x31 x32 x33 x34 x35 x36 x37 x38 x39 x40 x41 x42 x43 x44 x45 x46 x47 x48 x49 x50 x51 x52 x53 x54 x55 x56 x57 x58 x59 x60 x61 x62 x63 x64 x65 x66 x67 x68 x69 x70 x71 x72 x73 x74 x75 x76 x77 x78 x79 x80 x81 x82 x83 x84 x85 x86 x87 x88 x89 x90 x91 x92 x93 x94 x95 x96 x97 x98 x99 x100 x101 x102 x103 x104 x105 x106 x107 x108 x109 x110 x111 x112 x113 x114 x115 x116 x117 x118 x119 x120 x121 x122 x123 x124 x125 x126 x127 x128 x129 x130 x131 x132 x133 x134 x135 x136 x137 x138 x139 x140 x141 x142 x143 x144 x145:Value} {g11 p k cP cR cN m:Nat} {at0:Int} {c:Rg} {ps:List (List Int)} {ns:List Int} {P:List Pl} {AP AR AN:Option Addr} {S:Str} {J:Jn}
  (h:St W I w (Zq19 (.slice AP P.length cP) P::Zq11 p S::HP.pt g11 (.cells #[.int .i64 c.splay,.int .i64 c.sets,.int .i64 c.size] 26)::l))
  (hR:RowsI I (.slice AR ps.length cR) ps) (hN:IntsI I (.slice AN ns.length cN) ns) (hns:ns=Zq104 ps) (hP:P=Zq133 c at0 ps) (hfd:Fd c at0 ps J k) (hj:JOK S J) (hk:Inv S m) (hat:0≤at0∧at0≤65535) (hn:ps.length≤100) (hp:∀ q ∈ ps,(1≤q.length∧q.length≤90)∧∀ y ∈ q,isByte y)
  (hQ:∀ (y0 y1 y2 y3 y4 y5 y6 y7 y8 y9 y10 y11 y12 y13 y14 y15 y16 y17 y18 y19 y20 y21 y22 y23 y24 y25 y26 y27 y28 y29 y30 y31 y32 y33 y34 y35 y36 y37 y38 y39 y40 y41 y42 y43 y44 y45 y46 y47 y48 y49 y50 y51 y52 y53 y54 y55 y56 y57 y58 y59 y60 y61 y62 y63 y64 y65 y66 y67 y68 y69 y70 y71 y72 y73 y74 y75 y76 y77 y78 y79 y80 y81 y82 y83 y84 y85 y86 y87 y88 y89 y90 y91 y92 y93 y94 y95 y96 y97 y98 y99 y100 y101 y102 y103 y104 y105 y106 y107 y108 y109 y110 y111 y112 y113 y114 y115 y116 y117 y118 y119 y120 y121 y122 y123 y124 y125 y126 y127 y128 y129 y130 y131 y132 y133 y134 y135 y136 y137 y138 y139 y140 y141 y142 y143 y144 y145:Value) (w':World),Below W.heap.size W w'→Q .normal ⟨#[y0,y1,y2,y3,y4,y5,y6,y7,y8,y9,y10,y11,y12,y13,y14,y15,y16,y17,y18,y19,y20,y21,y22,y23,y24,y25,y26,y27,y28,y29,y30,y31,y32,y33,y34,y35,y36,y37,y38,y39,y40,y41,y42,y43,y44,y45,y46,y47,y48,y49,y50,y51,y52,y53,y54,y55,y56,y57,y58,y59,y60,y61,y62,y63,y64,y65,y66,y67,y68,y69,y70,y71,y72,y73,y74,y75,y76,y77,y78,y79,y80,y81,y82,y83,y84,y85,y86,y87,y88,y89,y90,y91,y92,y93,y94,y95,y96,y97,y98,y99,y100,y101,y102,y103,y104,y105,y106,y107,y108,y109,y110,y111,y112,y113,y114,y115,y116,y117,y118,y119,y120,y121,y122,y123,y124,y125,y126,y127,y128,y129,y130,y131,y132,y133,y134,y135,y136,y137,y138,y139,y140,y141,y142,y143,y144,y145],[]⟩ w') :
  ca.wp Tryz.prog (Exit.then K Q) ⟨#[x0,x1,x2,.int .i64 at0,x4,x5,x6,x7,x8,x9,x10,.pointer (some ⟨g11,0,none⟩),.slice AR ps.length cR,.slice AN ns.length cN,.pointer (some ⟨p,0,none⟩),x15,.int .i64 k,.slice AP P.length cP,x18,x19,x20,x21,x22,x23,x24,x25,x26,x27,x28,x29,x30,x31,x32,x33,x34,x35,x36,x37,x38,x39,x40,x41,x42,x43,x44,x45,x46,x47,x48,x49,x50,x51,x52,x53,x54,x55,x56,x57,x58,x59,x60,x61,x62,x63,x64,x65,x66,x67,x68,x69,x70,x71,x72,x73,x74,x75,x76,x77,x78,x79,x80,x81,x82,x83,x84,x85,x86,x87,x88,x89,x90,x91,x92,x93,x94,x95,x96,x97,x98,x99,x100,x101,x102,x103,x104,x105,x106,x107,x108,x109,x110,x111,x112,x113,x114,x115,x116,x117,x118,x119,x120,x121,x122,x123,x124,x125,x126,x127,x128,x129,x130,x131,x132,x133,x134,x135,x136,x137,x138,x139,x140,x141,x142,x143,x144,x145],[]⟩ w:=by
 injection hC with hC
 injection hC with hC1 hC2
 subst hC1 hC2
 have hPl:P.length=ps.length:=by rw [hP];unfold Zq133;rw [Zq225,Zq224]
 have hnl:ns.length=ps.length:=by rw [hns,Zq224]
 have HPL:=Zh hPl
 have HNL:=Zh hnl
 have HNF:=Zh (show ∀ n ∈ ns,0≤n∧n≤90 by rw [hns];exact fun n hn=>by have:=Zq352 hp n hn;omega)
 have HRD:=Zh (fun (i:Nat) (y:List Int) (hi:i<k) (hy:ps[i]?=some y)=>hfd.read hj hat.1 hi hy)
 rw [←hP,←hns] at HRD
 have H0:=Zh h
 have HR:=Zh hR
 have HNI:=Zh hN
 have HPF:=Zh hp
 have HK:=Zh hk
 have HQ:=Zh hQ
 have HLE:=Zh hfd.le
 have hk1:(k:Int)≤100:=by have:=hfd.le;omega
 clear h hR hN hp hQ hPl hnl hns hP hfd hj hk
 go_wp2_with fail
 go_loopw [18] (fun a18 wr=>∃ (i:Nat) (I':Hp),a18=.int .i64 i∧i≤k∧I.sub I'∧St W I' wr (Zq19 (.slice AP P.length cP) P::Zq11 p S::HP.pt g11 (.cells #[.int .i64 c.splay,.int .i64 c.sets,.int .i64 c.size] 26)::l)) (fun a18 _=>k - (intOf a18).toNat)
 case atStart=>exact ⟨0,I,rfl,Nat.zero_le _,Hp.sub.refl _,H0.out⟩
 case round =>
  obtain ⟨i,I2,rfl,hi,hs2,h2⟩:=hrel
  clear H0
  by_cases hlt:i<k
  ·have d0:decide ((i:Int)<(k:Int))=true:=decide_eq_true (by omega)
   have hlt2:i<ps.length:=by have:=HLE.out;omega
   obtain ⟨y,hy⟩:∃ y,ps[i]?=some y:=⟨_,List.getElem?_eq_getElem (by have:=HLE.out;omega)⟩
   obtain ⟨q,hq1,hq2,hq3,hq4,hq5⟩:=HRD.out i y hlt hy
   obtain ⟨b,off,A',c',rfl,hyb,hyc⟩:=(HR.out.mono hs2).cells hy
   obtain ⟨hy1,hy2⟩:=HPF.out y (List.mem_of_getElem? hy)
   have HSEAT:=Zh (Zq595 c AP cP P AN cN ns i q h2 (RowI.mono hs2 HNI.out) hq1 (by rw [HNL.out,HPL.out]) HNF.out (by rw [HPL.out];omega))
   obtain ⟨sa,hsa⟩:∃ x,x=Zq158 P ns q i:=⟨_,rfl⟩
   rw [←hsa] at hq3 hq4 HSEAT
   unfold Rg.val at HSEAT
   obtain ⟨F,hF⟩:∃ F,F=Zq23 ⟨1,at0+1+i,y⟩:=⟨_,rfl⟩
   rw [←hF] at hq4 hq5
   have HFR:=Zh hF
   have HSA:=Zh hq3
   have HRE:=Zh hq4
   have HFL:=Zh hq5
   have HYB:=Zh hyb
   have HY2:=Zh hy2
   have HY1:=Zh hy1
   have HS2:=Zh hs2
   have HYC:=Zh (fun (I':Hp) (w':World) (L:List HP) (hs:I2.sub I') (hw':St W I' w' L)=>hyc hs hw')
   obtain ⟨w2,hw2⟩:∃ x,x=wr:=⟨_,rfl⟩
   rw [←hw2] at h2 HSEAT ⊢
   obtain ⟨z0,z1,z2⟩:=Zq41 (h2.pull 2 _ rfl)
   clear hw2 h2 hs2 hy hq1 hq2 hq3 hq4 hq5 hyb hyc hy1 hy2 hsa hF
   go_wp2_with fail
   refine HSEAT.out.mono ?_
   rintro e w3 ⟨rfl,h3⟩
   have h4:=h3.alloc (.cells #[.int .i64 2,.int .i64 0,.int .i64 (rnum c q),.int .i64 0] 43)
   obtain ⟨g19,hg19⟩:∃ g,g=w3.heap.size:=⟨_,rfl⟩
   rw [←hg19] at h4
   have H4:=Zh h4
   clear h3 h4 z0 z1 z2 HSEAT
   go_upto_region 16 with fail
   have h4:=H4.out
   rw [←hg19]
   generalize (World.alloc _ _:World)=w4 at h4 ⊢
   have yc:=HYC.out _ _ _ (Hp.sub.refl _) h4
   have hw1:IntKind.i64.wrap (at0+1)=at0+1:=by rw [IntKind.wrap_i64];omega
   have hw2:IntKind.i64.wrap (at0+1+i)=at0+1+i:=by rw [IntKind.wrap_i64];omega
   have hlay:=Zq861 1 (at0+1+i) y A' c' w4 (by
    unfold mayF
    rw [decide_eq_true_eq]
    have:=HY1.out
    omega) (Zq30 h4 HYB.out) HY2.out
   have HLAY:=Zh hlay
   have H5:=Zh h4
   clear h4 hlay H4 hg19
   go_wp2_with fail
   refine HLAY.out.mono ?_
   rintro e w6 ⟨A6,c6,q6,rfl,hq6,h6⟩
   rw [←HFR.out] at hq6
   subst hq6
   have hb6:=h6.below
   have hsrc6:=SliceSrc.of_owns h6.row_owns (Zq56 q6)
   have h7:=H5.out.keep hb6
   have HRD6:=Zh (Zq373 ⟨2,0,rnum c q,0⟩ sa q6.length (h7.pull 2 _ rfl) HK.out)
   have HRE6:readS S ⟨2,0,rnum c q,0⟩ sa q6.length=(q6,0):=HRE.out
   rw [HRE6] at HRD6
   simp only [K4.val] at HRD6
   obtain ⟨z0,z1,z2,z3⟩:=Zq255 h7
   have HSRC:=Zh hsrc6
   have H7:=Zh h7
   clear h6 hb6 hsrc6 h7 yc H5 HLAY HRE6 HRE
   go_wp2_with fail
   refine HRD6.out.mono ?_
   rintro e w8 ⟨hb8,v8,rfl,ho8⟩
   obtain ⟨A8,c8,rfl⟩:=Zq17 ho8
   have hs8:=HSRC.out.below hb8
   have hc1:=Zq90 hs8
   have hc2:=Zq90 (SliceSrc.of_owns ho8 (Zq56 q6))
   have h8:=H7.out.keep hb8
   have H8:=Zh h8
   clear hs8 h8 ho8 hb8 z0 z1 z2 z3 H7 HSRC HRD6
   go_wp2_with fail
   go_roundw
   case rel=>exact ⟨i+1,I2,by go_num,by omega,HS2.out,H8.out.drop⟩
   case measure=>first|(simp [intOf];done)|(simp [intOf];omega)|fail
  ·obtain rfl:i=k:=by omega
   have d0:decide ((i:Int)<(i:Int))=false:=decide_eq_false (by omega)
   have HB:=Zh h2.below
   clear h2 hs2
   go_wp2_with fail
   exact HQ.out _ _ _ _ _ _ _ _ _ _ _ _ _ _ _ _ _ _ _ _ _ _ _ _ _ _ _ _ _ _ _ _ _ _ _ _ _ _ _ _ _ _ _ _ _ _ _ _ _ _ _ _ _ _ _ _ _ _ _ _ _ _ _ _ _ _ _ _ _ _ _ _ _ _ _ _ _ _ _ _ _ _ _ _ _ _ _ _ _ _ _ _ _ _ _ _ _ _ _ _ _ _ _ _ _ _ _ _ _ _ _ _ _ _ _ _ _ _ _ _ _ _ _ _ _ _ _ _ _ _ _ _ _ _ _ _ _ _ _ _ _ _ _ _ _ _ _ HB.out
theorem Zq791 (c:Rg) (at':Int) (An:Option Addr) (cn:Nat) (ns:List Int) (h:St W I w l) (hI:IntsI I (.slice An ns.length cn) ns) (hc:c.okB=true) (hat:0≤at'∧at'≤70000) (hn:∀ n ∈ ns,1≤n∧n≤90) (hl:ns.length≤200) :
  Calls Tryz.prog 20 #[c.val,.int .i64 at',.slice An ns.length cn] w fun e w'=>∃ (A':Option Addr) (c':Nat) (P:List Pl),P=setsP c ⟨0,0,0,0,0⟩ (at'+1) ns∧e=.returned (.slice A' P.length c')∧St W I w' (Zq19 (.slice A' P.length c') P::l):=by
 refine (Zq788 c at' An cn ns h hI hc hat hn hl).mono ?_
 rintro e w' ⟨A',c',rfl,h1⟩
 have e1:(setsP c ⟨0,0,0,0,0⟩ (at'+1) ns).length=ns.length:=Zq225 _ _ _ _
 exact ⟨A',c',_,rfl,by rw [e1],by rw [e1];exact h1⟩
theorem journalLies_walk (a b c a3:Int) (v:Value) (ls:List (List Int)) (W:World) (hr:RowsI W.hp v ls) (hl:ls.length≤maxLen) :
  Calls Tryz.prog 3 #[.int .i64 a,.int .i64 b,.int .i64 c,.int .i64 a3,v] W fun e w'=>e=.returned (.bool true)∧Below W.heap.size W w':=by
 obtain ⟨A0,c0,rfl,hcl,hcm,hcz⟩:=hr.slice
 clear hcl hcm hcz hl
 have HSH:=Zh (Zq307 _ ls 70 100 W hr)
 have HBY:=Zh (show ∀ p ∈ ls,∀ y ∈ p,isByte y by obtain ⟨_,_,_,_,hq⟩:=hr;exact fun p hp=>(hq p hp).1)
 have HR0:=Zh hr
 clear hr
 obtain ⟨sh,hsh⟩:∃ x,x=Zq317 ls 70 100:=⟨_,rfl⟩
 rw [←hsh] at HSH
 have HSV:=Zh hsh
 clear hsh
 go_enter Tryz.func3,Tryz.ntmps3
 go_wp2_with fail
 refine HSH.out.mono ?_
 rintro e w1 ⟨rfl,rfl⟩
 clear HSH
 cases sh with
 | false =>
  go_wp2_with fail
  refine (Zq64 _).mono ?_
  rintro e w9 ⟨rfl,hb9⟩
  have HB9:=Zh hb9
  clear hb9
  go_wp2_with fail
  go_ret
  exact ⟨rfl,HB9.out⟩
 | true =>
  have hn70:ls.length≤70:=by
   have:=HSV.out
   unfold Zq317 at this
   have:=(Bool.and_eq_true_iff.1 this.symm).2
   rw [decide_eq_true_eq] at this
   omega
  obtain ⟨C,hC⟩:∃ x,x=ringK a b c:=⟨_,rfl⟩
  have HCO:=Zh (show C.okB=true by rw [hC];exact Zq707 a b c)
  have hrk:=Zq556 a b c W
  rw [←hC] at hrk
  unfold Rg.val at hrk
  have HRK:=Zh hrk
  clear hrk hC
  go_wp2_with fail
  refine HRK.out.mono ?_
  rintro e w2 ⟨rfl,hb2⟩
  have h2:=((St.init W).keep hb2).alloc (.cells #[.int .i64 C.splay,.int .i64 C.sets,.int .i64 C.size] 26)
  obtain ⟨g11,hg11⟩:∃ g,g=w2.heap.size:=⟨_,rfl⟩
  rw [←hg11] at h2
  have H2:=Zh h2
  obtain ⟨at0,ha0⟩:∃ x,a3 % 65536=x:=⟨_,rfl⟩
  have hat:0≤at0∧at0≤65535:=by omega
  have hand:bits .and .i64 a3 65535=at0:=(Zq278 a3).trans ha0
  have HG:=Zh (Zq560 HCO.out hat)
  have HROWS:=Zh (Zq241 _ ls h2 HR0.out (by omega))
  clear h2 hb2 ha0 HRK
  go_upto_region 4 with fail
  rw [←hg11]
  have h2:=H2.out
  generalize (World.alloc _ _:World)=w3 at h2 HROWS ⊢
  clear h2 H2 hg11
  go_wp2_with fail
  refine HROWS.out.mono ?_
  rintro e w4 ⟨I4,A4,c4,A5,c5,ps,ns,hs4,hps,hns,rfl,hr4,hi4,h4⟩
  have hpf:∀ p ∈ ps,(1≤p.length∧p.length≤90)∧∀ y ∈ p,isByte y:=by rw [hps];exact Zq242 HBY.out
  have hpl:ps.length≤70:=by rw [hps,List.length_map];exact hn70
  obtain ⟨vs,hvl,hvr,hvb,_⟩:=id hr4
  have hfil:=Zq260 C at0 (.slice A4 ps.length c4) ps vs h4 hvr (fun i p hp=>by
   obtain ⟨x,hx⟩:∃ x,vs[i]?=some x:=⟨_,List.getElem?_eq_getElem (by have:=(List.getElem?_eq_some_iff.1 hp).1;omega)⟩
   exact ⟨x,hx,hvb i x p hx hp⟩) hpf (by omega) HG.out
  unfold Rg.val at hfil
  have HFIL:=Zh hfil
  have HPF:=Zh hpf
  have HR4:=Zh hr4
  have HI4:=Zh hi4
  have HNS:=Zh hns
  obtain ⟨z0,z1,z2⟩:=Zq41 h4
  clear hfil hpf hr4 hi4 hns hs4 hps h4 hvl hvr hvb HROWS HR0 HBY HSV
  go_wp2_with fail
  refine HFIL.out.mono ?_
  rintro e w5 ⟨I5,p,q,S,J,k,hs5,rfl,h5,hj5,ha5,hk5,S0,hj0,ha0,hf0⟩
  obtain ⟨hfd,hsafe,_,_⟩:=Zq709 HG.out hj0 ha0 HPF.out (by omega) hf0
  obtain ⟨S6,hbe,hfl,hj6,ha6,hw6,_⟩:=hj5.flush_calm ha5
  have hflu:=Zq234 h5 hk5 hj5.jb
  rw [hfl] at hflu
  have HFLU:=Zh hflu
  have HS5:=Zh hs5
  have HJ6:=Zh hj6
  have HW6:=Zh hw6
  have HFD:=Zh hfd.safed
  have HEND:=Zh (show (safeJ J).safe=at0+k from hfd.end)
  have HK6:=Zh (show Keeps S6 90000 by have:=Zq76 hk5;rwa [hbe] at this)
  clear hs5 h5 hj5 ha5 hk5 hj0 ha0 hf0 hfd hsafe hfl hj6 ha6 hw6 hflu z0 z1 z2 HFIL
  go_wp2_with fail
  refine HFLU.out.mono ?_
  rintro e w6 ⟨I6,hs6,rfl,h6⟩
  have HSF:=Zh (Zq428 (h6.pull 1 _ rfl) HJ6.out.jb)
  have H6:=Zh h6
  have HS6:=Zh (HS5.out.trans hs6)
  clear h6 hs6 HFLU
  rw [HEND.out] at HSF
  have hw1:IntKind.i64.wrap (at0+k)=at0+k:=by rw [IntKind.wrap_i64];have:=HFD.out.le;omega
  go_wp2_with fail
  refine HSF.out.mono ?_
  rintro e w7 ⟨rfl,hb7⟩
  have h7:=H6.out.keep hb7
  have HWT:=Zh (Zq829 h7)
  rw [HW6.out] at HWT
  have H7:=Zh h7
  clear h7 hb7 HSF H6
  go_wp2_with fail
  refine HWT.out.mono ?_
  rintro e w8 ⟨rfl,rfl⟩
  have h7:=H7.out
  have HSE:=Zh (Zq791 C at0 A5 c5 ns h7 (RowI.mono HS6.out HI4.out) HCO.out (by omega) (by rw [HNS.out];exact Zq352 HPF.out) (by rw [HNS.out,Zq224];omega))
  unfold Rg.val at HSE
  obtain ⟨z0,z1,z2⟩:=Zq41 (h7.pull 2 _ rfl)
  clear h7 HWT
  go_wp2_with fail
  refine HSE.out.mono ?_
  rintro e w9 ⟨A9,c9,P,hP,rfl,h9⟩
  have hP':P=Zq133 C at0 ps:=by rw [hP,HNS.out];rfl
  have hPl:P.length=ps.length:=by rw [hP'];unfold Zq133;rw [Zq225,Zq224]
  have HPL:=Zh hPl
  have HPE:=Zh hP'
  have hle:=HFD.out.le
  have HBY2:=Zh (fun hk=>HFD.out.beyond HJ6.out HPF.out (by omega) hk)
  have HWI:=Zh (fun (i:Nat) (hi:i<k)=>HFD.out.within HJ6.out hi)
  rw [←hP'] at HBY2 HWI
  have H9:=Zh h9
  have HKI:=Zh HK6.out.inv
  clear hP hP' hPl h9 z0 z1 z2 hle H7
  go_upto_region 10 with fail
  have hle:=HFD.out.le
  have h9:=H9.out
  clear H9
  obtain ⟨z0,z1,z2⟩:=Zq41 (h9.pull 3 _ rfl)
  by_cases hkl:k<ps.length
  ·have d1:decide ((k:Int)<(ps.length:Int))=true:=decide_eq_true (by omega)
   cases k with
   | zero =>
    obtain ⟨q1,hq1,hq2⟩:=HBY2.out (by omega)
    obtain ⟨g1,o1,cc1,e1,hg1,hnc1,y0,y1⟩:=h9.places_cell hq1
    simp only [Value.slice.injEq] at e1
    obtain ⟨rfl,hx1,hx2⟩:=e1
    clear hx1 hx2 hnc1
    have d2:decide (q1.set<C.sets)=false:=decide_eq_false (by omega)
    have hkP:0<P.length:=by rw [HPL.out];omega
    clear hq1 hq2
    have e1:0<ps.length:=by omega
    simp only [Nat.zero_mul,Nat.add_zero] at y0 y1
    have e2:decide ((0:Int)<(ps.length:Int))=true:=decide_eq_true (by omega)
    have e3:decide (0<ps.length)=true:=decide_eq_true e1
    have H9:=Zh h9
    clear h9 hle
    go_quiet (fail)
    have h10:=H9.out.drewN nq
    generalize (World.drewN _ _:World)=w10 at h10 ⊢
    have h11:=((h10.pull 2 _ rfl).drop)
    clear h10
    go_upto_region 12 with fail
    refine Zq277 (by assumption) (by kernel_rfl) h11 (HR4.out.mono HS6.out) (RowI.mono HS6.out HI4.out) HNS.out HPE.out HFD.out HJ6.out HKI.out hat (by omega) HPF.out ?_
    intro _ _ _ _ _ _ _ _ _ _ _ _ _ _ _ _ _ _ _ _ _ _ _ _ _ _ _ _ _ _ _ _ _ _ _ _ _ _ _ _ _ _ _ _ _ _ _ _ _ _ _ _ _ _ _ _ _ _ _ _ _ _ _ _ _ _ _ _ _ _ _ _ _ _ _ _ _ _ _ _ _ _ _ _ _ _ _ _ _ _ _ _ _ _ _ _ _ _ _ _ _ _ _ _ _ _ _ _ _ _ _ _ _ _ _ _ _ _ _ _ _ _ _ _ _ _ _ _ _ _ _ _ _ _ _ _ _ _ _ _ _ _ _ _ _ _ w12 hb12
    go_wp2_with fail
    refine (Zq64 _).mono ?_
    rintro e w13 ⟨rfl,hb13⟩
    have HB13:=Zh (hb12.trans (hb13.mono hb12.size))
    clear hb13 hb12
    go_wp2_with fail
    go_ret
    exact ⟨rfl,HB13.out⟩
   | succ j =>
    obtain ⟨q1,hq1,hq2⟩:=HBY2.out (by omega)
    obtain ⟨g1,o1,cc1,e1,hg1,hnc1,y0,y1⟩:=h9.places_cell hq1
    simp only [Value.slice.injEq] at e1
    obtain ⟨rfl,hx1,hx2⟩:=e1
    clear hx1 hx2 hnc1
    have d2:decide (q1.set<C.sets)=false:=decide_eq_false (by omega)
    have hkP:j+1<P.length:=by rw [HPL.out];omega
    clear hq1 hq2
    obtain ⟨q2,hq1,_,⟨hq2,hq3⟩,_⟩:=HWI.out j (by omega)
    obtain ⟨g2,o2,cc2,e1,hg2,hnc1,u0,u1⟩:=h9.places_cell hq1
    simp only [Value.slice.injEq,Option.some.injEq,Addr.mk.injEq,and_true] at e1
    obtain ⟨⟨rfl,rfl⟩,hx1,hx2⟩:=e1
    clear hx1 hx2 hnc1
    have d4:decide (C.sets≤q2.set)=false:=decide_eq_false (by omega)
    have hkP2:j<P.length:=by rw [HPL.out];have:=HFD.out.le;omega
    have hw3:IntKind.i64.wrap ((j:Int)+1 - 1)=j:=by rw [IntKind.wrap_i64];omega
    have hw4:IntKind.i64.wrap (j:Int)=j:=by rw [IntKind.wrap_i64];omega
    clear hq1 hq2 hq3
    have e1:j+1<ps.length:=hkl
    have e2:decide ((j:Int)+1<(ps.length:Int))=true:=decide_eq_true (by omega)
    have e3:decide (j+1<ps.length)=true:=decide_eq_true e1
    have e4:decide ((0:Int)<(j:Int)+1)=true:=decide_eq_true (by omega)
    have H9:=Zh h9
    clear h9 hle
    go_quiet (fail)
    have h10:=H9.out.drewN nq
    generalize (World.drewN _ _:World)=w10 at h10 ⊢
    have h11:=((h10.pull 2 _ rfl).drop)
    clear h10
    go_upto_region 12 with fail
    refine Zq277 (by assumption) (by kernel_rfl) h11 (HR4.out.mono HS6.out) (RowI.mono HS6.out HI4.out) HNS.out HPE.out HFD.out HJ6.out HKI.out hat (by omega) HPF.out ?_
    intro _ _ _ _ _ _ _ _ _ _ _ _ _ _ _ _ _ _ _ _ _ _ _ _ _ _ _ _ _ _ _ _ _ _ _ _ _ _ _ _ _ _ _ _ _ _ _ _ _ _ _ _ _ _ _ _ _ _ _ _ _ _ _ _ _ _ _ _ _ _ _ _ _ _ _ _ _ _ _ _ _ _ _ _ _ _ _ _ _ _ _ _ _ _ _ _ _ _ _ _ _ _ _ _ _ _ _ _ _ _ _ _ _ _ _ _ _ _ _ _ _ _ _ _ _ _ _ _ _ _ _ _ _ _ _ _ _ _ _ _ _ _ _ _ _ _ w12 hb12
    go_wp2_with fail
    refine (Zq64 _).mono ?_
    rintro e w13 ⟨rfl,hb13⟩
    have HB13:=Zh (hb12.trans (hb13.mono hb12.size))
    clear hb13 hb12
    go_wp2_with fail
    go_ret
    exact ⟨rfl,HB13.out⟩
  ·have d1:decide ((k:Int)<(ps.length:Int))=false:=decide_eq_false (by omega)
   cases k with
   | zero =>
    have e2:decide ((0:Int)<(ps.length:Int))=false:=decide_eq_false (by omega)
    have e3:decide (0<ps.length)=false:=decide_eq_false hkl
    have H9:=Zh h9
    clear h9 hle
    go_quiet (fail)
    have h10:=H9.out.drewN nq
    generalize (World.drewN _ _:World)=w10 at h10 ⊢
    have h11:=((h10.pull 2 _ rfl).drop)
    clear h10
    go_upto_region 12 with fail
    refine Zq277 (by assumption) (by kernel_rfl) h11 (HR4.out.mono HS6.out) (RowI.mono HS6.out HI4.out) HNS.out HPE.out HFD.out HJ6.out HKI.out hat (by omega) HPF.out ?_
    intro _ _ _ _ _ _ _ _ _ _ _ _ _ _ _ _ _ _ _ _ _ _ _ _ _ _ _ _ _ _ _ _ _ _ _ _ _ _ _ _ _ _ _ _ _ _ _ _ _ _ _ _ _ _ _ _ _ _ _ _ _ _ _ _ _ _ _ _ _ _ _ _ _ _ _ _ _ _ _ _ _ _ _ _ _ _ _ _ _ _ _ _ _ _ _ _ _ _ _ _ _ _ _ _ _ _ _ _ _ _ _ _ _ _ _ _ _ _ _ _ _ _ _ _ _ _ _ _ _ _ _ _ _ _ _ _ _ _ _ _ _ _ _ _ _ _ w12 hb12
    go_wp2_with fail
    refine (Zq64 _).mono ?_
    rintro e w13 ⟨rfl,hb13⟩
    have HB13:=Zh (hb12.trans (hb13.mono hb12.size))
    clear hb13 hb12
    go_wp2_with fail
    go_ret
    exact ⟨rfl,HB13.out⟩
   | succ j =>
    obtain ⟨q2,hq1,_,⟨hq2,hq3⟩,_⟩:=HWI.out j (by omega)
    obtain ⟨g2,o2,cc2,e1,hg2,hnc1,u0,u1⟩:=h9.places_cell hq1
    simp only [Value.slice.injEq] at e1
    obtain ⟨rfl,hx1,hx2⟩:=e1
    clear hx1 hx2 hnc1
    have d4:decide (C.sets≤q2.set)=false:=decide_eq_false (by omega)
    have hkP2:j<P.length:=by rw [HPL.out];have:=HFD.out.le;omega
    have hw3:IntKind.i64.wrap ((j:Int)+1 - 1)=j:=by rw [IntKind.wrap_i64];omega
    have hw4:IntKind.i64.wrap (j:Int)=j:=by rw [IntKind.wrap_i64];omega
    clear hq1 hq2 hq3
    have e2:decide ((j:Int)+1<(ps.length:Int))=false:=decide_eq_false (by omega)
    have e3:decide (j+1<ps.length)=false:=decide_eq_false hkl
    have e4:decide ((0:Int)<(j:Int)+1)=true:=decide_eq_true (by omega)
    have H9:=Zh h9
    clear h9 hle
    go_quiet (fail)
    have h10:=H9.out.drewN nq
    generalize (World.drewN _ _:World)=w10 at h10 ⊢
    have h11:=((h10.pull 2 _ rfl).drop)
    clear h10
    go_upto_region 12 with fail
    refine Zq277 (by assumption) (by kernel_rfl) h11 (HR4.out.mono HS6.out) (RowI.mono HS6.out HI4.out) HNS.out HPE.out HFD.out HJ6.out HKI.out hat (by omega) HPF.out ?_
    intro _ _ _ _ _ _ _ _ _ _ _ _ _ _ _ _ _ _ _ _ _ _ _ _ _ _ _ _ _ _ _ _ _ _ _ _ _ _ _ _ _ _ _ _ _ _ _ _ _ _ _ _ _ _ _ _ _ _ _ _ _ _ _ _ _ _ _ _ _ _ _ _ _ _ _ _ _ _ _ _ _ _ _ _ _ _ _ _ _ _ _ _ _ _ _ _ _ _ _ _ _ _ _ _ _ _ _ _ _ _ _ _ _ _ _ _ _ _ _ _ _ _ _ _ _ _ _ _ _ _ _ _ _ _ _ _ _ _ _ _ _ _ _ _ _ _ w12 hb12
    go_wp2_with fail
    refine (Zq64 _).mono ?_
    rintro e w13 ⟨rfl,hb13⟩
    have HB13:=Zh (hb12.trans (hb13.mono hb12.size))
    clear hb13 hb12
    go_wp2_with fail
    go_ret
    exact ⟨rfl,HB13.out⟩
end
end Go.Proofs.YtpjchngjhijgmaaGreat
