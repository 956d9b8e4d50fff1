import Derived.Test.YtcbdghojlbpomaaGreatIF23
import Derived.Test.YtcbdghojlbpomaaGreatIF20
set_option linter.all false
set_option maxRecDepth 4000
set_option maxHeartbeats 8000000
open Go.RowKit
open Go.IntKind (i64 u64)
open Go.Value (int pointer slice)
open Go.Obj (cells)
namespace Go.Proofs.YtcbdghojlbpomaaGreat
open Tryz
open HP (pt mapOf)
variable {W w w':World} {I:Hp} {l:List HP}
section
variable {p : Nat} {S : Str}
theorem ZiY (img num newest off n:Int) {m:Nat} (h:St W I w (Zd p S::l)) (hk:Keeps S (m+16)) :
  Calls prog 149 #[pointer (some ⟨p,0,none⟩),int i64 img,int i64 num,int i64 newest,int i64 off,int i64 n] w (DoesE W I p l (ZbC S img num newest off n)):=by
 have hm:=fun b=>Zdp b h;have HM:=Zh hm;have H:=Zh h;have HK:=Zh hk;clear hm h hk;cases g0:objB img num with
 | false =>
  have hf:(objB img num&&snapB newest&&ZG off n)=false:=by rw [g0] <;> simp
  have HX:=Zh (show ZbC S img num newest off n=((cmayS S false),S) by unfold ZbC;rw [hf,Zb (Zab S)]);have hm:=HM.o false;have hne:(cmayS S false != 0)=true:=by simpa using Zab S
  obtain ⟨e0,he0⟩:∃ e0,cmayS S false=e0:=⟨_,rfl⟩;rw [he0] at hm hne HX;have HMF:=Zh hm;clear hm hf he0;have hg0:=ZaE img num w;rw [g0] at hg0;have HG0:=Zh hg0;clear hg0;go_enter func149,ntmps149;go_wp2_with fail;refine HG0.o.mono ?_;rintro e w2 ⟨rfl,rfl⟩;go_wp2_with fail;refine HMF.o.mono ?_;rintro e w2 ⟨rfl,rfl⟩;go_wp2;go_ret;rw [HX.o];exact ⟨I,Hp.sub.refl _,rfl,H.o⟩
 | true =>
  cases g1:snapB newest with
  | false =>
   have hf:(objB img num&&snapB newest&&ZG off n)=false:=by rw [g0,g1] <;> simp
   have HX:=Zh (show ZbC S img num newest off n=((cmayS S false),S) by unfold ZbC;rw [hf,Zb (Zab S)]);have hm:=HM.o false;have hne:(cmayS S false != 0)=true:=by simpa using Zab S
   obtain ⟨e0,he0⟩:∃ e0,cmayS S false=e0:=⟨_,rfl⟩;rw [he0] at hm hne HX;have HMF:=Zh hm;clear hm hf he0;have hg0:=ZaE img num w;rw [g0] at hg0;have HG0:=Zh hg0;clear hg0;have hg1:=Za5 newest w;rw [g1] at hg1;have HG1:=Zh hg1;clear hg1;go_enter func149,ntmps149;go_wp2_with fail;refine HG0.o.mono ?_;rintro e w2 ⟨rfl,rfl⟩;go_wp2_with fail;refine HG1.o.mono ?_;rintro e w2 ⟨rfl,rfl⟩;go_wp2_with fail;refine HMF.o.mono ?_;rintro e w2 ⟨rfl,rfl⟩;go_wp2;go_ret;rw [HX.o];exact ⟨I,Hp.sub.refl _,rfl,H.o⟩
  | true =>
   cases g2:ZG off n with
   | false =>
    have hf:(objB img num&&snapB newest&&ZG off n)=false:=by rw [g0,g1,g2] <;> simp
    have HX:=Zh (show ZbC S img num newest off n=((cmayS S false),S) by unfold ZbC;rw [hf,Zb (Zab S)]);have hm:=HM.o false;have hne:(cmayS S false != 0)=true:=by simpa using Zab S
    obtain ⟨e0,he0⟩:∃ e0,cmayS S false=e0:=⟨_,rfl⟩;rw [he0] at hm hne HX;have HMF:=Zh hm;clear hm hf he0;have hg0:=ZaE img num w;rw [g0] at hg0;have HG0:=Zh hg0;clear hg0;have hg1:=Za5 newest w;rw [g1] at hg1;have HG1:=Zh hg1;clear hg1;have hg2:=Zdi off n w;rw [g2] at hg2;have HG2:=Zh hg2;clear hg2;go_enter func149,ntmps149;go_wp2_with fail;refine HG0.o.mono ?_;rintro e w2 ⟨rfl,rfl⟩;go_wp2_with fail;refine HG1.o.mono ?_;rintro e w2 ⟨rfl,rfl⟩;go_wp2_with fail;refine HG2.o.mono ?_;rintro e w2 ⟨rfl,rfl⟩;go_wp2_with fail;refine HMF.o.mono ?_;rintro e w2 ⟨rfl,rfl⟩;go_wp2;go_ret;rw [HX.o];exact ⟨I,Hp.sub.refl _,rfl,H.o⟩
   | true =>
    have hf:(objB img num&&snapB newest&&ZG off n)=true:=by rw [g0,g1,g2] <;> rfl
    have hm:=HM.o true;obtain ⟨e0,he0⟩:∃ e0,cmayS S true=e0:=⟨_,rfl⟩;have HX:=Zh (show ZbC S img num newest off n=_ by unfold ZbC;rw [hf,he0]);rw [he0] at hm;have HMF:=Zh hm;clear hm hf he0;have hg0:=ZaE img num w;rw [g0] at hg0;have HG0:=Zh hg0;clear hg0;have hg1:=Za5 newest w;rw [g1] at hg1;have HG1:=Zh hg1;clear hg1;have hg2:=Zdi off n w;rw [g2] at hg2;have HG2:=Zh hg2;clear hg2;by_cases h0:e0=0
    ·subst h0;have HX:=Zh (HX.o.trans (Za (by simp)));obtain ⟨wy,hwy⟩:∃ y,whyS S ⟨4,img,num,0⟩=y:=⟨_,rfl⟩;obtain ⟨n0,hn0⟩:∃ y,lenAt S ⟨4,img,num,0⟩=y:=⟨_,rfl⟩;have hns:=ZgW HK.o.inv ⟨4,img,num,0⟩;rw [hn0] at hns;have HWY:=Zh hwy;have HN0:=Zh hn0;clear hwy hn0;unfold ZG at g2;rw [Ze] at g2;have hsub:IntKind.i64.wrap (n0 - off)=n0 - off:=by rw [Z2];omega
     by_cases hw0:wy=0
     ·subst hw0;have HX:=Zh (HX.o.trans (Za (show ¬ (whyS S (dK img num 0)≠0) by simp [show whyS S (dK img num 0)=0 from HWY.o])));rw [show lenAt S (dK img num 0)=n0 from HN0.o] at HX;obtain ⟨mn,hmn⟩:∃ mn,min n (n0 - off)=mn:=⟨_,rfl⟩;have hmn2:mn<=64:=by omega
      rw [hmn] at HX;obtain ⟨⟨e1,S1⟩,hae⟩:∃ r,Zbq S img num newest=r:=⟨_,rfl⟩;have hk1:=Zdh (m:=m+6) (img:=img) (num:=num) (newest:=newest) HK.o;rw [hae] at hk1 HX;have HAE:=Zh hae;have HK1:=Zh hk1;clear hae hk1;go_enter func149,ntmps149;go_wp2_with fail;refine HG0.o.mono ?_;rintro e w2 ⟨rfl,rfl⟩;go_wp2_with fail;refine HG1.o.mono ?_;rintro e w2 ⟨rfl,rfl⟩;go_wp2_with fail;refine HG2.o.mono ?_;rintro e w2 ⟨rfl,rfl⟩;go_wp2_with fail;refine HMF.o.mono ?_;rintro e w2 ⟨rfl,rfl⟩;go_wp2_with fail;refine (Zb5 img num 0 w).mono ?_;rintro e w3 ⟨rfl,hb3⟩;obtain ⟨I3,hs3,hI3,h3⟩:=((H.o.keep hb3).alloc (cells #[int i64 4,int i64 img,int i64 num,int i64 0] 150)).freeze;obtain ⟨x0,x1,x2,x3⟩:=Zaa h3 hI3;have hsz:=ZbV ⟨4,img,num,0⟩ h3;rw [HWY.o,HN0.o] at hsz;simp only [K4.val] at hsz;have HSZ:=Zh hsz;have H3:=Zh h3;have HS3:=Zh hs3;have HI3:=Zh hI3;clear hb3 h3 hs3 hI3 hsz;go_wp2_with fail;refine HSZ.o.mono ?_;rintro e w4 ⟨hb4,rfl⟩;have h4:=H3.o.keep hb4;have H4:=Zh h4;clear x0 x1 x2 x3 hb4;have ha:=ZeR img num newest h4 (m:=m+6) HK.o;rw [HAE.o] at ha;have HA:=Zh ha;clear h4 ha;go_wp2_with fail;refine HA.o.mono ?_;rintro e w5 ⟨I5,hs5,rfl,h5⟩;by_cases he:e1=0
      ·subst he;have HX:=Zh (HX.o.trans (Zce _ _));by_cases h1:mn<1
       ·have d1:decide (mn<1)=true:=by simpa using h1
        have HX2:=Zh (HX.o.trans (Zb h1));have H5:=Zh h5;have HS5:=Zh (HS3.o.trans hs5);clear h5 hs5;go_wp2;go_ret;rw [HX2.o];exact ⟨I5,HS5.o,rfl,H5.o⟩
       ·have d1:decide (mn<1)=false:=by simpa using h1
        obtain ⟨M,rfl⟩:∃ M:Nat,mn=M:=⟨mn.toNat,by omega⟩;have HX2:=Zh (HX.o.trans (Za h1));simp only [ZcT] at HX2;have hI5:=hs5 _ _ HI3.o;obtain ⟨y0,y1,y2,y3⟩:=Zaa h5.drew hI5;have h6:=h5.drew.alloc (cells (zeroA M) 5);obtain ⟨z0,z1,z2,z3⟩:=Zaa h6 hI5;have hmk:=Ze4 M (by omega);have hz:(zeroA M)=((List.replicate M (0:Int)).map byteV).toArray:=by simp [zeroA,byteV,Zgq]
        rw [hz] at h6;obtain ⟨I6,hs6,hr6,h7⟩:=Zc2 (Za7 ..) (by omega) h6;rw [<-hz] at h7;have hwr:=Zee ⟨4,img,num,0⟩ off _ (List.replicate M 0) h7 HK1.o (ZbT h7 hr6) (by rw [Za7];omega);simp only [K4.val] at hwr;have HWR:=Zh hwr;have HS6:=Zh ((HS3.o.trans hs5).trans hs6);clear h5 hs5 h6 hs6 hr6 h7 hwr hI5 hz g2;go_wp2_with fail;refine Z3 (fun w'=>w'.cell? ⟨w3.heap.size,0,none⟩=some (int i64 4)∧w'.cell? ⟨w3.heap.size,1,none⟩=some (int i64 img)∧w'.cell? ⟨w3.heap.size,2,none⟩=some (int i64 num)∧w'.cell? ⟨w3.heap.size,3,none⟩=some (int i64 0)) [0,1,2,3] [4] [5,6] (by kernel_rfl) (by kernel_rfl) (by (exact ⟨y0,y1,y2,y3⟩)) ?_;simp only [pickL,Zg,Zi];repeat (refine Zs _ (Or.inl ⟨by rfl,by (intro w hSw;(try dsimp only at hSw);go_simp;try with_reducible rfl)⟩) ?_;(try go_frame))
        refine ZC ?_;unfold Zp;go_wp2;refine Zt ⟨z0,z1,z2,z3⟩ ?_;unfold Zp;go_wp2_with fail;refine HWR.o.mono ?_;rintro e w8 ⟨I8,hs8,rfl,h8⟩;have H8:=Zh h8;have HS8:=Zh (HS6.o.trans hs8);clear h8 hs8 y0 y1 y2 y3 z0 z1 z2 z3;go_wp2;refine Zu ?_;go_wp2;go_ret;rw [HX2.o];exact ⟨I8,HS8.o,rfl,H8.o⟩
      ·have de:(e1 != 0)=true:=by simpa using he
       have HX2:=Zh (HX.o.trans (Zcp he _ _));have H5:=Zh h5;have HS5:=Zh (HS3.o.trans hs5);clear h5 hs5;go_wp2;go_ret;rw [HX2.o];exact ⟨I5,HS5.o,rfl,H5.o⟩
     ·have d0:(wy != 0)=true:=by simpa using hw0
      have HX:=Zh (HX.o.trans (Zb (show whyS S (dK img num 0)≠0 by rw [show whyS S (dK img num 0)=wy from HWY.o];exact hw0)));go_enter func149,ntmps149;go_wp2_with fail;refine HG0.o.mono ?_;rintro e w2 ⟨rfl,rfl⟩;go_wp2_with fail;refine HG1.o.mono ?_;rintro e w2 ⟨rfl,rfl⟩;go_wp2_with fail;refine HG2.o.mono ?_;rintro e w2 ⟨rfl,rfl⟩;go_wp2_with fail;refine HMF.o.mono ?_;rintro e w2 ⟨rfl,rfl⟩;go_wp2_with fail;refine (Zb5 img num 0 w).mono ?_;rintro e w3 ⟨rfl,hb3⟩;obtain ⟨I3,hs3,hI3,h3⟩:=((H.o.keep hb3).alloc (cells #[int i64 4,int i64 img,int i64 num,int i64 0] 150)).freeze;obtain ⟨x0,x1,x2,x3⟩:=Zaa h3 hI3;have hsz:=ZbV ⟨4,img,num,0⟩ h3;rw [HWY.o,HN0.o] at hsz;simp only [K4.val] at hsz;have HSZ:=Zh hsz;have H3:=Zh h3;have HS3:=Zh hs3;have HI3:=Zh hI3;clear hb3 h3 hs3 hI3 hsz;go_wp2_with fail;refine HSZ.o.mono ?_;rintro e w4 ⟨hb4,rfl⟩;have h4:=H3.o.keep hb4;have H4:=Zh h4;clear x0 x1 x2 x3 hb4;clear h4;go_wp2;go_ret;rw [HX.o];exact ⟨I3,HS3.o,rfl,H4.o⟩
    ·have d0:(e0 != 0)=true:=by simpa using h0
     have HX2:=Zh (HX.o.trans (Zb h0));go_enter func149,ntmps149;go_wp2_with fail;refine HG0.o.mono ?_;rintro e w2 ⟨rfl,rfl⟩;go_wp2_with fail;refine HG1.o.mono ?_;rintro e w2 ⟨rfl,rfl⟩;go_wp2_with fail;refine HG2.o.mono ?_;rintro e w2 ⟨rfl,rfl⟩;go_wp2_with fail;refine HMF.o.mono ?_;rintro e w2 ⟨rfl,rfl⟩;go_wp2;go_ret;rw [HX2.o];exact ⟨I,Hp.sub.refl _,rfl,H.o⟩
end
section
variable {p : Nat} {S : Str}
theorem ZnF (v:Value) (ms:List Int) (below n:Int) (h:St W I w l) (hv:IntsI I v ms) :
  Calls prog 210 #[v,int i64 below,int i64 n] w fun e w'=>e=.returned (.bool (seenB ms below n))∧w=w':=by
 have HV:=Zh hv;have H:=Zh h;obtain ⟨A,c,rfl,_,hl2,hm2,_⟩:=hv;have hcn:(ms.length:Int)<=9223372036854775807:=by unfold maxLen at hm2;omega
 clear h;go_enter func210,ntmps210;go_wp2;go_loopw [11] (fun a11 wr=>∃ (j:Nat),a11=int i64 j∧j<=ms.length∧seenB (ms.take j) below n=false∧wr=w) (fun a11 _=>ms.length - (intOf a11).toNat);case atStart=>exact ⟨0,rfl,ZaY _,rfl,rfl⟩
 case round =>
  obtain ⟨j,rfl,hj,hall,rfl⟩:=hrel;by_cases hlt:j<ms.length
  ·obtain ⟨x,hx⟩:∃ x,ms[j]?=some x:=⟨_,ZL hlt⟩;obtain ⟨b,off,e1,hc⟩:=Zg1 H.o HV.o hx;simp only [ZF,Zae] at e1;subst e1;have HALL:=Zh hall;have HXJ:=Zh hx;clear hall hx;have hst:seenB (ms.take (j+1)) below n=(decide (below<x)&&decide (x<=n)):=by
    rw [List.take_add_one,HXJ.o];have:=HALL.o;unfold seenB at this |-;rw [List.any_append,this];simp
   have HST:=Zh hst;clear hst;by_cases h1:below<x
   ·have d1:decide (below<x)=true:=by simpa using h1
    by_cases h2:x<=n
    ·have d2:decide (x<=n)=true:=by simpa using h2
     have hfin:seenB ms below n=true:=by
      have:=HST.o;rw [d1,d2,Bool.and_self] at this;unfold seenB at this |-;rw [List.any_eq_true] at this |-;obtain ⟨y,hy,hp⟩:=this;exact ⟨y,Zd3 hy,hp⟩
     have HF:=Zh hfin;clear hfin;go_wp2;go_ret;exact ⟨by rw [HF.o];rfl,rfl⟩
    ·have d2:decide (x<=n)=false:=by simpa using h2
     go_wp2;go_roundw;case rel=>exact ⟨j+1,by go_num,by omega,by rw [HST.o,d1,d2];rfl,trivial⟩
     case measure=>simp [intOf]<;>omega
   ·have d1:decide (below<x)=false:=by simpa using h1
    go_wp2;go_roundw;case rel=>exact ⟨j+1,by go_num,by omega,by rw [HST.o,d1];rfl,trivial⟩
    case measure=>simp [intOf]<;>omega
  ·obtain rfl:j=ms.length:=by omega
   rw [Zbk] at hall;have HALL:=Zh hall;clear hall;go_wp2;go_ret;exact ⟨by rw [HALL.o];rfl,rfl⟩
end
section
variable {p : Nat} {S : Str}
theorem Zo4 (img:Int) (mv:Value) (ms:List Int) {m:Nat} (h:St W I w (Zd p S::l)) (hk:Keeps S (m+2*(ZaQ S ⟨4,img⟩).length)) (hv:IntsI I mv ms) :
  Calls prog 150 #[pointer (some ⟨p,0,none⟩),int i64 img,mv] w (DoesE W I p l (tidyS S img ms)):=by
 have HV:=Zh hv;obtain ⟨Am,cm,rfl,_⟩:=hv;have hm:=fun b=>Zdp b h;have HM:=Zh hm;have H:=Zh h;have HK:=Zh hk;clear hm h hk;cases g0:objB img 0 with
 | false =>
  have hf:(objB img 0)=false:=by rw [g0] <;> simp
  have HX:=Zh (show tidyS S img ms=((cmayS S false),S) by unfold tidyS;rw [hf,Zb (Zab S)]);have hm:=HM.o false;have hne:(cmayS S false != 0)=true:=by simpa using Zab S
  obtain ⟨e0,he0⟩:∃ e0,cmayS S false=e0:=⟨_,rfl⟩;rw [he0] at hm hne HX;have HMF:=Zh hm;clear hm hf he0;have hg0:=ZaE img 0 w;rw [g0] at hg0;have HG0:=Zh hg0;clear hg0;go_enter func150,ntmps150;go_wp2_with fail;refine HG0.o.mono ?_;rintro e w2 ⟨rfl,rfl⟩;go_wp2_with fail;refine HMF.o.mono ?_;rintro e w2 ⟨rfl,rfl⟩;go_wp2;go_ret;rw [HX.o];exact ⟨I,Hp.sub.refl _,rfl,H.o⟩
 | true =>
  have hf:(objB img 0)=true:=by rw [g0] <;> rfl
  have hm:=HM.o true;obtain ⟨e0,he0⟩:∃ e0,cmayS S true=e0:=⟨_,rfl⟩;have HX:=Zh (show tidyS S img ms=_ by unfold tidyS;rw [hf,he0]);rw [he0] at hm;have HMF:=Zh hm;clear hm hf he0;have hg0:=ZaE img 0 w;rw [g0] at hg0;have HG0:=Zh hg0;clear hg0;by_cases h0:e0=0
  ·subst h0;have HX:=Zh (HX.o.trans (Za (by simp)));have hks:=ZhP 4 img H.o (by have:=HK.o.inv.many ⟨4,img⟩;omega);have hkl:(ZaQ S ⟨4,img⟩).length<=100000:=by
    have:=HK.o.inv.many ⟨4,img⟩;unfold ZaQ;split
    ·omega
    ·simp
   obtain ⟨ks,hks2⟩:∃ ks,ZaQ S ⟨4,img⟩=ks:=⟨_,rfl⟩;have hkp:=HK.o;rw [hks2] at hks hkl HX hkp;have HKS:=Zh hks;have HKP:=Zh hkp;clear hks hks2 hkp;go_enter func150,ntmps150;go_wp2_with fail;refine HG0.o.mono ?_;rintro e w2 ⟨rfl,rfl⟩;go_wp2_with fail;refine HMF.o.mono ?_;rintro e w2 ⟨rfl,rfl⟩;go_wp2_with fail;refine HKS.o.mono ?_;rintro e w2 ⟨v2,rfl,hb2,ho2⟩;obtain ⟨I2,hs2,hr2,h2⟩:=(H.o.row_fresh hb2 ho2).freeze_row;obtain ⟨Ak,ck,rfl⟩:=ZD ho2;have hkn:(ks.length:Int)<=9223372036854775807:=by omega
   have H2:=Zh h2;have HR2:=Zh hr2;have HS2:=Zh hs2;clear h2 hr2 hs2 hb2 ho2 HKS;go_wp2_with fail
   go_loopw [8,9,26] (fun a8 a9 a26 wr=>∃ (j:Nat) (last below:Int) (T:Str) (I1:Hp),a26=int i64 j∧a8=int i64 last∧a9=int i64 below∧j<=ks.length∧I2.sub I1∧Keeps T (m+2*(ks.length - j)) ∧
    tidyL ms ks (-1) 0 S=tidyL ms (ks.drop j) last below T∧St W I1 wr (Zd p T::l)) (fun _ _ a26 _=>ks.length - (intOf a26).toNat)
   case atStart=>exact ⟨0,-1,0,S,I2,rfl,rfl,rfl,ZaY _,Hp.sub.refl _,HKP.o,rfl,H2.o⟩
   case round =>
    obtain ⟨j,last,below,T,I1,rfl,rfl,rfl,hj,hI1,hkT,heq,hst⟩:=hrel;by_cases hlt:j<ks.length
    ·obtain ⟨k,hkj⟩:∃ k,ks[j]?=some k:=⟨_,ZL hlt⟩;obtain ⟨b,off,e1,hc⟩:=ZbJ (mk:=K4.vals) (i:=j) HR2.o hI1 hst (fun _=>rfl) hkj;simp only [ZF,Zae] at e1;subst e1;have hdr:ks.drop j=k::ks.drop (j+1):=by
      obtain ⟨hlt2,he⟩:=ZS.1 hkj;rw [<-he];simp
     rw [hdr] at heq;obtain ⟨k0,k1,k2,k3⟩:=k;have y0:=hc 0 (by omega);have y1:=hc 1 (by omega);have y2:=hc 2 (by omega);have y3:=hc 3 (by omega);simp only [K4.vals,Zi,Zg,Zbg] at y0 y1 y2 y3;obtain ⟨I3,hs3,hI3,h3⟩:=(hst.alloc (cells #[int i64 k0,int i64 k1,int i64 k2,int i64 k3] 150)).freeze;obtain ⟨g,hg⟩:∃ g,wr.heap.size=g:=⟨_,rfl⟩;obtain ⟨bl,hbl⟩:∃ bl,(if k2=last then below else 0)=bl:=⟨_,rfl⟩;have HEQ:=Zh heq;have HKT:=Zh hkT;have H3:=Zh h3;have HI3:=Zh hI3;have HS3:=Zh (hI1.trans hs3);have HBL:=Zh hbl;clear hc heq hkT hst h3 hI3 hs3 hI1 hkj hdr hbl
     have HUN:=Zh (show ∀ ls,tidyL ms (⟨k0,k1,k2,k3⟩::ls) last below T=if k3=0 then tidyL ms ls k2 bl T
      else if (attrS T ⟨k0,k1,k2,k3⟩ nmW).2=0∧seenB ms bl k3=true then tidyL ms ls k2 k3 T
      else thenE (dropS T ⟨k0,k1,k2,k3⟩) fun S1=>tidyL ms ls k2 (if (attrS T ⟨k0,k1,k2,k3⟩ nmW).2=0 then k3 else bl) S1 by
       intro ls;rw [<-HBL.o]
       rfl)
     go_upto_if 33 with fail;go_cut [8,9] from 30 to 35 (fun s8 s9 wc=>s8=int i64 k2∧s9=int i64 bl∧St W I3 wc (Zd p T::l));case first =>
      by_cases hl:k2=last
      ·subst hl;have dl:(k2 != k2)=false:=by simp
       have hb2:=HBL.o;rw [Zb rfl] at hb2;subst hb2;go_wp2_with fail;go_meet;all_goals (first|exact ⟨rfl,rfl,H3.o⟩|exact ⟨rfl,rfl,rfl,H3.o⟩|fail)
      ·have dl:(k2 != last)=true:=by simpa using hl
       have hb2:=HBL.o;rw [Za hl] at hb2;subst hb2;obtain ⟨x0,x1,x2,x3⟩:=Zaa H3.o HI3.o;go_wp2_with fail;go_meet;all_goals (first|exact ⟨rfl,rfl,H3.o⟩|exact ⟨rfl,rfl,rfl,H3.o⟩|fail)
     case rest =>
      obtain ⟨rfl,rfl,h4⟩:=hcut;obtain ⟨w4,hw4⟩:=Zn wc;subst hw4;rw [hg] at HI3;obtain ⟨x0,x1,x2,x3⟩:=Zaa h4 HI3.o;by_cases h0:k3=0
      ·subst h0;have d0:((0:Int)==0)=true:=rfl;have H4:=Zh h4;have HU:=Zh ((HUN.o (ks.drop (j+1))).trans (Zb rfl));clear h4 HUN;go_wp2;go_roundw;case rel=>exact ⟨j+1,k2,bl,T,I3,by go_num,rfl,rfl,by omega,HS3.o,HKT.o.fewer (by omega),HEQ.o.trans HU.o,H4.o⟩
       case measure=>simp [intOf]<;>omega
      ·have d0:(k3==0)=false:=by simpa using h0
       have HUN:=Zh (fun ls=>(HUN.o ls).trans (Za h0));have hat:=ZeW ⟨k0,k1,k2,k3⟩ nmW h4 HKT.o.inv;obtain ⟨⟨ab,ae⟩,hae⟩:∃ r,attrS T ⟨k0,k1,k2,k3⟩ nmW=r:=⟨_,rfl⟩;rw [hae] at hat HUN;simp only [K4.val] at hat;have HAT:=Zh hat;have H4:=Zh h4;clear hat hae h4;go_wp2_with fail;refine HAT.o.mono ?_;rintro e w5 ⟨hb5,v5,rfl,ho5⟩;have h5:=H4.o.keep hb5;obtain ⟨A5,c5,rfl⟩:=ZD ho5;obtain ⟨y0,y1,y2,y3⟩:=Zaa h5 HI3.o;have hse:=ZnF _ ms bl k3 h5 ((Zbe _ _).mono (HS2.o.trans HS3.o) HV.o);have hdr:=ZeU (m:=m+2*(ks.length - (j+1))) ⟨k0,k1,k2,k3⟩ h5 (HKT.o.fewer (by omega));obtain ⟨⟨e1,T1⟩,hde⟩:∃ r,dropS T ⟨k0,k1,k2,k3⟩=r:=⟨_,rfl⟩;have hk1:=ZdP (m:=m+2*(ks.length - (j+1))) (k:=⟨k0,k1,k2,k3⟩) (HKT.o.fewer (by omega));rw [hde] at hdr hk1 HUN;simp only [K4.val] at hdr;have HSE:=Zh hse;have HDR:=Zh hdr;have HK1:=Zh hk1;have H5:=Zh h5;have HI3':=Zh HI3.o;clear hse hdr hde hk1 h5 hb5 ho5 x0 x1 x2 x3 H4;by_cases hae:ae=0
       ·subst hae;have da:((0:Int)==0)=true:=rfl;cases hsb:seenB ms bl k3 with
        | true =>
         rw [hsb] at HSE HUN;have HU:=Zh ((HUN.o (ks.drop (j+1))).trans (Zb (by simp)));clear HUN hsb;go_wp2_with fail;refine HSE.o.mono ?_;rintro e w6 ⟨rfl,rfl⟩;go_wp2;go_roundw;case rel=>exact ⟨j+1,k2,k3,T,I3,by go_num,rfl,rfl,by omega,HS3.o,HKT.o.fewer (by omega),HEQ.o.trans HU.o,H5.o⟩
         case measure=>simp [intOf]<;>omega
        | false =>
         rw [hsb] at HSE HUN;have HU:=Zh ((HUN.o (ks.drop (j+1))).trans (Za (by simp)));clear HUN hsb;go_wp2_with fail;refine HSE.o.mono ?_;rintro e w6 ⟨rfl,rfl⟩;go_wp2_with fail;refine HDR.o.mono ?_;rintro e w7 ⟨I7,hs7,rfl,h7⟩;have H7:=Zh h7;have HS7:=Zh (HS3.o.trans hs7);clear h7 hs7 y0 y1 y2 y3;by_cases he:e1=0
         ·subst he;have HU2:=Zh (HU.o.trans ((Zce _ _).trans (show tidyL ms (ks.drop (j+1)) k2 (if (0:Int)=0 then k3 else bl) T1=tidyL ms (ks.drop (j+1)) k2 k3 T1 by rw [Zb rfl])));go_wp2;go_roundw;case rel=>exact ⟨j+1,k2,k3,T1,I7,by go_num,rfl,rfl,by omega,HS7.o,HK1.o,HEQ.o.trans HU2.o,H7.o⟩
          case measure=>simp [intOf]<;>omega
         ·have de:(e1 != 0)=true:=by simpa using he
          have HU2:=Zh (HU.o.trans (Zcp he _ _));go_wp2;go_ret;rw [HX.o,HEQ.o,HU2.o];exact ⟨I7,HS2.o.trans HS7.o,rfl,H7.o⟩
       ·have da:(ae==0)=false:=by simpa using hae
        have HU:=Zh ((HUN.o (ks.drop (j+1))).trans (Za (by simp [hae])));clear HUN HSE;go_wp2_with fail;refine HDR.o.mono ?_;rintro e w7 ⟨I7,hs7,rfl,h7⟩;have H7:=Zh h7;have HS7:=Zh (HS3.o.trans hs7);clear h7 hs7 y0 y1 y2 y3;by_cases he:e1=0
        ·subst he;have HU2:=Zh (HU.o.trans ((Zce _ _).trans (show tidyL ms (ks.drop (j+1)) k2 (if ae=0 then k3 else bl) T1=tidyL ms (ks.drop (j+1)) k2 bl T1 by rw [Za hae])));go_wp2;go_roundw;case rel=>exact ⟨j+1,k2,bl,T1,I7,by go_num,rfl,rfl,by omega,HS7.o,HK1.o,HEQ.o.trans HU2.o,H7.o⟩
         case measure=>simp [intOf]<;>omega
        ·have de:(e1 != 0)=true:=by simpa using he
         have HU2:=Zh (HU.o.trans (Zcp he _ _));go_wp2;go_ret;rw [HX.o,HEQ.o,HU2.o];exact ⟨I7,HS2.o.trans HS7.o,rfl,H7.o⟩
    ·obtain rfl:j=ks.length:=by omega
     rw [ZcS (Z9 _)] at heq;have HEQ:=Zh heq;have HST:=Zh hst;have HI1:=Zh (HS2.o.trans hI1);clear heq hst hI1 hkT;go_wp2;go_ret;rw [HX.o,HEQ.o];exact ⟨I1,HI1.o,rfl,HST.o⟩
  ·have d0:(e0 != 0)=true:=by simpa using h0
   have HX2:=Zh (HX.o.trans (Zb h0));go_enter func150,ntmps150;go_wp2_with fail;refine HG0.o.mono ?_;rintro e w2 ⟨rfl,rfl⟩;go_wp2_with fail;refine HMF.o.mono ?_;rintro e w2 ⟨rfl,rfl⟩;go_wp2;go_ret;rw [HX2.o];exact ⟨I,Hp.sub.refl _,rfl,H.o⟩
end
section
variable {p q : Nat} {S : Str}
theorem ZeS (h0 h:Hd) (H:h.Ok) (roll:Int) (hr0:0<=roll) (hr1:roll<=1073741824) (v:Value) {m:Nat} (hs:St W I w (Zd p S::imgHP q p h0::l)) (hk:Keeps S (m+2)) (hv:(mksIP v h.marks).p I) (hb:(Zr S).1=0) (hsv:(saveH (Zr S).2 h roll).1=0) :
  Calls prog 95 #[pointer (some ⟨q,0,none⟩),.agg (h.cells v),int i64 roll] w fun e w'=>∃ I',I.sub I'∧e=.returned (int i64 0)∧St W I' w' (Zd p (saveH (Zr S).2 h roll).2::imgHP q p h::l):=by
 obtain ⟨v0,hv0,h1⟩:=(hs.pull 1 _ rfl).img_open;have a:=Zz h1;have c0:=a.c0;have lt0:=h1.lt;have hsa:=(h1.alloc (cells (h.cells v) 51)).pull 2 _ rfl;have hbs:=ZdN hsa hk;rw [hb] at hbs;obtain ⟨S1,hS1⟩:∃ x,(Zr S).2=x:=⟨_,rfl⟩;have hk1:Keeps S1 (m+2):=by rw [<-hS1];exact ZbS hk
 rw [hS1] at hbs hsv |-;obtain ⟨S2,hS2⟩:∃ x,(saveH S1 h roll).2=x:=⟨_,rfl⟩;have SV:=Zh (fun (w:World) (I':Hp) (l':List HP) (hst:St W I' w (Zd p S1::l')) (hv':(mksIP v h.marks).p I')=>Zjn h H roll hr0 hr1 v hst hk1 hv');rw [hsv,hS2] at SV;rw [hS2];have HBS:=Zh hbs;have HV:=Zh hv;have HV0:=Zh hv0;obtain ⟨A,c,rfl,_⟩:=hv.cap;obtain ⟨g,hg⟩:∃ g,w.heap.size=g:=⟨_,rfl⟩;rw [hg] at HBS;have HG:=Zh hg;have HRR:Hid (h.cells (slice A h.marks.length c)=#[int i64 h.size,int i64 h.l.order,int i64 h.l.unit,int i64 h.l.count,int i64 h.next,int i64 h.seq,slice A h.marks.length c]):=Zh rfl;clear hs h1 a hsa hbs hS1 hS2 hk1 hv hv0 hk hsv hb hg;have SET:Hid (∀ (wx:World) (I':Hp) (l':List HP),(mksIP (slice A h.marks.length c) h.marks).p I'->St W I' wx (pt q (cells (ZdT p h0 v0) 119)::l')->St W I' (((((((wx.setCell ⟨q,2,none⟩ (int i64 h.size)).setCell ⟨q,3,none⟩ (int i64 h.l.order)).setCell ⟨q,4,none⟩ (int i64 h.l.unit)).setCell ⟨q,5,none⟩ (int i64 h.l.count)).setCell ⟨q,6,none⟩ (int i64 h.next)).setCell ⟨q,7,none⟩ (int i64 h.seq)).setCell ⟨q,8,none⟩ (slice A h.marks.length c)) (imgHP q p h::l')):=Zh (fun wx I' l' hm hst=>St.img_shut (v:=slice A h.marks.length c) hm (((((((hst.setCell 2 _).setCell 3 _).setCell 4 _).setCell 5 _).setCell 6 _).setCell 7 _).setCell 8 _));have hcs:h.cells (slice A h.marks.length c)=#[int i64 h.size,int i64 h.l.order,int i64 h.l.unit,int i64 h.l.count,int i64 h.next,int i64 h.seq,slice A h.marks.length c]:=rfl;rw [hcs] at HBS SV |-;clear hcs HRR;obtain ⟨sz,⟨o,u,cn⟩,nx,sq,ms⟩:=h;simp only at HBS SV HV SET |-;go_enter func95,ntmps95;go_wp2_with fail;refine HBS.o.mono ?_;rintro e w2 ⟨I2,hs2,rfl,h2⟩;rw [HG.o];simp only [Zx,Zy] at h2;have hi2:=h2.pull 2 _ rfl;have a2:=Zz hi2;have c0':=a2.c0;have c1':=a2.c1;obtain ⟨x0,x1,x2,x3,x4,x5,x6⟩:=ZW (h2.pull 1 _ rfl);have HSV:=Zh (SV.o w2.drew I2 _ h2.drew ((mksIP _ ms).mono hs2 HV.o));have HS2:=Zh hs2;clear h2 hi2 a2 c0 hs2;go_upto_region 4 with fail;refine ZaD [0,1,2,4,5,6,9] [3,7,8] [10,11] (by kernel_rfl) (by kernel_rfl) ?_;simp only [pickL,Zg,Zi];repeat (refine ZaA _ (Or.inl ⟨by rfl,by intro w;go_simp;try with_reducible rfl⟩) ?_;(try go_frame))
 refine ZaB ?_;repeat still_step
 refine ZaI ?_;go_wp2_with fail;refine HSV.o.mono ?_;rintro e w3 ⟨I3,hs3,rfl,h3⟩;have hi3:=h3.pull 2 _ rfl;have f:=frozen_of_row hi3.heap;have a3:=Zz hi3;obtain ⟨z0,z1,z2,z3,z4,z5,z6,z7,z8,z9⟩:=a3;clear x0 x1 x2 x3 x4 x5 x6 c0' c1';obtain ⟨x0,x1,x2,x3,x4,x5,x6⟩:=ZW (h3.pull 1 _ rfl);have H4:=Zh (SET.o w3 I3 _ ((mksIP _ ms).mono (HS2.o.trans hs3) HV.o) hi3);have HS3:=Zh (HS2.o.trans hs3);clear h3 hi3 hs3;go_wp2;refine Zu ?_;go_wp2_with fail;refine (ZeQ q 0 (by decide) _).mono ?_;rintro e w4 ⟨rfl,rfl⟩;go_wp2;go_ret;exact ⟨I3,HS3.o,rfl,((H4.o.pull 1 _ rfl).pull 2 _ rfl).drop⟩
theorem ZnG (h:Hd) {m:Nat} (hs:St W I w (Zd p S::imgHP q p h::l)) (hk:Keeps S m) (hb:(Zr S).1=0) (hon:S.on=true) :
  Calls prog 69 #[pointer (some ⟨q,0,none⟩)] w fun e w'=>∃ I',I.sub I'∧e=.returned (int i64 0)∧St W I' w' (Zd p (Zr S).2::imgHP q p h::l):=by
 have HM:=Zh (ZbK hs hon);obtain ⟨v0,hv0,h1⟩:=(hs.pull 1 _ rfl).img_open;have c0:=(Zz h1).c0;have hbs:=ZdN hs hk;rw [hb] at hbs;have HBS:=Zh hbs;clear hs hbs h1 hv0 hk hb hon;go_enter func69,ntmps69;go_wp2_with fail;refine HM.o.mono ?_;rintro e w2 ⟨rfl,rfl⟩;go_wp2_with fail;refine HBS.o.mono ?_;rintro e w3 ⟨I3,hs3,rfl,h3⟩;have H3:=Zh h3;have HS3:=Zh hs3;clear h3 hs3;go_wp2_with fail;refine (ZeQ q 0 (by decide) _).mono ?_;rintro e w4 ⟨rfl,rfl⟩;go_wp2;go_ret;exact ⟨I3,HS3.o,rfl,H3.o⟩
end
end Go.Proofs.YtcbdghojlbpomaaGreat
