import Derived.Test.YtcbdghojlbpomaaGreatIF00
import Derived.Test.YtcbdghojlbpomaaGreatIF01
import Derived.Test.YtcbdghojlbpomaaGreatIF02
import Derived.Test.YtcbdghojlbpomaaGreatIF03
import Derived.Test.YtcbdghojlbpomaaGreatIF04
import Derived.Test.YtcbdghojlbpomaaGreatIF05
import Derived.Test.YtcbdghojlbpomaaGreatIF06
import Derived.Test.YtcbdghojlbpomaaGreatIF07
import Derived.Test.YtcbdghojlbpomaaGreatIF08
import Derived.Test.YtcbdghojlbpomaaGreatIF09
import Derived.Test.YtcbdghojlbpomaaGreatIF10
import Derived.Test.YtcbdghojlbpomaaGreatIF11
import Derived.Test.YtcbdghojlbpomaaGreatIF12
import Derived.Test.YtcbdghojlbpomaaGreatIF13
import Derived.Test.YtcbdghojlbpomaaGreatIF14
import Derived.Test.YtcbdghojlbpomaaGreatIF15
import Derived.Test.YtcbdghojlbpomaaGreatIF16
import Derived.Test.YtcbdghojlbpomaaGreatIF17
import Derived.Test.YtcbdghojlbpomaaGreatIF18
import Derived.Test.YtcbdghojlbpomaaGreatIF19
import Derived.Test.YtcbdghojlbpomaaGreatIF20
import Derived.Test.YtcbdghojlbpomaaGreatIF21
import Derived.Test.YtcbdghojlbpomaaGreatIF22
import Derived.Test.YtcbdghojlbpomaaGreatIF23
import Derived.Test.YtcbdghojlbpomaaGreatIF24
import Derived.Test.YtcbdghojlbpomaaGreatIF25
import Derived.Test.YtcbdghojlbpomaaGreatIF26
import Derived.Test.YtcbdghojlbpomaaGreatIF27
import Derived.Test.YtcbdghojlbpomaaGreatIF28
import Derived.Test.YtcbdghojlbpomaaGreatIF29
import Derived.Test.YtcbdghojlbpomaaGreatIF30
import Derived.Test.YtcbdghojlbpomaaGreatIF31
import Derived.Test.YtcbdghojlbpomaaGreatIF32
import Derived.Test.YtcbdghojlbpomaaGreatIF33
import Derived.Test.YtcbdghojlbpomaaGreatIF34
import Derived.Test.YtcbdghojlbpomaaGreatIF35
import Derived.Test.YtcbdghojlbpomaaGreatIF36
import Derived.Test.YtcbdghojlbpomaaGreatIF37
import Derived.Test.YtcbdghojlbpomaaGreatIF38
import Derived.Test.YtcbdghojlbpomaaGreatIF39
set_option linter.all false
namespace Go.Proofs.YtcbdghojlbpomaaGreat
open Go.RowKit
def readB (b:List Int) (off n:Int):List Int × Int :=
 if n<0 then ([],1) else if off<0∨(b.length:Int)<off∨(b.length:Int) - off<n then ([],3) else ((b.drop off.toNat).take n.toNat,0)
def readV (V:Vw) (nm:ByteArray) (off n:Int):List Int × Int :=
 if nm=⟨#[]⟩ then readB V.data off n else match findI (V.snaps.map (·.1)) nm with
 | none=>([],4)
 | some i=>readB (V.snaps.getD i (nm,[])).2 off n
theorem bytesI_none (I:Hp):Zw I (.slice none 0 0) []:=⟨none,0,rfl,by simp,Nat.le_refl _,by unfold maxLen;omega,fun _=>rfl,fun h=>absurd h (by simp)⟩
theorem Zw.piece {I:Hp} {L c:Nat} {a:Addr} {b:List Int} (h:Zw I (.slice (some a) L c) b) (hL:L=b.length) {k m:Nat} (hk:k+m≤L):Zw I (.slice (some (if c=k then a else a.add k)) m (c - k)) ((b.drop k).take m):=by
 subst hL
 have h1:=RowI.pre (RowI.rest h (k:=k) (by omega)) (k:=m) (by omega)
 rw [Nat.mul_one,Nat.mul_one,←List.map_drop,←List.map_take] at h1
 have hl:m=((b.drop k).take m).length:=by rw [List.length_take,List.length_drop];omega
 unfold Zw
 rw [←hl]
 exact h1
theorem findI_at {ns:List ByteArray} {nm:ByteArray} {i:Nat} (h:findI ns nm=some i):∃ x,ns[i]?=some x∧x=nm:=by
 unfold findI at h
 rw [List.findIdx?_eq_some_iff_getElem] at h
 obtain ⟨h1,h2,_⟩:=h
 exact ⟨_,List.getElem?_eq_getElem h1,of_decide_eq_true h2⟩
section
variable {W w : World} {I : Hp} {l : List HP} {p q : Nat} {S : Str}
set_option maxRecDepth 4000
set_option maxHeartbeats 8000000
theorem mread_spec (V:Vw) (v:Value) (nm:ByteArray) (off n:Int) (hs:St W I w l) (hv:VwI I v V) (hb:VwB V) :
  Calls Tryz.prog 84 #[v,.string nm,.int .i64 off,.int .i64 n] w fun e w'=>∃ I',I.sub I'∧∃ x,e=.returned (.tuple #[x,.int .i64 (readV V nm off n).2])∧Zw I' x (readV V nm off n).1∧St W I' w' l:=by
 obtain ⟨vd,vs,M,rfl,hd,hr,ho⟩:=hv
 obtain ⟨A0,c0,rfl,_⟩:=hd.cap
 obtain ⟨B0,d0,rfl,_⟩:=hr.cap
 have hml:=ho.len
 have h1:=hb.data
 have h2:=hb.few
 have hst:=hs.alloc (.cells #[.slice A0 V.data.length c0,.slice B0 M.length d0] 35)
 obtain ⟨g4,hg4⟩:∃ g,w.heap.size=g:=⟨_,rfl⟩
 rw [hg4] at hst
 have HG:=Zh hg4
 have HST:=Zh hst
 have HD:=Zh hd
 have HR:=Zh hr
 have HO:=Zh ho
 have HB:=Zh hb
 have FIND:=Zh (fun (wx:World) (l':List HP) (hst:St W I wx l')=>ZnM M (.slice A0 V.data.length c0) (.slice B0 M.length d0) nm ⟨_,_,_,rfl⟩ wx (hr.src hst.imm (ZbA ho.sl) (by decide)) ho.sl (by omega))
 have hfm:findI (M.map (·.1)) nm=findI (V.snaps.map (·.1)) nm:=by rw [ho.1]
 have HFM:=Zh hfm
 clear hs hd hr ho hb hst hml h1 h2 hg4 hfm
 go_enter Tryz.func84,Tryz.ntmps84
 go_upto_if 15 with fail
 rw [HG.out]
 have h4:=HST.out
 generalize (World.alloc _ _:World)=w4 at h4 ⊢
 have H4:=Zh h4
 obtain ⟨y0,y1⟩:=Zq h4
 clear h4 HST HG
 go_cut [10] from 11 (fun s10 wc=>∃ (b:List Int) (A:Option Addr) (c:Nat),s10=.slice A b.length c∧Zw I (.slice A b.length c) b∧b.length≤512∧readV V nm off n=readB b off n∧∃ l2,St W I wc (l2::l))
 case first =>
  by_cases hnm:nm=⟨#[]⟩
  ·subst hnm
   rw [show (⟨#[]⟩:ByteArray).toList.isEmpty=true by decide +kernel,Bool.not_true]
   go_wp2_with fail
   go_meet
   exact ⟨V.data,A0,c0,rfl,HD.out,HB.out.data,by unfold readV;rw [if_pos rfl],_,H4.out⟩
  ·have e4:(nm.toList==(⟨#[]⟩:ByteArray).toList)=false:=Zfd hnm
   have e5:nm.toList.isEmpty=false:=by
    cases q:nm.toList.isEmpty with
    | false=>rfl
    | true =>
     rw [List.isEmpty_iff.1 q,show (([]:List UInt8)==(⟨#[]⟩:ByteArray).toList)=true by decide +kernel] at e4
     cases e4
   have HNM:=Zh hnm
   rw [e5,Bool.not_false]
   clear hnm e4 e5
   have HFI:=Zh (FIND.out _ _ H4.out)
   clear FIND
   go_wp2_with fail
   refine HFI.out.mono ?_
   rintro x w5 ⟨rfl,hb5⟩
   have h5:=H4.out.keep hb5
   clear y0 y1
   obtain ⟨y0,y1⟩:=Zq h5
   have H5:=Zh h5
   rw [HFM.out]
   cases hfi:findI (V.snaps.map (·.1)) nm with
   | none =>
    have HF:=Zh hfi
    clear hfi hb5 h5 HFI
    simp only [fnI]
    have d0:decide ((-1:Int)<0)=true:=by decide
    go_wp2_with fail
    go_ret2
    have e:readV V nm off n=([],4):=by unfold readV;rw [if_neg HNM.out,HF.out]
    rw [e]
    exact ⟨I,Hp.sub.refl _,_,rfl,bytesI_none _,H5.out.drop⟩
   | some i =>
    obtain ⟨x,hx,_⟩:=findI_at hfi
    rw [←HO.out.1] at hx
    rw [List.getElem?_map] at hx
    obtain ⟨m,hm,_⟩:=Option.map_eq_some_iff.1 hx
    obtain ⟨hi,_⟩:=List.getElem?_eq_some_iff.1 hm
    have hml:=HO.out.len
    obtain ⟨s,hs⟩:∃ s,V.snaps[i]?=some s:=⟨_,List.getElem?_eq_getElem (by omega)⟩
    have hbs:=HO.out.2 i m s hm hs
    obtain ⟨As,cs,es,_⟩:=hbs.cap
    obtain ⟨b,bo,e1,hc⟩:=ZbJ (i:=i) (mk:=ocell) (k:=2) HR.out (Hp.sub.refl _) h5 (fun _=>rfl) hm
    simp only [Value.slice.injEq,and_true,true_and] at e1
    subst e1
    obtain ⟨ms,mv⟩:=m
    simp only at es hbs
    subst es
    have z1:w5.cell? ⟨b,bo+i*2+1,none⟩=some (.slice As s.2.length cs):=hc 1 (by decide)
    have HBS:=Zh hbs
    have HE:=Zh (show readV V nm off n=readB s.2 off n by
     unfold readV
     rw [if_neg HNM.out,hfi]
     show readB (V.snaps.getD i (nm,[])).2 off n=_
     rw [List.getD_eq_getElem?_getD,hs]
     rfl)
    have HSL:=Zh (HB.out.each s (List.mem_of_getElem? hs))
    have d1:decide ((i:Int)<0)=false:=by rw [decide_eq_false_iff_not];omega
    clear hfi hx hm hml hs hbs hc hb5 h5 HFI
    simp only [fnI]
    go_wp2_with fail
    go_meet
    exact ⟨s.2,As,cs,rfl,HBS.out,HSL.out,HE.out,_,H5.out⟩
 case rest =>
  obtain ⟨b,A,c,rfl,hbi,hbl,hrd,l2,h6⟩:=hcut
  have HRD:=Zh hrd
  have H6:=Zh h6
  have HBI:=Zh hbi
  obtain ⟨_,cc,ec,hbc⟩:=hbi.cap
  simp only [Value.slice.injEq,true_and] at ec
  obtain ⟨rfl,rfl⟩:=ec
  obtain ⟨L,hL⟩:∃ L,b.length=L:=⟨_,rfl⟩
  have hcm:c≤maxLen:=by
   obtain ⟨_,_,e,_,_,h,_⟩:=hbi
   simp only [Value.slice.injEq] at e
   omega
  unfold maxLen at hcm
  rw [hL] at hbc hbl ⊢
  have HL:=Zh hL
  clear hrd hbi h6 hL y0 y1 FIND H4 HD HR HO
  by_cases n0:n<0
  ·have d0:decide (n<0)=true:=decide_eq_true n0
   have e:readB b off n=([],1):=by unfold readB;rw [if_pos n0]
   have HE:=Zh (HRD.out.trans e)
   clear e
   go_wp2_with fail
   go_ret2
   rw [HE.out]
   exact ⟨I,Hp.sub.refl _,_,rfl,bytesI_none _,H6.out.drop⟩
  have d0:decide (n<0)=false:=decide_eq_false n0
  by_cases hw:off<0∨(L:Int)<off∨(L:Int) - off<n
  ·have e:readB b off n=([],3):=by unfold readB;rw [if_neg n0,if_pos (by rw [HL.out];exact hw)]
   have HE:=Zh (HRD.out.trans e)
   clear e
   by_cases o0:off<0
   ·have d1:decide (off<0)=true:=decide_eq_true o0
    clear hw
    go_wp2_with fail
    go_ret2
    rw [HE.out]
    exact ⟨I,Hp.sub.refl _,_,rfl,bytesI_none _,H6.out.drop⟩
   have d1:decide (off<0)=false:=decide_eq_false o0
   by_cases o1:(L:Int)<off
   ·have d2:decide ((L:Int)<off)=true:=decide_eq_true o1
    clear hw
    go_wp2_with fail
    go_ret2
    rw [HE.out]
    exact ⟨I,Hp.sub.refl _,_,rfl,bytesI_none _,H6.out.drop⟩
   have d2:decide ((L:Int)<off)=false:=decide_eq_false o1
   have o2:(L:Int) - off<n:=by omega
   have hwr:IntKind.i64.wrap ((L:Int) - off)=(L:Int) - off:=by rw [IntKind.wrap_i64];omega
   have d3:decide ((L:Int) - off<n)=true:=decide_eq_true o2
   clear hw
   go_wp2_with fail
   go_ret2
   rw [HE.out]
   exact ⟨I,Hp.sub.refl _,_,rfl,bytesI_none _,H6.out.drop⟩
  have o0:¬ off<0:=fun h=>hw (.inl h)
  have o1:¬ (L:Int)<off:=fun h=>hw (.inr (.inl h))
  have o2:¬ (L:Int) - off<n:=fun h=>hw (.inr (.inr h))
  have e:readB b off n=((b.drop off.toNat).take n.toNat,0):=by unfold readB;rw [if_neg n0,if_neg (by rw [HL.out];exact hw)]
  have HE:=Zh (HRD.out.trans e)
  clear e hw
  obtain ⟨k,rfl⟩:∃ k:Nat,off=k:=⟨off.toNat,by omega⟩
  obtain ⟨m,rfl⟩:∃ m:Nat,n=m:=⟨n.toNat,by omega⟩
  have HE2:=Zh (show readV V nm k m=((b.drop k).take m,0) by have:=HE.out;rw [Int.toNat_natCast,Int.toNat_natCast] at this;exact this)
  clear HE
  have d1:decide ((k:Int)<0)=false:=decide_eq_false o0
  have d2:decide ((L:Int)<(k:Int))=false:=decide_eq_false o1
  have d3:decide ((L:Int) - (k:Int)<(m:Int))=false:=decide_eq_false o2
  have hwr:IntKind.i64.wrap ((L:Int) - (k:Int))=(L:Int) - (k:Int):=by rw [IntKind.wrap_i64];omega
  obtain ⟨j,hj⟩:∃ j,k+m=j:=⟨_,rfl⟩
  have hsum:(k:Int)+(m:Int)=(j:Int):=by omega
  have hwj:IntKind.i64.wrap (j:Int)=(j:Int):=by rw [IntKind.wrap_i64];omega
  have i1:(k:Int)≤(j:Int):=by omega
  have i2:(j:Int)≤(c:Int):=by omega
  have i3:(0:Int)≤(k:Int):=by omega
  have hjk:j - k=m:=by omega
  have hkm:k+m≤L:=by omega
  have h512:m≤512:=by omega
  have hlen:((b.drop k).take m).length=m:=by rw [List.length_take,List.length_drop,HL.out];omega
  have HPC0:Hid (∃ A',(∀ a,A=some a→A'=some (if c=k then a else a.add k))∧(A=none→A'=none)∧Zw I (.slice A' m (c - k)) ((b.drop k).take m)):=Zh (by
   cases A with
   | none =>
    obtain ⟨A9,c9,e9,_,_,_,hn9,_⟩:=HBI.out
    simp only [Value.slice.injEq] at e9
    obtain ⟨rfl,_,rfl⟩:=e9
    have hc0:c=0:=hn9 rfl
    have hb0:b.length=0:=by have:=HL.out;omega
    have:b=[]:=List.eq_nil_of_length_eq_zero hb0
    subst this
    have hm0:m=0:=by omega
    subst hm0
    refine ⟨none,(fun a h=>by cases h),(fun _=>rfl),?_⟩
    rw [hc0]
    simp only [Nat.zero_sub,List.take_zero]
    exact bytesI_none I
   | some a=>exact ⟨_,(fun a' h=>by cases h;rfl),(fun h=>by cases h),Zw.piece (L:=L) (by have:=HBI.out;rw [HL.out] at this;exact this) HL.out.symm hkm⟩)
  have HHJ:=Zh hj
  have HLEN:=Zh hlen
  clear hj hlen
  cases A with
  | none =>
   obtain ⟨A',_,hA,hpc⟩:=HPC0.out
   obtain rfl:=hA rfl
   have hpr:RowI I 1 (.slice none m (c - k)) m (((b.drop k).take m).map byteV):=by
    have:=hpc
    unfold Zw at this
    rw [HLEN.out] at this
    (try rw [Nat.sub_self] at this)
    exact this
   have HE3:=Zh HE2.out
   have HLE:=Zh HLEN.out
   clear hpc HLEN HE2
   obtain ⟨P,hP⟩:∃ P,(b.drop k).take m=P:=⟨_,rfl⟩
   rw [hP] at hpr HE3 HLE
   clear hA hP HPC0 HBI
   have HCL:=Zh (fun (wx:World) (l':List HP) (hst:St W I wx l')=>Za4 _ _ _ wx (hpr.src hst.imm (Zac _) (by decide)) (by omega))
   clear hpr
   go_wp2_with fail
   refine (HCL.out _ _ H6.out).mono ?_
   rintro x w7 ⟨v',rfl,hown,hb7⟩
   obtain ⟨I9,hs9,hr9,h9⟩:=(H6.out.row_fresh hb7 hown).freeze_row
   obtain ⟨B2,c2,rfl⟩:=ZD hown
   have HR9:=Zh hr9
   have H9:=Zh h9
   have HS9:=Zh hs9
   clear hown hb7 hs9 hr9 h9 HCL
   go_wp2_with fail
   go_ret2
   rw [HE3.out]
   exact ⟨I9,HS9.out,_,rfl,by unfold Zw;rw [HLE.out];exact HR9.out,H9.out.drop⟩
  | some a =>
   by_cases hck:c=k
   ·obtain ⟨A',hA,_,hpc⟩:=HPC0.out
    have hA2:=hA a rfl
    rw [if_pos hck] at hA2
    subst hA2
    subst hck
    have hpr:RowI I 1 (.slice (some a) m 0) m (((b.drop c).take m).map byteV):=by
     have:=hpc
     unfold Zw at this
     rw [HLEN.out] at this
     (try rw [Nat.sub_self] at this)
     exact this
    have HE3:=Zh HE2.out
    have HLE:=Zh HLEN.out
    clear hpc HLEN HE2
    obtain ⟨P,hP⟩:∃ P,(b.drop c).take m=P:=⟨_,rfl⟩
    rw [hP] at hpr HE3 HLE
    clear hA hP HPC0 HBI
    have HCL:=Zh (fun (wx:World) (l':List HP) (hst:St W I wx l')=>Za4 _ _ _ wx (hpr.src hst.imm (Zac _) (by decide)) (by omega))
    clear hpr
    go_wp2_with fail
    refine (HCL.out _ _ H6.out).mono ?_
    rintro x w7 ⟨v',rfl,hown,hb7⟩
    obtain ⟨I9,hs9,hr9,h9⟩:=(H6.out.row_fresh hb7 hown).freeze_row
    obtain ⟨B2,c2,rfl⟩:=ZD hown
    have HR9:=Zh hr9
    have H9:=Zh h9
    have HS9:=Zh hs9
    clear hown hb7 hs9 hr9 h9 HCL
    go_wp2_with fail
    go_ret2
    rw [HE3.out]
    exact ⟨I9,HS9.out,_,rfl,by unfold Zw;rw [HLE.out];exact HR9.out,H9.out.drop⟩
   ·obtain ⟨A',hA,_,hpc⟩:=HPC0.out
    have hA2:=hA a rfl
    rw [if_neg hck] at hA2
    subst hA2
    obtain ⟨ab,ao,ap⟩:=a
    have hpr:RowI I 1 (.slice (some (Addr.add ⟨ab,ao,ap⟩ k)) m (c - k)) m (((b.drop k).take m).map byteV):=by
     have:=hpc
     unfold Zw at this
     rw [HLEN.out] at this
     (try rw [Nat.sub_self] at this)
     exact this
    have HE3:=Zh HE2.out
    have HLE:=Zh HLEN.out
    clear hpc HLEN HE2
    obtain ⟨P,hP⟩:∃ P,(b.drop k).take m=P:=⟨_,rfl⟩
    rw [hP] at hpr HE3 HLE
    clear hA hP HPC0 HBI
    have HCL:=Zh (fun (wx:World) (l':List HP) (hst:St W I wx l')=>Za4 _ _ _ wx (hpr.src hst.imm (Zac _) (by decide)) (by omega))
    clear hpr
    go_wp2_with fail
    refine (HCL.out _ _ H6.out).mono ?_
    rintro x w7 ⟨v',rfl,hown,hb7⟩
    obtain ⟨I9,hs9,hr9,h9⟩:=(H6.out.row_fresh hb7 hown).freeze_row
    obtain ⟨B2,c2,rfl⟩:=ZD hown
    have HR9:=Zh hr9
    have H9:=Zh h9
    have HS9:=Zh hs9
    clear hown hb7 hs9 hr9 h9 HCL
    go_wp2_with fail
    go_ret2
    rw [HE3.out]
    exact ⟨I9,HS9.out,_,rfl,by unfold Zw;rw [HLE.out];exact HR9.out,H9.out.drop⟩
theorem rread14_spec (V:Vw) (v:Value) (nm:ByteArray) (off n:Int) (hs:St W I w l) (hv:VwI I v V) (hb:VwB V) :
  Calls Tryz.prog 24 #[v,.string nm,.int .i64 off,.int .i64 n] w fun e w'=>∃ I',I.sub I'∧∃ x,e=.returned (.tuple #[x,.int .i64 (readV V nm off n).2])∧Zw I' x (readV V nm off n).1∧St W I' w' l:=by
 obtain ⟨vd,vs,M,rfl,hd,hr,ho⟩:=hv
 obtain ⟨A0,c0,rfl,_⟩:=hd.cap
 obtain ⟨B0,d0,rfl,_⟩:=hr.cap
 have hml:=ho.len
 have h1:=hb.data
 have h2:=hb.few
 have hst:=hs.alloc (.cells #[.slice A0 V.data.length c0,.slice B0 M.length d0] 35)
 obtain ⟨g4,hg4⟩:∃ g,w.heap.size=g:=⟨_,rfl⟩
 rw [hg4] at hst
 have HG:=Zh hg4
 have HST:=Zh hst
 have HD:=Zh hd
 have HR:=Zh hr
 have HO:=Zh ho
 have HB:=Zh hb
 have FIND:=Zh (fun (wx:World) (l':List HP) (hst:St W I wx l')=>ZgK M (.slice A0 V.data.length c0) (.slice B0 M.length d0) nm ⟨_,_,_,rfl⟩ wx (hr.src hst.imm (ZbA ho.sl) (by decide)) ho.sl (by omega))
 have hfm:findI (M.map (·.1)) nm=findI (V.snaps.map (·.1)) nm:=by rw [ho.1]
 have HFM:=Zh hfm
 clear hs hd hr ho hb hst hml h1 h2 hg4 hfm
 go_enter Tryz.func24,Tryz.ntmps24
 go_upto_if 15 with fail
 rw [HG.out]
 have h4:=HST.out
 generalize (World.alloc _ _:World)=w4 at h4 ⊢
 have H4:=Zh h4
 obtain ⟨y0,y1⟩:=Zq h4
 clear h4 HST HG
 go_cut [10] from 11 (fun s10 wc=>∃ (b:List Int) (A:Option Addr) (c:Nat),s10=.slice A b.length c∧Zw I (.slice A b.length c) b∧b.length≤512∧readV V nm off n=readB b off n∧∃ l2,St W I wc (l2::l))
 case first =>
  by_cases hnm:nm=⟨#[]⟩
  ·subst hnm
   rw [show (⟨#[]⟩:ByteArray).toList.isEmpty=true by decide +kernel,Bool.not_true]
   go_wp2_with fail
   go_meet
   exact ⟨V.data,A0,c0,rfl,HD.out,HB.out.data,by unfold readV;rw [if_pos rfl],_,H4.out⟩
  ·have e4:(nm.toList==(⟨#[]⟩:ByteArray).toList)=false:=Zfd hnm
   have e5:nm.toList.isEmpty=false:=by
    cases q:nm.toList.isEmpty with
    | false=>rfl
    | true =>
     rw [List.isEmpty_iff.1 q,show (([]:List UInt8)==(⟨#[]⟩:ByteArray).toList)=true by decide +kernel] at e4
     cases e4
   have HNM:=Zh hnm
   rw [e5,Bool.not_false]
   clear hnm e4 e5
   have HFI:=Zh (FIND.out _ _ H4.out)
   clear FIND
   go_wp2_with fail
   refine HFI.out.mono ?_
   rintro x w5 ⟨rfl,hb5⟩
   have h5:=H4.out.keep hb5
   clear y0 y1
   obtain ⟨y0,y1⟩:=Zq h5
   have H5:=Zh h5
   rw [HFM.out]
   cases hfi:findI (V.snaps.map (·.1)) nm with
   | none =>
    have HF:=Zh hfi
    clear hfi hb5 h5 HFI
    simp only [fnI]
    have d0:decide ((-1:Int)<0)=true:=by decide
    go_wp2_with fail
    go_ret2
    have e:readV V nm off n=([],4):=by unfold readV;rw [if_neg HNM.out,HF.out]
    rw [e]
    exact ⟨I,Hp.sub.refl _,_,rfl,bytesI_none _,H5.out.drop⟩
   | some i =>
    obtain ⟨x,hx,_⟩:=findI_at hfi
    rw [←HO.out.1] at hx
    rw [List.getElem?_map] at hx
    obtain ⟨m,hm,_⟩:=Option.map_eq_some_iff.1 hx
    obtain ⟨hi,_⟩:=List.getElem?_eq_some_iff.1 hm
    have hml:=HO.out.len
    obtain ⟨s,hs⟩:∃ s,V.snaps[i]?=some s:=⟨_,List.getElem?_eq_getElem (by omega)⟩
    have hbs:=HO.out.2 i m s hm hs
    obtain ⟨As,cs,es,_⟩:=hbs.cap
    obtain ⟨b,bo,e1,hc⟩:=ZbJ (i:=i) (mk:=ocell) (k:=2) HR.out (Hp.sub.refl _) h5 (fun _=>rfl) hm
    simp only [Value.slice.injEq,and_true,true_and] at e1
    subst e1
    obtain ⟨ms,mv⟩:=m
    simp only at es hbs
    subst es
    have z1:w5.cell? ⟨b,bo+i*2+1,none⟩=some (.slice As s.2.length cs):=hc 1 (by decide)
    have HBS:=Zh hbs
    have HE:=Zh (show readV V nm off n=readB s.2 off n by
     unfold readV
     rw [if_neg HNM.out,hfi]
     show readB (V.snaps.getD i (nm,[])).2 off n=_
     rw [List.getD_eq_getElem?_getD,hs]
     rfl)
    have HSL:=Zh (HB.out.each s (List.mem_of_getElem? hs))
    have d1:decide ((i:Int)<0)=false:=by rw [decide_eq_false_iff_not];omega
    clear hfi hx hm hml hs hbs hc hb5 h5 HFI
    simp only [fnI]
    go_wp2_with fail
    go_meet
    exact ⟨s.2,As,cs,rfl,HBS.out,HSL.out,HE.out,_,H5.out⟩
 case rest =>
  obtain ⟨b,A,c,rfl,hbi,hbl,hrd,l2,h6⟩:=hcut
  have HRD:=Zh hrd
  have H6:=Zh h6
  have HBI:=Zh hbi
  obtain ⟨_,cc,ec,hbc⟩:=hbi.cap
  simp only [Value.slice.injEq,true_and] at ec
  obtain ⟨rfl,rfl⟩:=ec
  obtain ⟨L,hL⟩:∃ L,b.length=L:=⟨_,rfl⟩
  have hcm:c≤maxLen:=by
   obtain ⟨_,_,e,_,_,h,_⟩:=hbi
   simp only [Value.slice.injEq] at e
   omega
  unfold maxLen at hcm
  rw [hL] at hbc hbl ⊢
  have HL:=Zh hL
  clear hrd hbi h6 hL y0 y1 FIND H4 HD HR HO
  by_cases n0:n<0
  ·have d0:decide (n<0)=true:=decide_eq_true n0
   have e:readB b off n=([],1):=by unfold readB;rw [if_pos n0]
   have HE:=Zh (HRD.out.trans e)
   clear e
   go_wp2_with fail
   go_ret2
   rw [HE.out]
   exact ⟨I,Hp.sub.refl _,_,rfl,bytesI_none _,H6.out.drop⟩
  have d0:decide (n<0)=false:=decide_eq_false n0
  by_cases hw:off<0∨(L:Int)<off∨(L:Int) - off<n
  ·have e:readB b off n=([],3):=by unfold readB;rw [if_neg n0,if_pos (by rw [HL.out];exact hw)]
   have HE:=Zh (HRD.out.trans e)
   clear e
   by_cases o0:off<0
   ·have d1:decide (off<0)=true:=decide_eq_true o0
    clear hw
    go_wp2_with fail
    go_ret2
    rw [HE.out]
    exact ⟨I,Hp.sub.refl _,_,rfl,bytesI_none _,H6.out.drop⟩
   have d1:decide (off<0)=false:=decide_eq_false o0
   by_cases o1:(L:Int)<off
   ·have d2:decide ((L:Int)<off)=true:=decide_eq_true o1
    clear hw
    go_wp2_with fail
    go_ret2
    rw [HE.out]
    exact ⟨I,Hp.sub.refl _,_,rfl,bytesI_none _,H6.out.drop⟩
   have d2:decide ((L:Int)<off)=false:=decide_eq_false o1
   have o2:(L:Int) - off<n:=by omega
   have hwr:IntKind.i64.wrap ((L:Int) - off)=(L:Int) - off:=by rw [IntKind.wrap_i64];omega
   have d3:decide ((L:Int) - off<n)=true:=decide_eq_true o2
   clear hw
   go_wp2_with fail
   go_ret2
   rw [HE.out]
   exact ⟨I,Hp.sub.refl _,_,rfl,bytesI_none _,H6.out.drop⟩
  have o0:¬ off<0:=fun h=>hw (.inl h)
  have o1:¬ (L:Int)<off:=fun h=>hw (.inr (.inl h))
  have o2:¬ (L:Int) - off<n:=fun h=>hw (.inr (.inr h))
  have e:readB b off n=((b.drop off.toNat).take n.toNat,0):=by unfold readB;rw [if_neg n0,if_neg (by rw [HL.out];exact hw)]
  have HE:=Zh (HRD.out.trans e)
  clear e hw
  obtain ⟨k,rfl⟩:∃ k:Nat,off=k:=⟨off.toNat,by omega⟩
  obtain ⟨m,rfl⟩:∃ m:Nat,n=m:=⟨n.toNat,by omega⟩
  have HE2:=Zh (show readV V nm k m=((b.drop k).take m,0) by have:=HE.out;rw [Int.toNat_natCast,Int.toNat_natCast] at this;exact this)
  clear HE
  have d1:decide ((k:Int)<0)=false:=decide_eq_false o0
  have d2:decide ((L:Int)<(k:Int))=false:=decide_eq_false o1
  have d3:decide ((L:Int) - (k:Int)<(m:Int))=false:=decide_eq_false o2
  have hwr:IntKind.i64.wrap ((L:Int) - (k:Int))=(L:Int) - (k:Int):=by rw [IntKind.wrap_i64];omega
  obtain ⟨j,hj⟩:∃ j,k+m=j:=⟨_,rfl⟩
  have hsum:(k:Int)+(m:Int)=(j:Int):=by omega
  have hwj:IntKind.i64.wrap (j:Int)=(j:Int):=by rw [IntKind.wrap_i64];omega
  have i1:(k:Int)≤(j:Int):=by omega
  have i2:(j:Int)≤(c:Int):=by omega
  have i3:(0:Int)≤(k:Int):=by omega
  have hjk:j - k=m:=by omega
  have hkm:k+m≤L:=by omega
  have h512:m≤512:=by omega
  have hlen:((b.drop k).take m).length=m:=by rw [List.length_take,List.length_drop,HL.out];omega
  have HPC0:Hid (∃ A',(∀ a,A=some a→A'=some (if c=k then a else a.add k))∧(A=none→A'=none)∧Zw I (.slice A' m (c - k)) ((b.drop k).take m)):=Zh (by
   cases A with
   | none =>
    obtain ⟨A9,c9,e9,_,_,_,hn9,_⟩:=HBI.out
    simp only [Value.slice.injEq] at e9
    obtain ⟨rfl,_,rfl⟩:=e9
    have hc0:c=0:=hn9 rfl
    have hb0:b.length=0:=by have:=HL.out;omega
    have:b=[]:=List.eq_nil_of_length_eq_zero hb0
    subst this
    have hm0:m=0:=by omega
    subst hm0
    refine ⟨none,(fun a h=>by cases h),(fun _=>rfl),?_⟩
    rw [hc0]
    simp only [Nat.zero_sub,List.take_zero]
    exact bytesI_none I
   | some a=>exact ⟨_,(fun a' h=>by cases h;rfl),(fun h=>by cases h),Zw.piece (L:=L) (by have:=HBI.out;rw [HL.out] at this;exact this) HL.out.symm hkm⟩)
  have HHJ:=Zh hj
  have HLEN:=Zh hlen
  clear hj hlen
  cases A with
  | none =>
   obtain ⟨A',_,hA,hpc⟩:=HPC0.out
   obtain rfl:=hA rfl
   have hpr:RowI I 1 (.slice none m (c - k)) m (((b.drop k).take m).map byteV):=by
    have:=hpc
    unfold Zw at this
    rw [HLEN.out] at this
    (try rw [Nat.sub_self] at this)
    exact this
   have HE3:=Zh HE2.out
   have HLE:=Zh HLEN.out
   clear hpc HLEN HE2
   obtain ⟨P,hP⟩:∃ P,(b.drop k).take m=P:=⟨_,rfl⟩
   rw [hP] at hpr HE3 HLE
   clear hA hP HPC0 HBI
   have h7:=H6.out.row_empty 5 1
   obtain ⟨v2,w2,hr2,h2⟩:=St.bytes_append 32 h7 (hpr.src h7.imm (Zac _) (by decide)) (by omega)
   rw [Nat.zero_add,ZP] at h2
   obtain ⟨B2,c2,rfl⟩:=ZD h2.row_owns
   obtain ⟨I9,hs9,hr9,h9⟩:=h2.freeze_row
   have HR2:=Zh hr2
   have HR9:=Zh hr9
   have H9:=Zh h9
   have HS9:=Zh hs9
   clear hpr h7 h2 hr2 hr9 h9 hs9
   go_wp2_with (at_builtin;refine Lib.wpList_append_run _ rfl (.tmp 45) (.tmp 51) 32 32 rfl _ _ rfl rfl _ _ HR2.out ?_)
   go_ret2
   rw [HE3.out]
   exact ⟨I9,HS9.out,_,rfl,by unfold Zw;rw [HLE.out];exact HR9.out,H9.out.drop⟩
  | some a =>
   by_cases hck:c=k
   ·obtain ⟨A',hA,_,hpc⟩:=HPC0.out
    have hA2:=hA a rfl
    rw [if_pos hck] at hA2
    subst hA2
    subst hck
    have hpr:RowI I 1 (.slice (some a) m 0) m (((b.drop c).take m).map byteV):=by
     have:=hpc
     unfold Zw at this
     rw [HLEN.out] at this
     (try rw [Nat.sub_self] at this)
     exact this
    have HE3:=Zh HE2.out
    have HLE:=Zh HLEN.out
    clear hpc HLEN HE2
    obtain ⟨P,hP⟩:∃ P,(b.drop c).take m=P:=⟨_,rfl⟩
    rw [hP] at hpr HE3 HLE
    clear hA hP HPC0 HBI
    have h7:=H6.out.row_empty 5 1
    obtain ⟨v2,w2,hr2,h2⟩:=St.bytes_append 32 h7 (hpr.src h7.imm (Zac _) (by decide)) (by omega)
    rw [Nat.zero_add,ZP] at h2
    obtain ⟨B2,c2,rfl⟩:=ZD h2.row_owns
    obtain ⟨I9,hs9,hr9,h9⟩:=h2.freeze_row
    have HR2:=Zh hr2
    have HR9:=Zh hr9
    have H9:=Zh h9
    have HS9:=Zh hs9
    clear hpr h7 h2 hr2 hr9 h9 hs9
    go_wp2_with (at_builtin;refine Lib.wpList_append_run _ rfl (.tmp 45) (.tmp 51) 32 32 rfl _ _ rfl rfl _ _ HR2.out ?_)
    go_ret2
    rw [HE3.out]
    exact ⟨I9,HS9.out,_,rfl,by unfold Zw;rw [HLE.out];exact HR9.out,H9.out.drop⟩
   ·obtain ⟨A',hA,_,hpc⟩:=HPC0.out
    have hA2:=hA a rfl
    rw [if_neg hck] at hA2
    subst hA2
    obtain ⟨ab,ao,ap⟩:=a
    have hpr:RowI I 1 (.slice (some (Addr.add ⟨ab,ao,ap⟩ k)) m (c - k)) m (((b.drop k).take m).map byteV):=by
     have:=hpc
     unfold Zw at this
     rw [HLEN.out] at this
     (try rw [Nat.sub_self] at this)
     exact this
    have HE3:=Zh HE2.out
    have HLE:=Zh HLEN.out
    clear hpc HLEN HE2
    obtain ⟨P,hP⟩:∃ P,(b.drop k).take m=P:=⟨_,rfl⟩
    rw [hP] at hpr HE3 HLE
    clear hA hP HPC0 HBI
    have h7:=H6.out.row_empty 5 1
    obtain ⟨v2,w2,hr2,h2⟩:=St.bytes_append 32 h7 (hpr.src h7.imm (Zac _) (by decide)) (by omega)
    rw [Nat.zero_add,ZP] at h2
    obtain ⟨B2,c2,rfl⟩:=ZD h2.row_owns
    obtain ⟨I9,hs9,hr9,h9⟩:=h2.freeze_row
    have HR2:=Zh hr2
    have HR9:=Zh hr9
    have H9:=Zh h9
    have HS9:=Zh hs9
    clear hpr h7 h2 hr2 hr9 h9 hs9
    go_wp2_with (at_builtin;refine Lib.wpList_append_run _ rfl (.tmp 45) (.tmp 51) 32 32 rfl _ _ rfl rfl _ _ HR2.out ?_)
    go_ret2
    rw [HE3.out]
    exact ⟨I9,HS9.out,_,rfl,by unfold Zw;rw [HLE.out];exact HR9.out,H9.out.drop⟩
end
end Go.Proofs.YtcbdghojlbpomaaGreat
namespace Go.Proofs.YtcbdghojlbpomaaGreat
open Go.RowKit
section
variable {W w : World} {I : Hp} {l : List HP} {p q : Nat} {S : Str}
set_option maxRecDepth 4000
set_option maxHeartbeats 8000000
theorem IJ.view (h:Hd) (R:List RO) {m:Nat} (hs:St W I w (Zd p S::imgHP q p h::l)) (J:IJ S h R) (hk:Keeps S m) :
  Calls Tryz.prog 20 #[.pointer (some ⟨q,0,none⟩)] w fun e w'=>∃ I' v,I.sub I'∧e=.returned (.tuple #[v,.int .i64 0])∧VwI I' v (viewI h R)∧St W I' w' (Zd p S::imgHP q p h::l) :=
 Zhd h R hs hk.inv J.ok J.st.live.on (fun snap s0 s1=>J.st.reads J.hd.mid s0 s1)
theorem iread_spec (h:Hd) (R:List RO) (nm:ByteArray) (off n:Int) {m:Nat} (hs:St W I w (Zd p S::imgHP q p h::l)) (J:IJ S h R) (hk:Keeps S m) :
  Calls Tryz.prog 23 #[.pointer (some ⟨q,0,none⟩),.string nm,.int .i64 off,.int .i64 n] w fun e w'=>∃ I',I.sub I'∧∃ x,e=.returned (.tuple #[x,.int .i64 (readV (viewI h R) nm off n).2])∧Zw I' x (readV (viewI h R) nm off n).1∧St W I' w' (Zd p S::imgHP q p h::l):=by
 have HVI:=Zh (J.view h R hs hk)
 have HVB:=Zh (VwB.view J.hd)
 clear hs J hk
 go_enter Tryz.func23,Tryz.ntmps23
 go_wp2_with fail
 refine HVI.out.mono ?_
 rintro e w2 ⟨I2,v,hs2,rfl,hv,h2⟩
 obtain ⟨A,k,c,B,m2,d,rfl,hkk⟩:=ZhL hv
 have h3:=h2.alloc (.cells #[.slice A k c,.slice B m2 d] 35)
 obtain ⟨g,hg⟩:∃ g,w2.heap.size=g:=⟨_,rfl⟩
 rw [hg] at h3
 have HG:=Zh hg
 have H3:=Zh h3
 have HV:=Zh hv
 have HS2:=Zh hs2
 clear h2 h3 hg hv hs2 HVI hkk
 go_upto_if 18 with fail
 rw [HG.out]
 have h3:=H3.out
 generalize (World.alloc _ _:World)=w3 at h3 ⊢
 obtain ⟨y0,y1⟩:=Zq h3
 have HRD:=Zh (mread_spec (viewI h R) _ nm off n h3 HV.out HVB.out)
 clear h3 H3 HG HV
 go_wp2_with fail
 refine HRD.out.mono ?_
 rintro e w4 ⟨I4,hs4,x,rfl,hx,h4⟩
 obtain ⟨A4,c4,rfl,_⟩:=hx.cap
 have HX:=Zh hx
 have HS4:=Zh (HS2.out.trans hs4)
 have H4:=Zh h4.drop
 clear hs4 hx h4 HRD HS2
 go_wp2_with fail
 go_ret2
 exact ⟨I4,HS4.out,_,rfl,HX.out,H4.out⟩
end
end Go.Proofs.YtcbdghojlbpomaaGreat
