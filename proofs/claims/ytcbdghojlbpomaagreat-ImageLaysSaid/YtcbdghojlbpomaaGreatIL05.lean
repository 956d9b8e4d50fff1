import Derived.Test.YtcbdghojlbpomaaGreatIL04
set_option linter.all false
namespace Go.Proofs.YtcbdghojlbpomaaGreat
open Tryz
open HP (pt mapOf)
open Go.IntKind (i64 u64)
open Go.Value (int pointer slice)
open Go.Obj (cells)
open Go.RowKit
def readB (b:List Int) (off n:Int):List Int × Int :=
 if n<0 then ([],1) else if off<0∨(b.length:Int)<off∨(b.length:Int) - off<n then ([],3) else ((b.drop off.toNat).take n.toNat,0)
def readV (V:Vw) (nm:ByteArray) (off n:Int):List Int × Int :=
 if nm=⟨#[]⟩ then readB V.data off n else match findI (V.snaps.map (·.1)) nm with
 | none=>([],4)
 | some i=>readB (V.snaps.getD i (nm,[])).2 off n
theorem bytesI_none (I:Hp):Zw I (slice none 0 0) []:=⟨none,0,rfl,by simp,Z9 _,by unfold maxLen;omega,fun _=>rfl,fun h=>absurd h (by simp)⟩
theorem Zw.piece {I:Hp} {L c:Nat} {a:Addr} {b:List Int} (h:Zw I (slice (some a) L c) b) (hL:L=b.length) {k m:Nat} (hk:k+m<=L):Zw I (slice (some (if c=k then a else a.add k)) m (c - k)) ((b.drop k).take m):=by
 subst hL;have h1:=RowI.pre (RowI.rest h (k:=k) (by omega)) (k:=m) (by omega);rw [ZaT,ZaT,<-Zdb,<-ZcR] at h1;have hl:m=((b.drop k).take m).length:=by rw [ZN,Zas];omega
 unfold Zw;rw [<-hl];exact h1
theorem findI_at {ns:List ByteArray} {nm:ByteArray} {i:Nat} (h:findI ns nm=some i):∃ x,ns[i]?=some x∧x=nm:=by
 unfold findI at h;rw [List.findIdx?_eq_some_iff_getElem] at h;obtain ⟨h1,h2,_⟩:=h;exact ⟨_,ZL h1,of_decide_eq_true h2⟩
section
variable {W w : World} {I : Hp} {l : List HP} {p q : Nat} {S : Str}
set_option maxRecDepth 4000
set_option maxHeartbeats 8000000
theorem mread_spec (V:Vw) (v:Value) (nm:ByteArray) (off n:Int) (hs:St W I w l) (hv:VwI I v V) (hb:VwB V) :
  Calls prog 84 #[v,.string nm,int i64 off,int i64 n] w fun e w'=>∃ I',I.sub I'∧∃ x,e=.returned (.tuple #[x,int i64 (readV V nm off n).2])∧Zw I' x (readV V nm off n).1∧St W I' w' l:=by
 obtain ⟨vd,vs,M,rfl,hd,hr,ho⟩:=hv;obtain ⟨A0,c0,rfl,_⟩:=hd.cap;obtain ⟨B0,d0,rfl,_⟩:=hr.cap;have hml:=ho.len;have h1:=hb.data;have h2:=hb.few;have hst:=hs.alloc (cells #[slice A0 V.data.length c0,slice B0 M.length d0] 35);obtain ⟨g4,hg4⟩:∃ g,w.heap.size=g:=⟨_,rfl⟩;rw [hg4] at hst;have HG:=Zh hg4;have HST:=Zh hst;have HD:=Zh hd;have HR:=Zh hr;have HO:=Zh ho;have HB:=Zh hb;have FIND:=Zh (fun (wx:World) (l':List HP) (hst:St W I wx l')=>ZnM M (slice A0 V.data.length c0) (slice B0 M.length d0) nm ⟨_,_,_,rfl⟩ wx (hr.src hst.imm (ZbA ho.sl) (by decide)) ho.sl (by omega));have hfm:findI (M.map (·.1)) nm=findI (V.snaps.map (·.1)) nm:=by rw [ho.1]
 have HFM:=Zh hfm;clear hs hd hr ho hb hst hml h1 h2 hg4 hfm;go_enter func84,ntmps84;go_upto_if 15 with fail;rw [HG.o];have h4:=HST.o;generalize (World.alloc _ _:World)=w4 at h4 |-;have H4:=Zh h4;obtain ⟨y0,y1⟩:=Zq h4;clear h4 HST HG;go_cut [10] from 11 (fun s10 wc=>∃ (b:List Int) (A:Option Addr) (c:Nat),s10=slice A b.length c∧Zw I (slice A b.length c) b∧b.length<=512∧readV V nm off n=readB b off n∧∃ l2,St W I wc (l2::l));case first =>
  by_cases hnm:nm=⟨#[]⟩
  ·subst hnm;rw [show (⟨#[]⟩:ByteArray).toList.isEmpty=true by decide +kernel,Bool.not_true];go_wp2_with fail;go_meet;exact ⟨V.data,A0,c0,rfl,HD.o,HB.o.data,by unfold readV;rw [Zb rfl],_,H4.o⟩
  ·have e4:(nm.toList==(⟨#[]⟩:ByteArray).toList)=false:=Zfd hnm;have e5:nm.toList.isEmpty=false:=by
    cases q:nm.toList.isEmpty with
    | false=>rfl
    | true =>
     rw [List.isEmpty_iff.1 q,show (([]:List UInt8)==(⟨#[]⟩:ByteArray).toList)=true by decide +kernel] at e4;cases e4
   have HNM:=Zh hnm;rw [e5,Bool.not_false];clear hnm e4 e5;have HFI:=Zh (FIND.o _ _ H4.o);clear FIND;go_wp2_with fail;refine HFI.o.mono ?_;rintro x w5 ⟨rfl,hb5⟩;have h5:=H4.o.keep hb5;clear y0 y1;obtain ⟨y0,y1⟩:=Zq h5;have H5:=Zh h5;rw [HFM.o];cases hfi:findI (V.snaps.map (·.1)) nm with
   | none =>
    have HF:=Zh hfi;clear hfi hb5 h5 HFI;simp only [fnI];have d0:decide ((-1:Int)<0)=true:=by decide
    go_wp2;go_ret2;have e:readV V nm off n=([],4):=by unfold readV;rw [Za HNM.o,HF.o]
    rw [e];exact ⟨I,Hp.sub.refl _,_,rfl,bytesI_none _,H5.o.drop⟩
   | some i =>
    obtain ⟨x,hx,_⟩:=findI_at hfi;rw [<-HO.o.1] at hx;rw [ZaN] at hx;obtain ⟨m,hm,_⟩:=Option.map_eq_some_iff.1 hx;obtain ⟨hi,_⟩:=ZS.1 hm;have hml:=HO.o.len;obtain ⟨s,hs⟩:∃ s,V.snaps[i]?=some s:=⟨_,ZL (by omega)⟩;have hbs:=HO.o.2 i m s hm hs;obtain ⟨As,cs,es,_⟩:=hbs.cap;obtain ⟨b,bo,e1,hc⟩:=ZbJ (i:=i) (mk:=ocell) (k:=2) HR.o (Hp.sub.refl _) h5 (fun _=>rfl) hm;simp only [ZF,Zae,ZK] at e1;subst e1;obtain ⟨ms,mv⟩:=m;simp only at es hbs;subst es;have z1:w5.cell? ⟨b,bo+i*2+1,none⟩=some (slice As s.2.length cs):=hc 1 (by decide);have HBS:=Zh hbs
    have HE:=Zh (show readV V nm off n=readB s.2 off n by
     unfold readV;rw [Za HNM.o,hfi];show readB (V.snaps.getD i (nm,[])).2 off n=_;rw [ZbF,hs]
     rfl)
    have HSL:=Zh (HB.o.each s (Zay hs));have d1:decide ((i:Int)<0)=false:=by rw [Zk];omega
    clear hfi hx hm hml hs hbs hc hb5 h5 HFI;simp only [fnI];go_wp2_with fail;go_meet;exact ⟨s.2,As,cs,rfl,HBS.o,HSL.o,HE.o,_,H5.o⟩
 case rest =>
  obtain ⟨b,A,c,rfl,hbi,hbl,hrd,l2,h6⟩:=hcut;have HRD:=Zh hrd;have H6:=Zh h6;have HBI:=Zh hbi;obtain ⟨_,cc,ec,hbc⟩:=hbi.cap;simp only [ZF,ZK] at ec;obtain ⟨rfl,rfl⟩:=ec;obtain ⟨L,hL⟩:∃ L,b.length=L:=⟨_,rfl⟩;have hcm:c<=maxLen:=by
   obtain ⟨_,_,e,_,_,h,_⟩:=hbi;simp only [ZF] at e;omega
  unfold maxLen at hcm;rw [hL] at hbc hbl |-;have HL:=Zh hL;clear hrd hbi h6 hL y0 y1 FIND H4 HD HR HO;by_cases n0:n<0
  ·have d0:decide (n<0)=true:=Zcb n0;have e:readB b off n=([],1):=by unfold readB;rw [Zb n0]
   have HE:=Zh (HRD.o.trans e);clear e;go_wp2;go_ret2;rw [HE.o];exact ⟨I,Hp.sub.refl _,_,rfl,bytesI_none _,H6.o.drop⟩
  have d0:decide (n<0)=false:=ZbH n0;by_cases hw:off<0∨(L:Int)<off∨(L:Int) - off<n
  ·have e:readB b off n=([],3):=by unfold readB;rw [Za n0,Zb (by rw [HL.o];exact hw)]
   have HE:=Zh (HRD.o.trans e);clear e;by_cases o0:off<0
   ·have d1:decide (off<0)=true:=Zcb o0;clear hw;go_wp2;go_ret2;rw [HE.o];exact ⟨I,Hp.sub.refl _,_,rfl,bytesI_none _,H6.o.drop⟩
   have d1:decide (off<0)=false:=ZbH o0;by_cases o1:(L:Int)<off
   ·have d2:decide ((L:Int)<off)=true:=Zcb o1;clear hw;go_wp2;go_ret2;rw [HE.o];exact ⟨I,Hp.sub.refl _,_,rfl,bytesI_none _,H6.o.drop⟩
   have d2:decide ((L:Int)<off)=false:=ZbH o1;have o2:(L:Int) - off<n:=by omega
   have hwr:IntKind.i64.wrap ((L:Int) - off)=(L:Int) - off:=by rw [Z2];omega
   have d3:decide ((L:Int) - off<n)=true:=Zcb o2;clear hw;go_wp2;go_ret2;rw [HE.o];exact ⟨I,Hp.sub.refl _,_,rfl,bytesI_none _,H6.o.drop⟩
  have o0:¬ off<0:=fun h=>hw (.inl h);have o1:¬ (L:Int)<off:=fun h=>hw (.inr (.inl h));have o2:¬ (L:Int) - off<n:=fun h=>hw (.inr (.inr h));have e:readB b off n=((b.drop off.toNat).take n.toNat,0):=by unfold readB;rw [Za n0,Za (by rw [HL.o];exact hw)]
  have HE:=Zh (HRD.o.trans e);clear e hw;obtain ⟨k,rfl⟩:∃ k:Nat,off=k:=⟨off.toNat,by omega⟩;obtain ⟨m,rfl⟩:∃ m:Nat,n=m:=⟨n.toNat,by omega⟩;have HE2:=Zh (show readV V nm k m=((b.drop k).take m,0) by have:=HE.o;rw [ZcT,ZcT] at this;exact this);clear HE;have d1:decide ((k:Int)<0)=false:=ZbH o0;have d2:decide ((L:Int)<(k:Int))=false:=ZbH o1;have d3:decide ((L:Int) - (k:Int)<(m:Int))=false:=ZbH o2;have hwr:IntKind.i64.wrap ((L:Int) - (k:Int))=(L:Int) - (k:Int):=by rw [Z2];omega
  obtain ⟨j,hj⟩:∃ j,k+m=j:=⟨_,rfl⟩;have hsum:(k:Int)+(m:Int)=(j:Int):=by omega
  have hwj:IntKind.i64.wrap (j:Int)=(j:Int):=by rw [Z2];omega
  have i1:(k:Int)<=(j:Int):=by omega
  have i2:(j:Int)<=(c:Int):=by omega
  have i3:(0:Int)<=(k:Int):=by omega
  have hjk:j - k=m:=by omega
  have hkm:k+m<=L:=by omega
  have h512:m<=512:=by omega
  have hlen:((b.drop k).take m).length=m:=by rw [ZN,Zas,HL.o];omega
  have HPC0:Hid (∃ A',(∀ a,A=some a->A'=some (if c=k then a else a.add k))∧(A=none->A'=none)∧Zw I (slice A' m (c - k)) ((b.drop k).take m)):=Zh (by
   cases A with
   | none =>
    obtain ⟨A9,c9,e9,_,_,_,hn9,_⟩:=HBI.o;simp only [ZF] at e9;obtain ⟨rfl,_,rfl⟩:=e9;have hc0:c=0:=hn9 rfl;have hb0:b.length=0:=by have:=HL.o;omega
    have:b=[]:=ZbZ hb0;subst this;have hm0:m=0:=by omega
    subst hm0;refine ⟨none,(fun a h=>by cases h),(fun _=>rfl),?_⟩;rw [hc0];simp only [Nat.zero_sub,List.take_zero];exact bytesI_none I
   | some a=>exact ⟨_,(fun a' h=>by cases h;rfl),(fun h=>by cases h),Zw.piece (L:=L) (by have:=HBI.o;rw [HL.o] at this;exact this) HL.o.symm hkm⟩)
  have HHJ:=Zh hj;have HLEN:=Zh hlen;clear hj hlen;cases A with
  | none =>
   obtain ⟨A',_,hA,hpc⟩:=HPC0.o;obtain rfl:=hA rfl;have hpr:RowI I 1 (slice none m (c - k)) m (((b.drop k).take m).map byteV):=by
    have:=hpc;unfold Zw at this;rw [HLEN.o] at this
    (try rw [Zfm] at this)
    exact this
   have HE3:=Zh HE2.o;have HLE:=Zh HLEN.o;clear hpc HLEN HE2;obtain ⟨P,hP⟩:∃ P,(b.drop k).take m=P:=⟨_,rfl⟩;rw [hP] at hpr HE3 HLE;clear hA hP HPC0 HBI;have HCL:=Zh (fun (wx:World) (l':List HP) (hst:St W I wx l')=>Za4 _ _ _ wx (hpr.src hst.imm (Zac _) (by decide)) (by omega));clear hpr;go_wp2_with fail;refine (HCL.o _ _ H6.o).mono ?_;rintro x w7 ⟨v',rfl,hown,hb7⟩;obtain ⟨I9,hs9,hr9,h9⟩:=(H6.o.row_fresh hb7 hown).freeze_row;obtain ⟨B2,c2,rfl⟩:=ZD hown;have HR9:=Zh hr9;have H9:=Zh h9;have HS9:=Zh hs9;clear hown hb7 hs9 hr9 h9 HCL;go_wp2;go_ret2;rw [HE3.o];exact ⟨I9,HS9.o,_,rfl,by unfold Zw;rw [HLE.o];exact HR9.o,H9.o.drop⟩
  | some a =>
   by_cases hck:c=k
   ·obtain ⟨A',hA,_,hpc⟩:=HPC0.o;have hA2:=hA a rfl;rw [Zb hck] at hA2;subst hA2;subst hck;have hpr:RowI I 1 (slice (some a) m 0) m (((b.drop c).take m).map byteV):=by
     have:=hpc;unfold Zw at this;rw [HLEN.o] at this
     (try rw [Zfm] at this)
     exact this
    have HE3:=Zh HE2.o;have HLE:=Zh HLEN.o;clear hpc HLEN HE2;obtain ⟨P,hP⟩:∃ P,(b.drop c).take m=P:=⟨_,rfl⟩;rw [hP] at hpr HE3 HLE;clear hA hP HPC0 HBI;have HCL:=Zh (fun (wx:World) (l':List HP) (hst:St W I wx l')=>Za4 _ _ _ wx (hpr.src hst.imm (Zac _) (by decide)) (by omega));clear hpr;go_wp2_with fail;refine (HCL.o _ _ H6.o).mono ?_;rintro x w7 ⟨v',rfl,hown,hb7⟩;obtain ⟨I9,hs9,hr9,h9⟩:=(H6.o.row_fresh hb7 hown).freeze_row;obtain ⟨B2,c2,rfl⟩:=ZD hown;have HR9:=Zh hr9;have H9:=Zh h9;have HS9:=Zh hs9;clear hown hb7 hs9 hr9 h9 HCL;go_wp2;go_ret2;rw [HE3.o];exact ⟨I9,HS9.o,_,rfl,by unfold Zw;rw [HLE.o];exact HR9.o,H9.o.drop⟩
   ·obtain ⟨A',hA,_,hpc⟩:=HPC0.o;have hA2:=hA a rfl;rw [Za hck] at hA2;subst hA2;obtain ⟨ab,ao,ap⟩:=a;have hpr:RowI I 1 (slice (some (Addr.add ⟨ab,ao,ap⟩ k)) m (c - k)) m (((b.drop k).take m).map byteV):=by
     have:=hpc;unfold Zw at this;rw [HLEN.o] at this
     (try rw [Zfm] at this)
     exact this
    have HE3:=Zh HE2.o;have HLE:=Zh HLEN.o;clear hpc HLEN HE2;obtain ⟨P,hP⟩:∃ P,(b.drop k).take m=P:=⟨_,rfl⟩;rw [hP] at hpr HE3 HLE;clear hA hP HPC0 HBI;have HCL:=Zh (fun (wx:World) (l':List HP) (hst:St W I wx l')=>Za4 _ _ _ wx (hpr.src hst.imm (Zac _) (by decide)) (by omega));clear hpr;go_wp2_with fail;refine (HCL.o _ _ H6.o).mono ?_;rintro x w7 ⟨v',rfl,hown,hb7⟩;obtain ⟨I9,hs9,hr9,h9⟩:=(H6.o.row_fresh hb7 hown).freeze_row;obtain ⟨B2,c2,rfl⟩:=ZD hown;have HR9:=Zh hr9;have H9:=Zh h9;have HS9:=Zh hs9;clear hown hb7 hs9 hr9 h9 HCL;go_wp2;go_ret2;rw [HE3.o];exact ⟨I9,HS9.o,_,rfl,by unfold Zw;rw [HLE.o];exact HR9.o,H9.o.drop⟩
end
end Go.Proofs.YtcbdghojlbpomaaGreat
namespace Go.Proofs.YtcbdghojlbpomaaGreat
open Tryz
open HP (pt mapOf)
open Go.IntKind (i64 u64)
open Go.Value (int pointer slice)
open Go.Obj (cells)
open Go.RowKit
theorem VwB.view {h:Hd} {R:List RO} (H:HdI h R):VwB (viewI h R):=by
 refine ⟨?_,?_,fun x hx=>?_⟩
 ·show (Zag h.l R 0 h.size).length<=512;rw [ZaO];exact H.ok.size
 ·show (h.seen.map _).length<=8;rw [ZE];exact H.ok.few
 ·obtain ⟨m,hm,rfl⟩:=ZH.1 hx;show (Zag h.l R m.id m.size).length<=512;rw [ZaO];exact H.ok.sizes m (ZcH hm)
section
variable {W w : World} {I : Hp} {l : List HP} {p q : Nat} {S : Str}
set_option maxRecDepth 8000
set_option maxHeartbeats 16000000
theorem ZhL {v:Value} {V:Vw} (hv:VwI I v V):∃ A n c B m d,v=.agg #[slice A n c,slice B m d]∧n=V.data.length:=by
 obtain ⟨vd,vs,M,rfl,hd,hr,ho⟩:=hv;obtain ⟨A0,c0,rfl,_⟩:=hd.cap;obtain ⟨B0,d0,rfl,_⟩:=hr.cap;exact ⟨_,_,_,_,_,_,rfl,rfl⟩
end
end Go.Proofs.YtcbdghojlbpomaaGreat
namespace Go.Proofs.YtcbdghojlbpomaaGreat
open Tryz
open HP (pt mapOf)
open Go.IntKind (i64 u64)
open Go.Value (int pointer slice)
open Go.Obj (cells)
open Go.RowKit
section
variable {W w : World} {I : Hp} {l : List HP} {p q : Nat} {S : Str}
set_option maxRecDepth 4000
set_option maxHeartbeats 8000000
theorem IJ.view (h:Hd) (R:List RO) {m:Nat} (hs:St W I w (Zd p S::imgHP q p h::l)) (J:IJ S h R) (hk:Keeps S m) :
  Calls prog 20 #[pointer (some ⟨q,0,none⟩)] w fun e w'=>∃ I' v,I.sub I'∧e=.returned (.tuple #[v,int i64 0])∧VwI I' v (viewI h R)∧St W I' w' (Zd p S::imgHP q p h::l) :=
 Zhd h R hs hk.inv J.ok J.st.live.on (fun snap s0 s1=>J.st.reads J.hd.mid s0 s1)
theorem iread_spec (h:Hd) (R:List RO) (nm:ByteArray) (off n:Int) {m:Nat} (hs:St W I w (Zd p S::imgHP q p h::l)) (J:IJ S h R) (hk:Keeps S m) :
  Calls prog 23 #[pointer (some ⟨q,0,none⟩),.string nm,int i64 off,int i64 n] w fun e w'=>∃ I',I.sub I'∧∃ x,e=.returned (.tuple #[x,int i64 (readV (viewI h R) nm off n).2])∧Zw I' x (readV (viewI h R) nm off n).1∧St W I' w' (Zd p S::imgHP q p h::l):=by
 have HVI:=Zh (J.view h R hs hk);have HVB:=Zh (VwB.view J.hd);clear hs J hk;go_enter func23,ntmps23;go_wp2_with fail;refine HVI.o.mono ?_;rintro e w2 ⟨I2,v,hs2,rfl,hv,h2⟩;obtain ⟨A,k,c,B,m2,d,rfl,hkk⟩:=ZhL hv;have h3:=h2.alloc (cells #[slice A k c,slice B m2 d] 35);obtain ⟨g,hg⟩:∃ g,w2.heap.size=g:=⟨_,rfl⟩;rw [hg] at h3;have HG:=Zh hg;have H3:=Zh h3;have HV:=Zh hv;have HS2:=Zh hs2;clear h2 h3 hg hv hs2 HVI hkk;go_upto_if 18 with fail;rw [HG.o];have h3:=H3.o;generalize (World.alloc _ _:World)=w3 at h3 |-;obtain ⟨y0,y1⟩:=Zq h3;have HRD:=Zh (mread_spec (viewI h R) _ nm off n h3 HV.o HVB.o);clear h3 H3 HG HV;go_wp2_with fail;refine HRD.o.mono ?_;rintro e w4 ⟨I4,hs4,x,rfl,hx,h4⟩;obtain ⟨A4,c4,rfl,_⟩:=hx.cap;have HX:=Zh hx;have HS4:=Zh (HS2.o.trans hs4);have H4:=Zh h4.drop;clear hs4 hx h4 HRD HS2;go_wp2;go_ret2;exact ⟨I4,HS4.o,_,rfl,HX.o,H4.o⟩
end
end Go.Proofs.YtcbdghojlbpomaaGreat
namespace Go.Proofs.YtcbdghojlbpomaaGreat
open Tryz
open HP (pt mapOf)
open Go.IntKind (i64 u64)
open Go.Value (int pointer slice)
open Go.Obj (cells)
open Go.RowKit
theorem readB_all (b:List Int):readB b 0 b.length=(b,0):=by
 unfold readB;rw [Za (by omega),Za (by omega),ZcT];show ((b.drop 0).take b.length,(0:Int))=_;rw [List.drop_zero,Zbk]
theorem readV_snap {V:Vw} (hd:(V.snaps.map (·.1)).Nodup) (hn:∀ x ∈ V.snaps,x.1≠⟨#[]⟩) {k:Nat} {x:ByteArray × List Int} (hx:V.snaps[k]?=some x):readV V x.1 0 x.2.length=(x.2,0):=by
 have hm:(V.snaps.map (·.1))[k]?=some x.1:=by rw [ZaN,hx];rfl
 have hf:findI (V.snaps.map (·.1)) x.1=some k:=Zjv (fun j hj b hb he=>by
  subst he;obtain ⟨h1,e1⟩:=ZS.1 hm;obtain ⟨h2,e2⟩:=ZS.1 hb
  exact Zia.1 hd j k h2 h1 hj (e2.trans e1.symm)) hm
 unfold readV;rw [Za (hn x (Zay hx)),hf];show readB (V.snaps.getD k (x.1,[])).2 0 x.2.length=_;rw [ZbF,hx];exact readB_all x.2
theorem view_names {h:Hd} (R:List RO) (H:h.Ok):((viewI h R).snaps.map (·.1)).Nodup∧∀ x ∈ (viewI h R).snaps,x.1≠⟨#[]⟩:=by
 have e:(viewI h R).snaps.map (·.1)=h.seen.map (·.name):=by
  show (h.seen.map _).map _=_;rw [ZdD];rfl
 refine ⟨e ▸ H.diff,fun x hx=>?_⟩;obtain ⟨m,hm,rfl⟩:=ZH.1 hx;have:=(Mk.named_size (H.names m (ZcH hm))).1;intro q;have q2:m.name=⟨#[]⟩:=q;rw [q2] at this;exact absurd this (by decide)
section
variable {W w : World} {I : Hp} {l : List HP} {p q : Nat} {S : Str}
set_option maxRecDepth 8000
set_option maxHeartbeats 16000000
end
end Go.Proofs.YtcbdghojlbpomaaGreat
namespace Go.Proofs.YtcbdghojlbpomaaGreat
open Tryz
open HP (pt mapOf)
open Go.IntKind (i64 u64)
open Go.Value (int pointer slice)
open Go.Obj (cells)
open Go.RowKit
theorem no_hold {ms:List Mk} (h:heldM ms=none):∀ m ∈ ms,holdN m.name=false:=fun m hm=>by
 have:=Zfo.1 h m hm;simpa using this
theorem DoR.nohold {h h':Hd} {R R':List RO} {e:Ev} {seq ans:Int} (D:DoR h R e seq ans h' R') (h0:heldM h.marks=none):heldM h'.marks=none:=by
 unfold DoR at D;split at D
 ·obtain ⟨_,rfl,_⟩:=D;exact h0
 ·rename_i c0;have hr:ZU e=true:=by
   cases q:ZU e with
   | true=>rfl
   | false=>exact absurd (.inl q) c0
  split at D
  ·obtain ⟨_,rfl,_⟩:=D;exact h0
  ·split at D
   ·split at D
    ·obtain ⟨_,rfl,_⟩:=D;exact h0
    ·obtain ⟨_,rfl,_⟩:=D;exact h0
   ·split at D
    ·obtain ⟨_,rfl,_⟩:=D;exact h0
    ·split at D
     ·obtain ⟨_,rfl,_⟩:=D;unfold ZaG;by_cases k4:e.kind=4
      ·rw [Zb k4];exact h0
      rw [Za k4];by_cases k5:e.kind=5
      ·rw [Zb k5];have hn:nameB e.name=true:=by
        rcases (Zbl e).1 hr with q|q|q|q|q
        ·omega
        ·omega
        ·omega
        ·exact q.2.2.2.2
        ·omega
       show heldM (h.marks++[⟨h.next,e.name,h.size,false⟩])=none;rw [ZmE,h0];show (if holdN e.name=true then _ else _)=_;rw [Zi1 hn,Za (by simp)]
      rw [Za k5];by_cases k6:e.kind=6
      ·rw [Zb k6];show heldM (ZaV _ _ h.marks)=none;rw [ZiC fun m hm _=>no_hold h0 m hm];exact h0
      ·rw [Za k6];exact h0
     ·split at D
      ·obtain ⟨_,rfl,_⟩:=D;exact h0
      ·obtain ⟨_,rfl,_⟩:=D;exact h0
end Go.Proofs.YtcbdghojlbpomaaGreat
namespace Go.Proofs.YtcbdghojlbpomaaGreat
open Tryz
open HP (pt mapOf)
open Go.IntKind (i64 u64)
open Go.Value (int pointer slice)
open Go.Obj (cells)
open Go.RowKit
def LaidB (h:Hd) (R:List RO) (D:List Int) (k:Nat):Prop:=∀ x,x<h.size->(ZB h.l x).1<k->byteR h.l R 0 x=D.getD x 0
theorem LaidB.zero (h:Hd) (R:List RO) (D:List Int):LaidB h R D 0:=fun x _ hx=>absurd hx (by omega)
theorem LaidB.next {h:Hd} {R:List RO} {D:List Int} {k N:Nat} (L:LaidB h R D k) (H:HdI h R) (hN:IsObjs h.l h.size N) (hk:k<N) {p:List Int} (hp:PartB h.l D h.size k p):LaidB h (layR h R k p) D (k+1):=by
 obtain ⟨_,_,c⟩:=H.lay hN hk hp.le;intro x hx hxk;rw [c];have hb:=Zg4 H.ok.shape x;by_cases e:(ZB h.l x).1=k
 ·rw [Zb e];rw [e] at hb;have hlt:=(Zec H.ok.shape (size:=h.size) (x:=x)).2 hx;rw [e] at hlt;by_cases hi:(ZB h.l x).2<p.length
  ·rw [hp.at_ _ hi,hb]
  ·have:=hp.no _ (by omega) hlt;rw [hb] at this;rw [this,ZbF,Zb1 (by omega)];rfl
 ·rw [Za e];exact L x hx (by omega)
theorem LaidB.full {h:Hd} {R:List RO} {D:List Int} {N:Nat} (L:LaidB h R D N) (hN:IsObjs h.l h.size N) (hD:D.length=h.size):Zag h.l R 0 h.size=D:=by
 refine Zgp fun i=>?_;unfold Zag;rw [ZaN];by_cases hi:i<h.size
 ·rw [Zdd hi,Zbb,L i hi (hN.all i hi),ZbF,ZL (by omega)];rfl
 ·rw [Zb1 (by simp;omega),Zb1 (by omega)];rfl
theorem lay_snaps {h:Hd} {R:List RO} (H:HdI h R) {k N:Nat} (hN:IsObjs h.l h.size N) (hk:k<N) {p:List Int} (hp:p.length<=ZI h.l h.size k):(viewI h (layR h R k p)).snaps=(viewI h R).snaps:=by
 rw [ZfW H.img.ids (H.lay hN hk hp).2.1]
def sizeE (n:Int):Ev:=⟨4,0,n,[],⟨#[]⟩⟩
theorem size_right {n:Nat} (hn:n<=512):ZU (sizeE n)=true:=by
 have h0:(0:Int)<=(n:Int)∧(n:Int)<=512:=by omega
 unfold ZU sizeE Zfe;simp [h0];rfl
theorem size_check {n:Nat} (hn:n<=512) (V:Vw):ZJ V (sizeE n)=0:=by
 unfold ZJ;rw [Za (by rw [size_right hn];simp),Za (by unfold sizeE;simp),Za (by unfold sizeE;simp),Za (by unfold sizeE;simp)]
theorem size_apply (n:Nat) (V:Vw):(Zaj V (sizeE n)).snaps=V.snaps∧(Zaj V (sizeE n)).data.length=n:=by
 unfold Zaj sizeE;simp only;rw [Za (by decide),Za (by decide),Zb (by decide)];refine ⟨rfl,?_⟩;simp;try omega
end Go.Proofs.YtcbdghojlbpomaaGreat
