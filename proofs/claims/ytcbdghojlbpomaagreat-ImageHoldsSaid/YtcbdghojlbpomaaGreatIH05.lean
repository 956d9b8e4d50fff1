import Derived.Test.YtcbdghojlbpomaaGreatIH04
set_option linter.all false
namespace Go.Proofs.YtcbdghojlbpomaaGreat
open Tryz
open HP (pt mapOf)
open Go.IntKind (i64 u64)
open Go.Value (int pointer slice)
open Go.Obj (cells)
open Go.RowKit
section
variable {W w : World} {I : Hp} {l : List HP} {p q : Nat} {S : Str}
set_option maxRecDepth 4000
set_option maxHeartbeats 8000000
theorem byte_at {A:Option Addr} {c:Nat} {b:List Int} {k:Nat} {x:Int} (hv:Zw I (slice A b.length c) b) (hst:St W I w l) (hx:b[k]?=some x):∃ g o,A=some ⟨g,o,none⟩∧w.cell? ⟨g,o+k,none⟩=some (byteV x):=by
 have hv:RowI I 1 (slice A b.length c) b.length (b.flatMap fun x=>[byteV x]):=by rw [Zej];exact hv
 obtain ⟨g,o,e1,hc⟩:=ZbJ (i:=k) (mk:=fun x=>[byteV x]) (k:=1) hv (Hp.sub.refl _) hst (fun _=>rfl) hx;simp only [ZF,Zae,ZK] at e1;have:=hc 0 (by decide);rw [ZaT,Zbg] at this;exact ⟨g,o,e1,this⟩
theorem set_bytes (L:List Int) (i:Nat) (x:Int):((L.map byteV).toArray).setIfInBounds i (byteV x)=((L.set i x).map byteV).toArray:=by
 rw [Zo,List.map_set]
theorem lheld_spec (h:Hd) (R:List RO) (n:Nat) (m:Mk) (N:Nat) {mk:Nat} (P:PartAt W w I l p q S h R n m N) (hk:Keeps S mk) :
  Calls prog 28 #[pointer (some ⟨q,0,none⟩),h.l.val,int i64 n,int i64 m.size] w fun e w'=>∃ I',I.sub I'∧∃ v,e=.returned (.tuple #[v,.bool true])∧Zw I' v (Zag h.l R m.id m.size)∧St W I' w' (Zd p S::imgHP q p h::l):=by
 obtain ⟨hs,J,hat,hob⟩:=P;obtain ⟨x,m',hx,hm1,hm2,hm3⟩:=held_in (Zay hat);have hsz:m.size<=512:=by rw [hm3];exact J.ok.sizes m' hm1
 have hNe:N<=every:=by
  rcases hob.top with q|⟨y,hy,q⟩
  ·omega
  ·have:=Zfx J.ok.shape (x:=y) (by omega);omega
 have PART:=Zh (fun (wx:World) (I':Hp) (l':List HP) (k:Nat) (hk2:k<N) (hst:St W I' wx (Zd p S::imgHP q p h::l'))=>ipart_spec h R n m N k ⟨hst,J,hat,hob⟩ hk hk2);have LAST:=Zh (fun (wx:World) (I':Hp) (l':List HP) (hst:St W I' wx (Zd p S::imgHP q p h::l'))=>ipart_big h R n m N N ⟨hst,J,hat,hob⟩ (by omega) (Zck _));have OBJ:=Zh (fun (wx:World)=>robjects_spec h.l J.ok.shape m.size hsz N hob wx);have BYT:=Zh (fun (wx:World) (k:Nat)=>rbytes_spec h.l J.ok.shape m.size hsz k wx);have BCK:=Zh (fun (wx:World) (b i:Nat) (hb:b<=1048576) (hi:i<2 ^ h.l.order)=>rback_spec h.l J.ok.shape b i hb hi wx);have PB:=Zh (fun (k:Nat)=>part_B (R:=R) J.ok.shape m k);obtain ⟨B,hB⟩:∃ x,Zag h.l R m.id m.size=x:=⟨_,rfl⟩;have hBl:B.length=m.size:=by rw [<-hB];exact ZaO ..
 rw [hB] at PB |-;have STEP:=Zh (fun (num k:Nat) (hk:k<2 ^ h.l.order)=>outAt_step J.ok.shape (B:=B) (size:=m.size) (num:=num) hk);have NEXT:=Zh (fun (k:Nat)=>(part_B (R:=R) J.ok.shape m k).next J.ok.shape);rw [hB] at NEXT;have BIFF:=Zh (fun (k j:Nat) (hj:j<ZI h.l m.size k)=>And.intro (Zgn hj (ZhE h.l m.size k)) ((ZfV J.ok.shape m.size k (Zgn hj (ZhE h.l m.size k))).1 hj));have B64:=Zh (fun (k:Nat)=>ZqK J.ok.shape m.size k);have FULL:=Zh (outAt_full hBl hob);have ZERO:=Zh (outAt_zero h.l B m.size);have h1:=hs.alloc (cells #[int i64 h.l.order,int i64 h.l.unit,int i64 h.l.count] 30);obtain ⟨g5,hg5⟩:∃ g,w.heap.size=g:=⟨_,rfl⟩;rw [hg5] at h1;have HG5:=Zh hg5;have H1:=Zh h1;obtain ⟨PR,hPR⟩:∃ f:Nat->List Int,∀ k,partR h R m k=f k:=⟨_,fun _=>rfl⟩;simp only [hPR] at PART PB NEXT;obtain ⟨L,hL⟩:∃ L,h.l=L:=⟨_,rfl⟩;have hlv:h.l.val=.agg #[int i64 L.order,int i64 L.unit,int i64 L.count]:=by rw [hL];rfl
 simp only [hlv] at OBJ BYT BCK |-;simp only [hL] at BYT BCK PB STEP NEXT BIFF B64 FULL ZERO H1;obtain ⟨F1,hF1⟩:∃ x,imgHP q p h=x:=⟨_,rfl⟩;simp only [hF1] at PART LAST H1 |-;clear hs J hat hob hx hm1 hm2 hm3 hk h1 hg5 hPR hL hlv hF1 hB;obtain ⟨mi,mn,mz,mg⟩:=m;obtain ⟨o,u,cn⟩:=L;simp only at *;go_enter func28,ntmps28;go_upto_region 1 with fail;rw [HG5.o];have h1:=H1.o;generalize (World.alloc _ _:World)=w1 at h1 |-;have hmk:=Ze4 mz (by omega) w1;have h2:=h1.alloc (cells (zeroA mz) 5);obtain ⟨gb,hgb⟩:∃ g,w1.heap.size=g:=⟨_,rfl⟩;rw [hgb] at h2 hmk;have e0:zeroA mz=((outAt ⟨o,u,cn⟩ B mz 0 0).map byteV).toArray:=by
  rw [ZERO.o];unfold zeroA;simp [byteV]
 rw [e0] at h2 hmk;have H2:=Zh h2;clear h1 h2 e0 hgb H1 HG5;go_wp2;go_loopw [11] (fun a11 wr=>∃ (k:Nat) (I':Hp),a11=int i64 k∧k<=N∧I.sub I'∧St W I' wr (pt gb (cells ((outAt ⟨o,u,cn⟩ B mz k 0).map byteV).toArray 5)::pt g5 (cells #[int i64 o,int i64 u,int i64 cn] 30)::Zd p S::F1::l)) (fun a11 _=>N - (intOf a11).toNat);case atStart=>exact ⟨0,I,rfl,by omega,Hp.sub.refl _,H2.o⟩
 case round =>
  obtain ⟨k,I',rfl,hkN,hsub,hst⟩:=hrel;clear H2 hmk;obtain ⟨x0,x1,x2⟩:=Zbw (hst.pull 1 _ rfl);have HST:=Zh hst;have HSUB:=Zh hsub;have HO:=Zh (OBJ.o wr);clear hst hsub;by_cases hlt:k<N
  ·have d0:decide ((k:Int)<(N:Int))=true:=by rw [Ze];omega
   go_wp2_with fail;refine HO.o.mono ?_;rintro e w2 ⟨rfl,hb2⟩;have h2:=HST.o.keep hb2;have HPT:=Zh (PART.o _ _ _ k hlt ((h2.pull 3 _ rfl).pull 3 _ rfl));simp only [Zx,Zy] at HPT;clear x0 x1 x2 h2 hb2 HO HST;go_wp2_with fail;refine HPT.o.mono ?_;rintro e w3 ⟨I3,hs3,v,rfl,hb3,h3⟩;have h4:=(h3.pull 3 _ rfl |>.pull 3 _ rfl);simp only [Zx,Zy] at h4;obtain ⟨PL,hPL⟩:∃ x,PR k=x:=⟨_,rfl⟩;obtain ⟨AV,cV,rfl,_⟩:=RowI.cap hb3;have hpb:=PB.o k;have hnx:=NEXT.o k;rw [hPL] at hpb hb3 hnx |-;obtain ⟨bn,hbn⟩:∃ x,ZI ⟨o,u,cn⟩ mz k=x:=⟨_,rfl⟩;have hle:=hpb.le;have hif:=BIFF.o k;have hby:=BYT.o w3 k;have h64:=B64.o k;rw [hbn] at hle hif hby h64;obtain ⟨pn,hpn⟩:∃ x,PL.length=x:=⟨_,rfl⟩;have hpa:=hpb.at_;rw [hpn] at hle hb3 hnx hpa |-;have HPN:=Zh hpn;have HPA:=Zh hpa;have HIF:=Zh (fun j (hj:j<pn)=>hif j (by omega));have HBY:=Zh hby
   have HNX:=Zh hnx;have HB3:=Zh hb3;have H4:=Zh h4;have HS3:=Zh (HSUB.o.trans hs3);have d1:decide ((bn:Int)<(pn:Int))=false:=by rw [Zk];omega
   have d1b:decide (bn<pn)=false:=ZbH (by omega);have hp64:pn<=64:=by omega
   have hk66:k<=1048576:=by unfold every at hNe;omega
   obtain ⟨x0,x1,x2⟩:=Zbw (h4.pull 1 _ rfl);clear h3 h4 hs3 hb3 hpb hnx hPL hbn hif hby hpn hpa hle HPT;go_wp2_with fail;refine HBY.o.mono ?_;rintro e w4 ⟨rfl,hb4⟩;have H5:=Zh (H4.o.keep hb4);clear hb4 x0 x1 x2 H4 HBY;go_wp2;go_loopw [14] (fun a14 wr2=>∃ (j:Nat),a14=int i64 j∧j<=pn∧St W I3 wr2 (pt gb (cells ((outAt ⟨o,u,cn⟩ B mz k j).map byteV).toArray 5)::pt g5 (cells #[int i64 o,int i64 u,int i64 cn] 30)::Zd p S::F1::l)) (fun a14 _=>pn - (intOf a14).toNat);case atStart=>exact ⟨0,rfl,by omega,H5.o⟩
   case round =>
    obtain ⟨j,rfl,hj,hst⟩:=hrel;clear H5;by_cases hjl:j<pn
    ·have d2:decide ((j:Int)<(pn:Int))=true:=by rw [Ze];omega
     obtain ⟨hj2,hba⟩:=HIF.o j hjl;have hbk:=BCK.o wr k j hk66 hj2;have hstp:=STEP.o k j hj2;have hpx:=HPA.o j hjl;obtain ⟨ba,hbb⟩:∃ x,backN ⟨o,u,cn⟩ k j=x:=⟨_,rfl⟩;rw [hbb] at hba hbk hstp hpx;obtain ⟨x,hx⟩:∃ y,PL[j]?=some y:=⟨_,ZL (by have:=HPN.o;omega)⟩;have hpx:x=B.getD ba 0:=by rw [<-hpx,ZbF,hx];rfl
     rw [<-hpx,] at hstp;have hbyt:∀ (w':World) (l1:List HP),St W I3 w' l1->∃ g o,AV=some ⟨g,o,none⟩∧w'.cell? ⟨g,o+j,none⟩=some (byteV x):=fun w' l1 h1=>by
      have:=HB3.o;rw [<-HPN.o] at this;exact byte_at this h1 hx
     obtain ⟨x0,x1,x2⟩:=Zbw (hst.pull 1 _ rfl);have d3:decide ((ba:Int)<(mz:Int))=true:=by rw [Ze];omega
     have HBK:=Zh hbk;have HSTP:=Zh hstp;have HST:=Zh hst;have HBT:=Zh hbyt;clear hbk hstp hpx hbb hx hbyt hst;go_wp2_with fail;refine HBK.o.mono ?_;rintro e w5 ⟨rfl,hb5⟩;have h5:=HST.o.keep hb5;obtain ⟨gp,op,rfl,y0⟩:=HBT.o _ _ h5;have hlen:=outAt_len ⟨o,u,cn⟩ B mz k j;obtain ⟨c0,hc0⟩:∃ c,(outAt ⟨o,u,cn⟩ B mz k j)[ba]?=some c:=⟨_,ZL (by omega)⟩;have z0:w5.cell? ⟨gb,ba,none⟩=some (byteV c0):=by
      rw [Zc h5.heap,List.getElem?_toArray,ZaN,hc0];rfl
     have fz:=frozen_of_row h5.heap;have h6:=h5.setCell ba (byteV x);rw [set_bytes,<-HSTP.o] at h6;have H6:=Zh h6;clear x0 x1 x2 hb5 h5 h6 HST HBT HBK hc0 hlen HSTP;unfold byteV at y0 z0;go_wp2;go_roundw;case rel=>exact ⟨j+1,by go_num,by omega,H6.o⟩
     case measure=>simp [intOf]<;>omega
    ·obtain rfl:j=pn:=by omega
     have d2:decide ((j:Int)<(j:Int))=false:=by rw [Zk];omega
     rw [HNX.o] at hst;have HST:=Zh hst;clear hst;go_wp2;go_roundw;case rel=>exact ⟨k+1,I3,by go_num,by omega,HS3.o,HST.o⟩
     case measure=>simp [intOf]<;>omega
  ·obtain rfl:k=N:=by omega
   have d0:decide ((k:Int)<(k:Int))=false:=by rw [Zk];omega
   go_wp2_with fail;refine HO.o.mono ?_;rintro e w2 ⟨rfl,hb2⟩;have h2:=HST.o.keep hb2;clear x0 x1 x2;obtain ⟨x0,x1,x2⟩:=Zbw (h2.pull 1 _ rfl);have H2:=Zh h2;clear h2 hb2 HST HO;go_wp2_with fail;refine (OBJ.o _).mono ?_;rintro e w3 ⟨rfl,hb3⟩;have h3:=H2.o.keep hb3;have HPT:=Zh (LAST.o _ _ _ ((h3.pull 3 _ rfl).pull 3 _ rfl));simp only [Zx,Zy] at HPT;clear x0 x1 x2 h3 hb3 H2;go_wp2_with fail;refine HPT.o.mono ?_;rintro e w4 ⟨I4,hs4,rfl,h4⟩;have h5:=h4.pull 2 _ rfl;simp only [Zx,Zy] at h5;rw [FULL.o] at h5;obtain ⟨I5,hs5,hb5,h6⟩:=Zc2 hBl (by omega) h5;have HB5:=Zh hb5;have H6:=Zh h6;have HS5:=Zh (HSUB.o.trans (hs4.trans hs5));clear h4 h5 hs4 hs5 hb5 h6 HPT;have d1:((3:Int)==3)=true:=by decide
   go_wp2;go_ret2;exact ⟨I5,HS5.o,_,rfl,HB5.o,(H6.o.pull 2 _ rfl).drop⟩
end
end Go.Proofs.YtcbdghojlbpomaaGreat
namespace Go.Proofs.YtcbdghojlbpomaaGreat
open Tryz
open HP (pt mapOf)
open Go.IntKind (i64 u64)
open Go.Value (int pointer slice)
open Go.Obj (cells)
open Go.RowKit
def tilde (nm:ByteArray):ByteArray:=⟨#[126]⟩++nm
theorem tilde_size (nm:ByteArray):(tilde nm).size=nm.size+1:=by
 unfold tilde;rw [ByteArray.size_append];show 1+nm.size=_;omega
theorem tilde_hold (nm:ByteArray):holdN (tilde nm)=true:=by
 have h:=ZnH (s:=tilde nm) (by rw [tilde_size];omega);rw [<-h];have e:(tilde nm).extract 0 1=⟨#[126]⟩:=by
  unfold tilde;refine ByteArray.ext ?_;simp [ByteArray.data_extract,ByteArray.data_append]
 rw [e,<-show ([126]:List UInt8)=(⟨#[126]⟩:ByteArray).toList from (by first|rfl|decide|simp)];simp
theorem tilde_rest (nm:ByteArray):(tilde nm).extract 1 (tilde nm).size=nm:=by
 rw [tilde_size];unfold tilde;refine ByteArray.ext ?_;simp [ByteArray.data_extract,ByteArray.data_append];try rfl
section
variable {W w : World} {I : Hp} {l : List HP} {p q : Nat} {S : Str}
set_option maxRecDepth 4000
set_option maxHeartbeats 8000000
theorem ihold_there (h:Hd) (R:List RO) (nm:ByteArray) (hs:St W I w (Zd p S::imgHP q p h::l)) (J:IJ S h R) (hn:nameB nm=true) {x:Mk} (hx:heldM h.marks=some x) :
  Calls prog 26 #[pointer (some ⟨q,0,none⟩),.string nm] w fun x w'=>x=.returned (int i64 5)∧Below w.heap.size w w':=by
 have HM:=Zh (ZbK hs J.st.live.on);have HN:=Zh (ZeP nm w);rw [hn] at HN;have hnm:∀ x ∈ h.marks,1<=x.name.size:=fun x hx=>(Mk.named_size (J.ok.names x hx)).1;obtain ⟨v,hv,hi⟩:=(hs.pull 1 _ rfl).img_open;have hh:=Zjs h hnm v w (ZbW hi hv) (ZQ J.ok.many (by decide));rw [hx] at hh;obtain ⟨c0,c1,c2,c3,c4,c5,c6,c7,c8,c9⟩:=Zz hi;have HH:=Zh hh;clear hs J hn hi hv hh hnm hx;obtain ⟨sz,⟨o,u,cn⟩,nx,sq,ms⟩:=h;obtain ⟨xi,xn,xs,xg⟩:=x;simp only [Hd.cells,mkVal] at *;go_enter func26,ntmps26;go_wp2_with fail;refine HM.o.mono ?_;rintro x w2 ⟨rfl,rfl⟩;go_wp2_with fail;refine HN.o.mono ?_;rintro x w2 ⟨rfl,rfl⟩;go_wp2_with fail;refine HH.o.mono ?_;rintro e w2 ⟨rfl,hb2⟩;have HB:=Zh (hb2.trans ((ZM w2 (cells #[int i64 xi,.string xn,int i64 xs,.bool xg] 66)).mono hb2.size));clear hb2 c0 c1 c2 c3 c4 c5 c6 c7 c8 c9 HH;go_wp2;go_ret;exact ⟨rfl,HB.o⟩
theorem ihold_spec (h:Hd) (R:List RO) (nm:ByteArray) {m:Nat} (hs:St W I w (Zd p S::imgHP q p h::l)) (J:IJ S h R) (hk:Keeps S (m+2)) (hn:nameB nm=true) (h0:heldM h.marks=none) (hnx:h.next<1073741824) :
  Calls prog 26 #[pointer (some ⟨q,0,none⟩),.string nm] w fun x w'=>∃ I',I.sub I'∧x=.returned (int i64 0)∧∃ S',St W I' w' (Zd p S'::imgHP q p (snapH h (tilde nm))::l)∧IJ S' (snapH h (tilde nm)) R∧Keeps S' 98000:=by
 have HM:=Zh (ZbK hs J.st.live.on);have HN:=Zh (ZeP nm w);rw [hn] at HN;have hnm:∀ x ∈ h.marks,1<=x.name.size:=fun x hx=>(Mk.named_size (J.ok.names x hx)).1;have hns:1<=nm.size∧nm.size<=12:=by
  have:=hn;unfold nameB at this;rw [Ze] at this;exact ⟨this.1,this.2.1⟩
 have h17:h.marks.length<=1000:=ZQ J.ok.many (by decide);have HG:=J.hd.hold (nm:=tilde nm) (tilde_hold nm) (by rw [tilde_size];omega) (by rw [tilde_rest];exact hn) hnx h0;obtain ⟨b1,B⟩:=J.st.bar J.hd.mid.uok;have hr1:=J.recd.seen (S':=(Zr S).2) (by rw [B.seen]);have hkb:Keeps (Zr S).2 (m+2):=ZbS hk;obtain ⟨h2,hh2⟩:∃ x:Hd,snapH h (tilde nm)=x:=⟨_,rfl⟩;rw [hh2] at HG |-;have hok2:=HG.ok;have sv:=B.st.save J.hd.mid hr1 hok2 (roll:=0) HG.mid;have sv1:=sv.1;obtain ⟨S2,hS2⟩:∃ x,(saveH (Zr S).2 h2 0).2=x:=⟨_,rfl⟩;rw [hS2] at sv;have hk2:Keeps S2 98000:=sv.2.1.fresh HG.mid.uok sv.2.2.2 (m:=m) (by rw [<-hS2];exact Zed hkb);have FIN:=Zh (And.intro (HG.ij sv.2.1 sv.2.2.1) hk2);obtain ⟨r,hr0,LEFT⟩:∃ r:Int,2500<=r∧Hid (∀ (wx:World) (I':Hp) (l':List HP),St W I' wx (Zd p S::l')->Calls prog 74 #[pointer (some ⟨p,0,none⟩)] wx fun e w'=>e=.returned (int i64 r)∧Below wx.heap.size wx w'):=by
  have hf:=J.st.live.inv.few J.hd.mid.uok;have hu:=J.st.room;refine ⟨max 0 (wrap64 (S.room - S.used)),?_,Zh (fun wx I' l' hst=>ZcJ hst)⟩;unfold wrap64;omega
 have d6:decide (r<2500)=false:=by rw [Zk];omega
 obtain ⟨v,hv,hi⟩:=(hs.pull 1 _ rfl).img_open;have hh:=Zjs h hnm v w (ZbW hi hv) h17;rw [h0] at hh;obtain ⟨c0,c1,c2,c3,c4,c5,c6,c7,c8,c9⟩:=Zz hi;have HH:=Zh hh;have HS:=Zh hs;have COP:=Zh (fun (v:Value) (wx:World) (l':List HP) (hst:St W I wx l') (hv:SliceSrc wx 4 v h.marks.length (h.marks.flatMap Mk.vals))=>ZeM h v wx hst hv h17)
 have MK:Hid (∀ (v:Value) (wx:World) (l':List HP),St W I wx (HP.win 66 4 v h.marks.length (h.marks.flatMap Mk.vals)::Zd p S::imgHP q p h::l')->Calls prog 87 #[pointer (some ⟨q,0,none⟩),.agg (h.cells v),.string (tilde nm)] wx fun e w'=>∃ I'',I.sub I''∧e=.returned (int i64 0)∧St W I'' w' (Zd p S2::imgHP q p h2::l')):=Zh (fun v wx l' hst=>by
  have:=ZnY h h (tilde nm) (by rw [hh2];exact hok2) v hst hk b1 (by rw [hh2];exact sv1);rw [hh2,hS2] at this
  exact this)
 have OPEN:=Zh (fun (wx:World) (l':List HP) (hst:St W I wx (imgHP q p h::l'))=>hst.img_open);obtain ⟨F1,hF1⟩:∃ x,imgHP q p h=x:=⟨_,rfl⟩;simp only [hF1] at MK HS OPEN;unfold tilde at MK;clear hs J hn hi hv hh hnm hk hnx HG B b1 hr1 hkb hok2 sv sv1 hk2 hS2 hr0 h17 h0 hF1 hh2;obtain ⟨sz,⟨o,u,cn⟩,nx,sq,ms⟩:=h;simp only [Hd.cells,mkVal] at *;go_enter func26,ntmps26;go_wp2_with fail;refine HM.o.mono ?_;rintro x w2 ⟨rfl,rfl⟩;go_wp2_with fail;refine HN.o.mono ?_;rintro x w2 ⟨rfl,rfl⟩;go_wp2_with fail;refine HH.o.mono ?_;rintro e w2 ⟨rfl,hb2⟩;have h3:=(HS.o.keep hb2).alloc (cells #[int i64 0,.string ⟨#[]⟩,int i64 0,.bool false] 66);have H3:=Zh h3;clear hb2 h3 c0 c1 c2 c3 c4 c5 c6 c7 c8 c9 HH HM HN HS;go_upto_region 7 with fail;have h3:=H3.o;generalize (World.alloc _ _:World)=w3 at h3 |-;have LF:=Zh (LEFT.o _ _ _ (h3.pull 1 _ rfl));obtain ⟨v3,hv3,hi3⟩:=OPEN.o _ _ (h3.pull 2 _ rfl);obtain ⟨c0,c1,c2,c3,c4,c5,c6,c7,c8,c9⟩:=Zz hi3;have H4:=Zh h3;clear h3 H3 LEFT hv3 hi3;go_wp2_with fail;refine LF.o.mono ?_;rintro e w4 ⟨rfl,hb4⟩;have h4:=H4.o.keep hb4;clear c0 c1 c2 c3 c4 c5 c6 c7 c8 c9;obtain ⟨v4,hv4,hi4⟩:=OPEN.o _ _ (h4.pull 2 _ rfl);obtain ⟨c0,c1,c2,c3,c4,c5,c6,c7,c8,c9⟩:=Zz hi4;have HCO:=Zh (COP.o v4 _ _ h4 (ZbW hi4 hv4));clear hb4 hi4 hv4 h4 H4 LF OPEN COP;go_wp2_with fail;refine HCO.o.mono ?_;rintro e w5 ⟨A5,rfl,h5⟩;have HMK:=Zh (MK.o _ _ _ ((h5.pull 3 _ rfl).pull 3 _ rfl |>.pull 2 _ rfl));simp only [Zx,Zy] at HMK;clear h5 MK HCO c0 c1 c2 c3 c4 c5 c6 c7 c8 c9;go_wp2_with fail;refine HMK.o.mono ?_;rintro e w9 ⟨I9,hs9,rfl,h9⟩;have HS9:=Zh hs9;have H9:=Zh h9;clear h9 hs9;go_wp2;go_ret;exact ⟨I9,HS9.o,rfl,S2,((H9.o.pull 2 _ rfl).drop),FIN.o.1,FIN.o.2⟩
end
end Go.Proofs.YtcbdghojlbpomaaGreat
namespace Go.Proofs.YtcbdghojlbpomaaGreat
open Tryz
open HP (pt mapOf)
open Go.IntKind (i64 u64)
open Go.Value (int pointer slice)
open Go.Obj (cells)
open Go.RowKit
def goneB (m:Mk):Bool:=m.gone||holdN m.name
theorem take_snocM {α:Type} {l:List α} {i:Nat} {a:α} (h:l[i]?=some a):l.take (i+1)=l.take i++[a]:=by
 obtain ⟨hk,he⟩:=ZS.1 h;rw [ZbG hk,he]
section
variable {W w : World} {I : Hp} {l : List HP}
set_option maxRecDepth 4000
set_option maxHeartbeats 8000000
theorem St.win_set {α:Type} {mk:α->List Value} {k g q c n:Nat} {e:TypeId} {zs:List α} (h:St W I w (HP.win e k (slice (some ⟨g,q,none⟩) n c) n (zs.flatMap mk)::l)) (hn:zs.length=n) (hk:∀ a,(mk a).length=k) {i j:Nat} {a:α} (a':α) {v:Value} (ha:zs[i]?=some a) (hj:j<k) (he:mk a'=(mk a).set j v) :
  St W I (w.setCell ⟨g,q+i*k+j,none⟩ v) (HP.win e k (slice (some ⟨g,q,none⟩) n c) n ((zs.set i a').flatMap mk)::l):=by
 have hil:=(ZS.1 ha).1;obtain ⟨hl,p⟩:=h.win_open;rcases p with ⟨e1,_,_⟩|⟨g',q',cap,cur,e1,p3,p4,p5,p6,s⟩
 ·cases e1
 ·simp only [ZF,Zah,Addr.mk.injEq,ZK,Zae] at e1;obtain ⟨⟨rfl,rfl⟩,rfl⟩:=e1;refine (s.setCell (q+i*k+j) v).win_shut (by rw [ZeY hk,Zde,hn]) p3 p4 (by simpa using p5) ?_;rw [<-ZkT hk zs i j a a' v ha hj he,<-p6,Array.toList_setIfInBounds,List.drop_set,Za (by omega),<-List.take_set,show q+i*k+j - q=i*k+j by omega]
theorem St.win_free {k g q c n:Nat} {e:TypeId} {xs:List Value} (h:St W I w (HP.win e k (slice (some ⟨g,q,none⟩) n c) n xs::l)):(∀ x,w.frozen? ⟨g,x,none⟩=false)∧g<w.heap.size∧n<=c:=by
 obtain ⟨hl,p⟩:=h.win_open;rcases p with ⟨e1,_,_⟩|⟨g',q',cap,cur,e1,p3,p4,p5,p6,s⟩
 ·cases e1
 ·simp only [ZF,Zah,Addr.mk.injEq,ZK,Zae] at e1;obtain ⟨⟨rfl,rfl⟩,rfl⟩:=e1;exact ⟨frozen_of_row s.heap,s.lt,p3⟩
theorem St.win_elem {α:Type} {mk:α->List Value} {k g q c n:Nat} {e:TypeId} {zs:List α} (h:St W I w (HP.win e k (slice (some ⟨g,q,none⟩) n c) n (zs.flatMap mk)::l)) (hk:∀ a,(mk a).length=k) {i:Nat} {a:α} (ha:zs[i]?=some a) (j:Nat) (hj:j<k) :
  w.cell? ⟨g,q+i*k+j,none⟩=(mk a)[j]?:=by
 have h7:=ZeX hk zs i j a ha hj;obtain ⟨u,hu⟩:∃ u,(mk a)[j]?=some u:=⟨_,ZL (by rw [hk];exact hj)⟩
 obtain ⟨g',q',c',e1,_,_,hc⟩:=h.win_cell (by
  have:=(ZS.1 (h7.trans hu)).1
  omega)
 simp only [ZF,Zah,Addr.mk.injEq,ZK,Zae] at e1;obtain ⟨⟨rfl,rfl⟩,rfl⟩:=e1;rw [hu,Zb3];exact hc _ _ (h7.trans hu)
def mzero:Array Value:=#[int i64 0,.string ⟨#[]⟩,int i64 0,.bool false]
theorem St.win_clearM {g q c n i:Nat} {xs:List Value} (h:St W I w (HP.win 66 4 (slice (some ⟨g,q,none⟩) n c) n xs::l)) (hi:i<n) (cc:Nat) (ty:TypeId) :
  ∃ w',(Builtin.clear_ #[49] ty #[slice (some ⟨g,q+i*4,none⟩) (n - i) cc]).run prog w=.ok (.tuple #[]) w'∧St W I w' (HP.win 66 4 (slice (some ⟨g,q,none⟩) i c) i (xs.take (i*4))::l):=by
 obtain ⟨hl,p⟩:=h.win_open;rcases p with ⟨e1,_,_⟩|⟨g',q',cap,cur,e1,p3,p4,p5,p6,s⟩
 ·cases e1
 simp only [ZF,Zah,Addr.mk.injEq,ZK,Zae] at e1;obtain ⟨⟨rfl,rfl⟩,rfl⟩:=e1;obtain ⟨Z,hZ⟩:∃ Z,(Builtin.zeroCells mzero (n - i)).toList=Z:=⟨_,rfl⟩;have hZl:Z.length=(n - i)*4:=by rw [<-hZ];simp [Builtin.zeroCells,mzero]
 have hZ1:∀ u ∈ Z,u.oneCell'=true:=fun u hu=>by
  rw [<-hZ] at hu;simp only [Builtin.zeroCells,Array.toList_map,Array.toList_range,ZH,Za8] at hu;obtain ⟨t,ht,rfl⟩:=hu;have h4:t % mzero.size<4:=ZaU _ (by decide);have:t % mzero.size=0∨t % mzero.size=1∨t % mzero.size=2∨t % mzero.size=3:=by omega
  rcases this with e|e|e|e <;> rw [e] <;> rfl
 have hbnd:=Zcj 4 p3;have hbi:=Zcj 4 (Nat.le_of_lt hi);have hni:i*4+(n - i)*4=n*4:=by rw [<-Zbj];congr 1;omega
 have hcs:cur.toList.length=cur.size:=by simp
 have hst:=run_storeCells_at prog g (q+i*4) 66 Z 0 cur w s.heap (by rw [hZl];omega) hZ1;have hz:(zeroValue 66).run prog w=.ok (.agg mzero) w:=by kernel_rfl
 have hr:(Builtin.clear_ #[49] ty #[slice (some ⟨g,q+i*4,none⟩) (n - i) cc]).run prog w=.ok (.tuple #[]) (w.setRow g (cur.toList.take (q+i*4+0)++Z++cur.toList.drop (q+i*4+0+Z.length)).toArray):=by
  have hzc:(Builtin.zeroCells (Value.agg mzero).cells (n - i)).toList=Z:=hZ;obtain ⟨d,hd⟩:∃ d,n - i=d+1:=⟨n - i - 1,by omega⟩;rw [hd] at hzc |-;simp only [Builtin.clear_];simp [Za3 underlying49,hz,hzc,Result.andThen];have hst2:=hst;simp at hst2;rw [hst2]
 refine ⟨_,hr,?_⟩;have s2:=ZfQ (cs:=(cur.toList.take (q+i*4+0)++Z++cur.toList.drop (q+i*4+0+Z.length)).toArray) s
 refine s2.win_shut (by rw [ZN,hl];omega) (ZQ (Nat.le_of_lt hi) p3) p4 (by
  simp only [Zc7,ZA,ZN,Zas,hZl];omega) ?_
 rw [Zbg,<-p6,Zev,show min (i*4) (n*4)=i*4 by omega];show ((cur.toList.take (q+i*4)++Z++cur.toList.drop (q+i*4+Z.length)).drop q).take (i*4)=_;rw [Zam,List.drop_append_of_le_length (by rw [ZN];omega),List.take_append_of_le_length (by rw [Zas,ZN];omega),List.drop_take,show q+i*4 - q=i*4 by omega,Zev,Nat.min_self]
theorem igone_spec (m:Mk) (h1:1<=m.name.size) (w:World):Calls prog 94 #[.agg #[int i64 m.id,.string m.name,int i64 m.size,.bool m.gone]] w fun e w'=>e=.returned (.bool (goneB m))∧Below w.heap.size w w':=by
 have h0:=(St.init w).alloc (cells #[int i64 m.id,.string m.name,int i64 m.size,.bool m.gone] 66);have H0:=Zh h0;obtain ⟨id,s,n,b⟩:=m;simp only at *;unfold goneB;have d1:=ZnH h1;have d2:(1:Int)<=(s.size:Int):=by omega
 simp only;clear h0;obtain ⟨hb,hhb⟩:∃ x,holdN s=x:=⟨_,rfl⟩;rw [hhb] at d1 |-;clear hhb;cases b;all_goals
  go_enter func94,ntmps94;go_upto_region 1 with fail;have h1:=H0.o;generalize (World.alloc _ _:World)=w1 at h1 |-;obtain ⟨y0,y1,y2,y3⟩:=ZX h1;have HB:=Zh h1.below;clear h1 H0;go_wp2;go_ret;exact ⟨rfl,HB.o⟩
theorem mindex_spec (ms:List Mk) (v:Value) (w:World) (hs:SliceSrc w 4 v ms.length (ms.flatMap Mk.vals)) (hnm:∀ m ∈ ms,1<=m.name.size) (hex:∃ m ∈ ms,goneB m=true) (h17:ms.length<=1000) :
  Calls prog 173 #[v,.func (.func 94) #[] #[]] w fun e w'=>∃ (i:Nat) (m:Mk),e=.returned (int i64 i)∧ms[i]?=some m∧goneB m=true∧(∀ x ∈ ms.take i,goneB x=false)∧Below w.heap.size w w':=by
 have HS:=Zh hs;have HN:=Zh hnm;have HX:=Zh hex;obtain ⟨A,c,rfl,_⟩:=hs;clear hnm hex;go_enter func173,ntmps173;go_wp2;go_loopw [8] (fun a8 wr=>∃ (i:Nat),a8=int i64 i∧i<=ms.length∧(∀ x ∈ ms.take i,goneB x=false)∧Below w.heap.size w wr) (fun a8 _=>ms.length - (intOf a8).toNat);case atStart=>exact ⟨0,rfl,by omega,by simp,ZR _ _⟩
 case round =>
  obtain ⟨i,rfl,hi,hno,hb⟩:=hrel;have HNO:=Zh hno;by_cases hlt:i<ms.length
  ·have d0:decide ((i:Int)<(ms.length:Int))=true:=by rw [Ze];omega
   obtain ⟨m,hm⟩:∃ m,ms[i]?=some m:=⟨_,ZL hlt⟩;obtain ⟨G,off,c2,e1,hG,hc⟩:=Zco (mk:=Mk.vals) (HS.o.below hb) (fun _=>rfl) (by decide) hm;simp only [ZF,ZK] at e1;obtain ⟨rfl,rfl⟩:=e1;have HM:=Zh hm;have HG:=Zh (igone_spec m (HN.o m (Zay hm)) wr);have HTK:=Zh (take_snocM hm);obtain ⟨gb,hgb⟩:∃ x,goneB m=x:=⟨_,rfl⟩;rw [hgb] at HG;have HGB:=Zh hgb;have y0:wr.cell? ⟨G,off+i*4,none⟩=some (int i64 m.id):=hc 0 (by decide);have y1:wr.cell? ⟨G,off+i*4+1,none⟩=some (.string m.name):=hc 1 (by decide);have y2:wr.cell? ⟨G,off+i*4+2,none⟩=some (int i64 (m.size:Int)):=hc 2 (by decide);have y3:wr.cell? ⟨G,off+i*4+3,none⟩=some (.bool m.gone):=hc 3 (by decide);have lt0:G<wr.heap.size:=hG;have HB:=Zh hb;clear hc hm hno hgb hb;cases gb with
   | false =>
    go_wp2_with fail;refine HG.o.mono ?_;rintro e w3 ⟨rfl,hb3⟩;have HB3:=Zh (HB.o.trans (hb3.mono HB.o.size));clear hb3;go_wp2;go_roundw;case rel =>
     refine ⟨i+1,by go_num,by omega,fun x hx=>?_,HB3.o⟩;rw [HTK.o] at hx;rcases ZY.1 hx with q|q
     ·exact HNO.o x q
     ·rw [Zaz.1 q];exact HGB.o
    case measure=>simp [intOf]<;>omega
   | true =>
    go_wp2_with fail;refine HG.o.mono ?_;rintro e w3 ⟨rfl,hb3⟩;have HB3:=Zh (HB.o.trans (hb3.mono HB.o.size));clear hb3;go_wp2;go_ret;exact ⟨i,m,rfl,HM.o,HGB.o,HNO.o,HB3.o⟩
  ·exfalso;obtain ⟨m,hm,hg⟩:=HX.o;have:=HNO.o m (by rw [show i=ms.length by omega,Zbk];exact hm);rw [this] at hg;cases hg
end
end Go.Proofs.YtcbdghojlbpomaaGreat
