import Derived.Test.YtcbdghojlbpomaaGreatIF26
set_option linter.all false
set_option maxRecDepth 4000
set_option maxHeartbeats 8000000
open Go.RowKit
open Go.IntKind (i64 u64)
open Go.Value (int pointer slice)
open Go.Obj (cells)
namespace Go.Proofs.YtcbdghojlbpomaaGreat
open Tryz
open HP (pt mapOf)
variable {W w w':World} {I:Hp} {l:List HP}
section
variable {p q : Nat} {S : Str}
theorem Zo9 (h:Hd) (hl:h.l.ok) (hsz:h.size<=512) {R:List RO} {ids:List Int} {next:Int} {m:Nat} (hs:St W I w (Zd p S::imgHP q p h::l)) (hk:Keeps S (m+16*every)) (H:IStore S h.newest R) (M:MidI ids next h.newest R) (hid:IdsI h.ids h.newest) (h17:h.marks.length<=1000)
  (hfit:∀ k,((objAt R k).h.getD []).length<=ZI h.l 512 k) :
  Calls prog 80 #[pointer (some ⟨q,0,none⟩)] w fun e w'=>∃ I',I.sub I'∧e=.returned (int i64 0)∧∃ S',St W I' w' (Zd p S'::imgHP q p h::l) ∧
   IStore S' h.newest (cutR h.l h.newest h.size R)∧MidI ids next h.newest (cutR h.l h.newest h.size R)∧get recK S'.seen=get recK S.seen∧Keeps S' m∧(S'=S∧cutR h.l h.newest h.size R=R∨Dryed S'):=by
 have lt0:q<w.heap.size:=by
  obtain ⟨v,_,h1⟩:=(hs.pull 1 _ rfl).img_open;exact h1.lt
 obtain ⟨N,hN⟩:∃ x,h.newest=x:=⟨_,rfl⟩;obtain ⟨L,hL⟩:∃ x,h.l=x:=⟨_,rfl⟩;obtain ⟨Z,hZ⟩:∃ x,h.size=x:=⟨_,rfl⟩;have HE:=ZgV (hs.pull 1 _ rfl) hl;rw [hL] at HE;have HBY:Hid (∀ (w:World) (k:Nat),k<=1048576->Calls prog 92 #[.agg #[int i64 h.l.order,int i64 h.l.unit,int i64 h.l.count],int i64 h.size,int i64 k] w fun e w'=>e=.returned (int i64 (ZI L Z k))∧Below w.heap.size w w'):=Zh (fun w k hk=>by rw [<-hL,<-hZ];exact Zg8 h.l hl h.size k hsz hk w);have HNW:Hid (∀ (v:Value) (w:World),SliceSrc w 4 v h.marks.length (h.marks.flatMap Mk.vals)->Calls prog 98 #[.agg #[int i64 h.size,int i64 h.l.order,int i64 h.l.unit,int i64 h.l.count,int i64 h.next,int i64 h.seq,v]] w fun e w'=>e=.returned (int i64 N)∧Below w.heap.size w w'):=Zh (fun v w hsr=>by rw [<-hN];exact ZgS h hid v w hsr (by omega));rw [hN] at H M;rw [hL] at hl hfit;rw [hN,hL,hZ];have HEE:=Zh HE;have HH:=Zh H;have HM:=Zh M;have HS:=Zh hs;have HL:=Zh hl;have HF:=Zh hfit;have HK:=Zh hk;clear hs hl hfit hk H M hid hN hL hZ HE;obtain ⟨sz,⟨o,u,cn⟩,nx,sq,ms⟩:=h;simp only at HBY HNW h17;go_enter func80,ntmps80;go_wp2_with fail;refine HEE.o.mono ?_;rintro e w2 ⟨n,rfl,hn,hb2⟩;have h2:=HS.o.keep hb2;have hne:=Zha HL.o hn;unfold every at hne;have HNN:=Zh hn;have H2:=Zh h2;clear hb2 h2 hn;go_wp2;go_loopw [3,10] (fun a3 a10 wr=>∃ (b:Bool) (i:Nat) (I':Hp) (S':Str) (R':List RO),a3=.bool b∧a10=int i64 i∧i<=n∧I.sub I'∧AllAt (cutO L N Z) S S' ids next N R R' i∧Keeps S' (m+16*(66 - i))∧(b=false->S'=S∧R'=R)∧St W I' wr (Zd p S'::imgHP q p ⟨sz,⟨o,u,cn⟩,nx,sq,ms⟩::l)) (fun _ a10 _=>n - (intOf a10).toNat);case atStart=>exact ⟨false,0,I,S,R,rfl,rfl,by omega,Hp.sub.refl _,AllAt.start HH.o HM.o,HK.o,fun _=>⟨rfl,rfl⟩,H2.o⟩
 case round =>
  obtain ⟨b,i,I',S',R',rfl,rfl,hi,hsub,hat,hkp,hbf,hst⟩:=hrel;have HAT:=Zh hat;have HKP:=Zh hkp;have HBF:=Zh hbf;have HST:=Zh hst;have HSU:=Zh hsub;obtain ⟨v,hv,h1⟩:=(hst.pull 1 _ rfl).img_open;obtain ⟨c0,c1,c2,c3,c4,c5,c6,c7,c8,c9⟩:=Zz h1;simp only at c2 c3 c4 c5 c6 c7 c8;by_cases hlt:i<n
  ·have d0:decide ((i:Int)<(n:Int))=true:=by rw [Ze];omega
   have hcb:=Zh (HBY.o wr.drew i (by omega));have hie:i<every:=by unfold every;omega
   clear hat hkp hbf hst hsub hv h1 lt0;go_upto_region 5 with fail;refine ZaD [0,1,2,3,5,6,7,8,10] [4,9] [11,12] (by kernel_rfl) (by kernel_rfl) ?_;simp only [pickL,Zg,Zi];repeat (refine ZaA _ (Or.inl ⟨by rfl,by intro w;go_simp;try with_reducible rfl⟩) ?_;(try go_frame))
   refine ZaB ?_;repeat still_step
   refine ZaI ?_;go_wp2_with fail;refine hcb.o.mono ?_;rintro e w3 ⟨rfl,hb3⟩;have h3:=HST.o.drew.keep hb3;obtain ⟨v3,_,h3i⟩:=(h3.pull 1 _ rfl).img_open;have z0:=(Zz h3i).c0;have z1:=(Zz h3i).c1;have htl:=(HAT.o.st.tell HAT.o.mid hie (snap:=0) (by decide) (by decide)).2.1;rw [HAT.o.now,Zcr] at htl;have hcs:=Zjp 0 i 0 h3.drew (HKP.o.inv);rw [htl] at hcs;have HCS:=Zh hcs;have H3:=Zh h3;clear hcs htl h3i hb3 c0 c1 c2 c3 c4 c5 c6 c7 c8 c9 hcb h3;go_wp2;refine Zu ?_;go_wp2_with fail;refine ZcY (fun w'=>w'.cell? ⟨q,0,none⟩=some (pointer (some ⟨p,0,none⟩))∧w'.cell? ⟨q,1,none⟩=some (int i64 0)) [0,1,2,3,4,5,6,7,8,9,10,11,12,13] (Tp.pull [0,1,2,3,4,5,6,7,8] (Tp.one 9 (Tp.pull [10,11,12,13] Tp.leaf))) [14] (by kernel_rfl) (by kernel_rfl) (by (exact ⟨z0,z1⟩)) ?_;unfold wpTp
   (try simp only [pickL,Zg,Zi])
   repeat (first|refine Zs _ (Or.inl ⟨by rfl,by (intro w hSw;(try dsimp only at hSw);go_simp;try with_reducible rfl)⟩) ?_|refine Zs _ (Or.inr ⟨by rfl,rfl⟩) ?_|fail);(try go_frame)
   refine ZC ?_;unfold wpTp
   (try simp only [pickL,Zg,Zi])
   go_wp2_with fail;refine HCS.o.mono ?_;rintro e w4 ⟨I4,hs4,rfl,h4⟩;obtain ⟨v4,hv4,h4i⟩:=(h4.pull 1 _ rfl).img_open;have hsr4:=ZbW h4i.drew hv4;obtain ⟨c0,c1,c2,c3,c4,c5,c6,c7,c8,c9⟩:=Zz h4i;simp only at c2 c3 c4 c5 c6 c7 c8;have H4:=Zh h4;have HS4:=Zh (HSU.o.trans hs4);have HSR4:=Zh hsr4;have lt0:q<w4.heap.size:=h4i.lt;clear h4 h4i hs4 hsr4 z0 z1 hv4;go_wp2;refine Zt ⟨c0,c1⟩ ?_;unfold wpTp
   (try simp only [pickL,Zg,Zi])
   repeat (first|refine Zs _ (Or.inl ⟨by rfl,by (intro w hSw;(try dsimp only at hSw);go_simp;try with_reducible rfl)⟩) ?_|refine Zs _ (Or.inr ⟨by rfl,rfl⟩) ?_|fail);(try go_frame)
   refine ZC ?_;unfold wpTp
   (try simp only [pickL,Zg,Zi])
   go_wp2;refine Zu ?_;by_cases hcut:ZI L Z i<((objAt R i).h.getD []).length
   ·have d1:decide (((ZI L Z i:Nat):Int)<(((objAt R i).h.getD []).length:Int))=true:=by rw [Ze];omega
    have hnw:=Zh (HNW.o v4 w4.drew HSR4.o);have hkp2:Keeps S' ((m+16*(66 - (i+1)))+16):=HKP.o.fewer (by omega);have hone:=HAT.o.st.cut HAT.o.mid hie (ZqK HL.o Z i);rw [HAT.o.now] at hone;have HONE:=Zh hone;have HKP2:=Zh hkp2;clear hone hkp2;go_wp2_with fail;refine Z3 (fun w'=>w'.cell? ⟨q,0,none⟩=some (pointer (some ⟨p,0,none⟩))∧w'.cell? ⟨q,1,none⟩=some (int i64 0)∧w'.cell? ⟨q,2,none⟩=some (int i64 sz)∧w'.cell? ⟨q,3,none⟩=some (int i64 o)∧w'.cell? ⟨q,4,none⟩=some (int i64 u)∧w'.cell? ⟨q,5,none⟩=some (int i64 cn)∧w'.cell? ⟨q,6,none⟩=some (int i64 nx)∧w'.cell? ⟨q,7,none⟩=some (int i64 sq)∧w'.cell? ⟨q,8,none⟩=some v4) [0,1,2,3,4,5,6,7,8,9,10,11,12,14] [13] [15,16] (by kernel_rfl) (by kernel_rfl) (by (exact ⟨c0,c1,c2,c3,c4,c5,c6,c7,c8⟩)) ?_;simp only [pickL,Zg,Zi];repeat (refine Zs _ (Or.inl ⟨by rfl,by (intro w hSw;(try dsimp only at hSw);go_simp;try with_reducible rfl)⟩) ?_;(try go_frame))
    refine ZC ?_;unfold Zp;go_wp2_with fail;refine hnw.o.mono ?_;rintro e w5 ⟨rfl,hb5⟩;have h5:=H4.o.drew.keep hb5;obtain ⟨v5,hv5,h5i⟩:=(h5.pull 1 _ rfl).img_open;have hcells:=fun (j:Nat) (x:Value) (hx:w4.cell? ⟨q,j,none⟩=some x)=>(hb5.cell (p:=⟨q,j,none⟩) lt0).trans hx;have y0:=hcells 0 _ c0;have y1:=hcells 1 _ c1;have y2:=hcells 2 _ c2;have y3:=hcells 3 _ c3;have y4:=hcells 4 _ c4;have y5:=hcells 5 _ c5;have y6:=hcells 6 _ c6;have y7:=hcells 7 _ c7;have y8:=hcells 8 _ c8;have HC:=Zh (Zkj 0 i N (ZI L Z i) h5 HKP2.o);clear hcells c0 c1 c2 c3 c4 c5 c6 c7 c8 c9 hnw hb5 h5 hv5 h5i lt0;go_wp2;refine Zt ⟨y0,y1,y2,y3,y4,y5,y6,y7,y8⟩ ?_;unfold Zp;go_wp2_with fail;refine HC.o.mono ?_;rintro e w6 ⟨I6,hs6,rfl,h6⟩;rw [HONE.o.done];have H6:=Zh h6;have HS6:=Zh (HS4.o.trans hs6);clear h6 hs6 y0 y1 y2 y3 y4 y5 y6 y7 y8;go_wp2;refine Zu ?_;go_wp2;go_roundw;case rel=>exact ⟨true,i+1,I6,_,_,rfl,by go_num,by omega,HS6.o,HAT.o.step hie HONE.o (ZqJ hcut),ZiJ HKP2.o,fun h=>(by cases h),H6.o⟩
    case measure=>simp [intOf]<;>omega
   ·have d1:decide (((ZI L Z i:Nat):Int)<(((objAt R i).h.getD []).length:Int))=false:=by rw [Zk];omega
    go_wp2;go_roundw;case rel=>exact ⟨b,i+1,I4,S',R',rfl,by go_num,by omega,HS4.o,HAT.o.idle (Zk3 (by omega)),HKP.o.fewer (by omega),HBF.o,H4.o⟩
    case measure=>simp [intOf]<;>omega
  ·obtain rfl:i=n:=by omega
   have d0:decide ((i:Int)<(i:Int))=false:=by rw [Zk];omega
   have hdone:=HAT.o.done HM.o.len (fun k=>ZfY L N Z k) (fun k hk=>Zk3 (by
    have h0:=HF.o k;rw [Zk2 HL.o HNN.o hk] at h0
    omega))
   have HD:=Zh (show R'=cutR L N Z R from hdone);clear hdone hat hkp hbf hst hsub hv h1;cases b with
   | false =>
    obtain ⟨rfl,e2⟩:=HBF.o rfl;go_wp2;go_ret;rw [<-HD.o,e2];exact ⟨I',HSU.o,rfl,S',HST.o,HH.o,HM.o,rfl,HKP.o.fewer (by omega),.inl ⟨rfl,rfl⟩⟩
   | true =>
    obtain ⟨g1,g2⟩:=HAT.o.st.bar HAT.o.mid.uok;have hkm:Keeps S' m:=HKP.o.fewer (by omega);have hbs:=ZdN HST.o hkm;rw [g1] at hbs;have HBS:=Zh hbs;have G2:=Zh g2;have HKM:=Zh hkm;clear g1 g2 hkm hbs;go_wp2_with fail;refine HBS.o.mono ?_;rintro e w5 ⟨I5,hs5,rfl,h5⟩;have H5:=Zh h5;have HS5:=Zh (HSU.o.trans hs5);clear h5 hs5;go_wp2_with fail;refine (ZeQ q 0 (by decide) _).mono ?_;rintro e w6 ⟨rfl,rfl⟩;go_wp2;go_ret;rw [<-HD.o];exact ⟨I5,HS5.o,rfl,_,H5.o,G2.o.st,HAT.o.mid,(by rw [G2.o.seen];exact HAT.o.recd),ZbS HKM.o,.inr G2.o.dry⟩
end
theorem Zed {S:Str} {h:Hd} {roll:Int} {m:Nat} (hk:Keeps S (m+2)):Keeps (saveH S h roll).2 m:=by
 have h2:=ZfF (k:=recK) (nm:=nmH) (v:=varB roll++recH h) hk;unfold saveH;split
 ·exact h2
 ·exact ZbS h2
section
variable {p q : Nat} {S : Str}
theorem ZnJ (h:Hd) (hh:h.Ok) {h0:Hd} {r0:Int} {R:List RO} {m:Nat} (mark:Int) (hm0:0<=mark) (hm1:mark<=1073741824) (hs:St W I w (Zd p S::imgHP q p h::l)) (hk:Keeps S (m+2+16*every)) (H:IStore S h.newest R) (M:MidI h.ids h.next h.newest R) (hrec:RecAt S h0 r0)
  (hno:∀ k,ZI h.l 512 k=0->((ratR (objAt R k) mark).isSome||(objAt R k).h.isSome)=false) :
  Calls prog 79 #[pointer (some ⟨q,0,none⟩),int i64 mark] w fun e w'=>∃ I',I.sub I'∧e=.returned (int i64 0)∧∃ S',St W I' w' (Zd p S'::imgHP q p h::l) ∧
   IStore S' h.newest (backR h.newest mark R)∧MidI h.ids h.next h.newest (backR h.newest mark R)∧RecAt S' h 0∧Keeps S' m∧Dryed S':=by
 have h17:h.marks.length<=17:=hh.many;have hl:=hh.shape;have hid:=M.idk;have lt0:q<w.heap.size:=by
  obtain ⟨v,_,h1⟩:=(hs.pull 1 _ rfl).img_open;exact h1.lt
 obtain ⟨N,hN⟩:∃ x,h.newest=x:=⟨_,rfl⟩;obtain ⟨L,hL⟩:∃ x,h.l=x:=⟨_,rfl⟩;have HE:=ZgV (hs.pull 1 _ rfl) hl;rw [hL] at HE;have HNW:Hid (∀ (v:Value) (w:World),SliceSrc w 4 v h.marks.length (h.marks.flatMap Mk.vals)->Calls prog 98 #[.agg #[int i64 h.size,int i64 h.l.order,int i64 h.l.unit,int i64 h.l.count,int i64 h.next,int i64 h.seq,v]] w fun e w'=>e=.returned (int i64 N)∧Below w.heap.size w w'):=Zh (fun v w hsr=>by rw [<-hN];exact ZgS h hid v w hsr (by omega));obtain ⟨ids,hids⟩:∃ x,h.ids=x:=⟨_,rfl⟩;obtain ⟨next,hnext⟩:∃ x,h.next=x:=⟨_,rfl⟩;have HID:=Zh hids;have HNX:=Zh hnext;have HNN2:=Zh hN;rw [hN,hids,hnext] at M;rw [hN] at H;rw [hL] at hl hno;have KP:Hid (∀ (v:Value) (wx:World) (I':Hp) (Sx:Str) (l':List HP),St W I' wx (Zd p Sx::imgHP q p h::l')->Keeps Sx (m+2)->(mksIP v h.marks).p I'->(Zr Sx).1=0->(saveH (Zr Sx).2 h 0).1=0->Calls prog 95 #[pointer (some ⟨q,0,none⟩),.agg #[int i64 h.size,int i64 h.l.order,int i64 h.l.unit,int i64 h.l.count,int i64 h.next,int i64 h.seq,v],int i64 0] wx fun e w'=>∃ I'',I'.sub I''∧e=.returned (int i64 0)∧St W I'' w' (Zd p (saveH (Zr Sx).2 h 0).2::imgHP q p h::l')):=Zh (fun v wx I' Sx l' a b c d e=>ZeS h h hh 0 (by decide) (by decide) v a b c d e);rw [hN,hids,hnext];have HEE:=Zh HE;have HH:=Zh H;have HM:=Zh M;have HS:=Zh hs;have HL:=Zh hl;have HF:=Zh hno;have HH2:=Zh hh;have HRC:=Zh hrec;have HK:=Zh hk;clear hs hl hno hk H M hid hN hL HE hh hrec hids hnext;obtain ⟨sz,⟨o,u,cn⟩,nx,sq,ms⟩:=h;simp only at HNW h17 KP;go_enter func79,ntmps79;go_wp2_with fail;refine HEE.o.mono ?_;rintro e w2 ⟨n,rfl,hn,hb2⟩;have h2:=HS.o.keep hb2;have hne:=Zha HL.o hn;unfold every at hne;have HNN:=Zh hn;have H2:=Zh h2;clear hb2 h2 hn;go_wp2;go_loopw [12] (fun a12 wr=>∃ (i:Nat) (I':Hp) (S':Str) (R':List RO),a12=int i64 i∧i<=n∧I.sub I'∧AllAt (fun _=>backO N mark) S S' ids next N R R' i∧Keeps S' (m+2+16*(66 - i))∧St W I' wr (Zd p S'::imgHP q p ⟨sz,⟨o,u,cn⟩,nx,sq,ms⟩::l)) (fun a12 _=>n - (intOf a12).toNat);case atStart=>exact ⟨0,I,S,R,rfl,by omega,Hp.sub.refl _,AllAt.start HH.o HM.o,HK.o,H2.o⟩
 case round =>
  obtain ⟨i,I',S',R',rfl,hi,hsub,hat,hkp,hst⟩:=hrel;have HAT:=Zh hat;have HKP:=Zh hkp;have HST:=Zh hst;have HSU:=Zh hsub;obtain ⟨v,hv,h1⟩:=(hst.pull 1 _ rfl).img_open;obtain ⟨c0,c1,c2,c3,c4,c5,c6,c7,c8,c9⟩:=Zz h1;simp only at c2 c3 c4 c5 c6 c7 c8;by_cases hlt:i<n
  ·have d0:decide ((i:Int)<(n:Int))=true:=by rw [Ze];omega
   have hie:i<every:=by unfold every;omega
   clear hat hkp hst hsub hv h1 lt0;have hct:=HAT.o.st.tell HAT.o.mid hie (snap:=mark) hm0 hm1;rw [HAT.o.now] at hct;have hct0:=HAT.o.st.tell HAT.o.mid hie (snap:=0) (by decide) (by decide);rw [HAT.o.now,Zcr] at hct0;have hcs:=ZiX 0 i mark HST.o.drew (HKP.o.inv);rw [hct.1] at hcs;obtain ⟨was,hwas⟩:∃ x,(ratR (objAt R i) mark).isSome=x:=⟨_,rfl⟩;obtain ⟨is,his⟩:∃ x,(objAt R i).h.isSome=x:=⟨_,rfl⟩;rw [hwas] at hcs;have HCS:=Zh hcs;have HT0:=Zh (hct0.1.trans (by rw [his]));have HWAS:=Zh hwas;have HIS:=Zh his;clear hct hct0 hcs hwas his c2 c3 c4 c5 c6 c7 c8 c9;go_upto_region 4 with fail;refine ZcY (fun w'=>w'.cell? ⟨q,0,none⟩=some (pointer (some ⟨p,0,none⟩))∧w'.cell? ⟨q,1,none⟩=some (int i64 0)) [0,1,2,3,4,5,6,7,8,9,10,11,12,13,14] (Tp.pull [0,1,2,3,4,5,6,7,8,9] (Tp.one 10 (Tp.pull [11,12,13,14] Tp.leaf))) [15] (by kernel_rfl) (by kernel_rfl) (by (exact ⟨c0,c1⟩)) ?_;unfold wpTp
   (try simp only [pickL,Zg,Zi])
   repeat (first|refine Zs _ (Or.inl ⟨by rfl,by (intro w hSw;(try dsimp only at hSw);go_simp;try with_reducible rfl)⟩) ?_|refine Zs _ (Or.inr ⟨by rfl,rfl⟩) ?_|fail);(try go_frame)
   refine ZC ?_;unfold wpTp
   (try simp only [pickL,Zg,Zi])
   go_wp2_with fail;refine HCS.o.mono ?_;rintro e w4 ⟨I4,hs4,rfl,h4⟩;obtain ⟨v4,hv4,h4i⟩:=(h4.pull 1 _ rfl).img_open;have c0:=(Zz h4i).c0;have c1:=(Zz h4i).c1;have hcs:=ZiX 0 i 0 h4.drew (HKP.o.inv);rw [HT0.o] at hcs;have HCS2:=Zh hcs;have HS4:=Zh (HSU.o.trans hs4);clear h4 h4i hs4 hv4 hcs;go_wp2;refine Zt ⟨c0,c1⟩ ?_;unfold wpTp
   (try simp only [pickL,Zg,Zi])
   repeat (first|refine Zs _ (Or.inl ⟨by rfl,by (intro w hSw;(try dsimp only at hSw);go_simp;try with_reducible rfl)⟩) ?_|refine Zs _ (Or.inr ⟨by rfl,rfl⟩) ?_|fail);(try go_frame)
   refine ZC ?_;unfold wpTp
   (try simp only [pickL,Zg,Zi])
   go_wp2;refine Zu ?_;go_wp2_with fail;refine ZcY (fun w'=>w'.cell? ⟨q,0,none⟩=some (pointer (some ⟨p,0,none⟩))∧w'.cell? ⟨q,1,none⟩=some (int i64 0)) [0,1,2,3,4,5,6,7,8,9,10,11,12,13] (Tp.pull [0,1,2,3,4,5,6,7,8] (Tp.one 9 (Tp.pull [10,11,12,13] Tp.leaf))) [14] (by kernel_rfl) (by kernel_rfl) (by (exact ⟨c0,c1⟩)) ?_;unfold wpTp
   (try simp only [pickL,Zg,Zi])
   repeat (first|refine Zs _ (Or.inl ⟨by rfl,by (intro w hSw;(try dsimp only at hSw);go_simp;try with_reducible rfl)⟩) ?_|refine Zs _ (Or.inr ⟨by rfl,rfl⟩) ?_|fail);(try go_frame)
   refine ZC ?_;unfold wpTp
   (try simp only [pickL,Zg,Zi])
   go_wp2_with fail;refine HCS2.o.mono ?_;rintro e w7 ⟨I4,hs4,rfl,h4⟩;obtain ⟨v4,hv4,h4i⟩:=(h4.pull 1 _ rfl).img_open;have hsr4:=ZbW h4i.drew hv4;obtain ⟨c0,c1,c2,c3,c4,c5,c6,c7,c8,c9⟩:=Zz h4i;simp only at c2 c3 c4 c5 c6 c7 c8;have H4:=Zh h4;have HS4:=Zh (HS4.o.trans hs4);have HSR4:=Zh hsr4;have lt0:q<w7.heap.size:=h4i.lt;clear h4 h4i hs4 hsr4 hv4;go_wp2;refine Zt ⟨c0,c1⟩ ?_;unfold wpTp
   (try simp only [pickL,Zg,Zi])
   repeat (first|refine Zs _ (Or.inl ⟨by rfl,by (intro w hSw;(try dsimp only at hSw);go_simp;try with_reducible rfl)⟩) ?_|refine Zs _ (Or.inr ⟨by rfl,rfl⟩) ?_|fail);(try go_frame)
   refine ZC ?_;unfold wpTp
   (try simp only [pickL,Zg,Zi])
   go_wp2;refine Zu ?_;cases was with
   | true =>
    have hnw:=Zh (HNW.o v4 w7.drew HSR4.o);have hkp2:Keeps S' ((m+2+16*(66 - (i+1)))+16):=HKP.o.fewer (by omega);have hone:=HAT.o.st.back HAT.o.mid hie hm0 hm1;rw [HAT.o.now] at hone;have HONE:=Zh hone;have HKP2:=Zh hkp2;clear hone hkp2;go_wp2_with fail;refine Z3 (fun w'=>w'.cell? ⟨q,0,none⟩=some (pointer (some ⟨p,0,none⟩))∧w'.cell? ⟨q,1,none⟩=some (int i64 0)∧w'.cell? ⟨q,2,none⟩=some (int i64 sz)∧w'.cell? ⟨q,3,none⟩=some (int i64 o)∧w'.cell? ⟨q,4,none⟩=some (int i64 u)∧w'.cell? ⟨q,5,none⟩=some (int i64 cn)∧w'.cell? ⟨q,6,none⟩=some (int i64 nx)∧w'.cell? ⟨q,7,none⟩=some (int i64 sq)∧w'.cell? ⟨q,8,none⟩=some v4) [0,1,2,3,4,5,6,7,8,9,10,11,12,14] [13] [15,16] (by kernel_rfl) (by kernel_rfl) (by (exact ⟨c0,c1,c2,c3,c4,c5,c6,c7,c8⟩)) ?_;simp only [pickL,Zg,Zi];repeat (refine Zs _ (Or.inl ⟨by rfl,by (intro w hSw;(try dsimp only at hSw);go_simp;try with_reducible rfl)⟩) ?_;(try go_frame))
    refine ZC ?_;unfold Zp;go_wp2_with fail;refine hnw.o.mono ?_;rintro e w5 ⟨rfl,hb5⟩;have h5:=H4.o.drew.keep hb5;obtain ⟨v5,hv5,h5i⟩:=(h5.pull 1 _ rfl).img_open;have hcells:=fun (j:Nat) (x:Value) (hx:w7.cell? ⟨q,j,none⟩=some x)=>(hb5.cell (p:=⟨q,j,none⟩) lt0).trans hx;have y0:=hcells 0 _ c0;have y1:=hcells 1 _ c1;have y2:=hcells 2 _ c2;have y3:=hcells 3 _ c3;have y4:=hcells 4 _ c4;have y5:=hcells 5 _ c5;have y6:=hcells 6 _ c6;have y7:=hcells 7 _ c7;have y8:=hcells 8 _ c8;have HC:=Zh (Zjr 0 i N mark h5 HKP2.o);clear hcells c0 c1 c2 c3 c4 c5 c6 c7 c8 c9 hnw hb5 h5 hv5 h5i lt0;go_wp2;refine Zt ⟨y0,y1,y2,y3,y4,y5,y6,y7,y8⟩ ?_;unfold Zp;go_wp2_with fail;refine HC.o.mono ?_;rintro e w6 ⟨I6,hs6,rfl,h6⟩;rw [HONE.o.done];have H6:=Zh h6;have HS6:=Zh (HS4.o.trans hs6);clear h6 hs6 y0 y1 y2 y3 y4 y5 y6 y7 y8;go_wp2;refine Zu ?_;go_wp2;go_roundw;case rel=>exact ⟨i+1,I6,_,_,by go_num,by omega,HS6.o,HAT.o.step hie HONE.o (by unfold backO;rw [HWAS.o,HIS.o,Zb (by simp)]),Ziy HKP2.o,H6.o⟩
    case measure=>simp [intOf]<;>omega
   | false =>
    cases is with
    | true =>
     have hnw:=Zh (HNW.o v4 w7.drew HSR4.o);have hkp2:Keeps S' ((m+2+16*(66 - (i+1)))+16):=HKP.o.fewer (by omega);have hone:=HAT.o.st.back HAT.o.mid hie hm0 hm1;rw [HAT.o.now] at hone;have HONE:=Zh hone;have HKP2:=Zh hkp2;clear hone hkp2;go_wp2_with fail;refine Z3 (fun w'=>w'.cell? ⟨q,0,none⟩=some (pointer (some ⟨p,0,none⟩))∧w'.cell? ⟨q,1,none⟩=some (int i64 0)∧w'.cell? ⟨q,2,none⟩=some (int i64 sz)∧w'.cell? ⟨q,3,none⟩=some (int i64 o)∧w'.cell? ⟨q,4,none⟩=some (int i64 u)∧w'.cell? ⟨q,5,none⟩=some (int i64 cn)∧w'.cell? ⟨q,6,none⟩=some (int i64 nx)∧w'.cell? ⟨q,7,none⟩=some (int i64 sq)∧w'.cell? ⟨q,8,none⟩=some v4) [0,1,2,3,4,5,6,7,8,9,10,11,12,14] [13] [15,16] (by kernel_rfl) (by kernel_rfl) (by (exact ⟨c0,c1,c2,c3,c4,c5,c6,c7,c8⟩)) ?_;simp only [pickL,Zg,Zi];repeat (refine Zs _ (Or.inl ⟨by rfl,by (intro w hSw;(try dsimp only at hSw);go_simp;try with_reducible rfl)⟩) ?_;(try go_frame))
     refine ZC ?_;unfold Zp;go_wp2_with fail;refine hnw.o.mono ?_;rintro e w5 ⟨rfl,hb5⟩;have h5:=H4.o.drew.keep hb5;obtain ⟨v5,hv5,h5i⟩:=(h5.pull 1 _ rfl).img_open;have hcells:=fun (j:Nat) (x:Value) (hx:w7.cell? ⟨q,j,none⟩=some x)=>(hb5.cell (p:=⟨q,j,none⟩) lt0).trans hx;have y0:=hcells 0 _ c0;have y1:=hcells 1 _ c1;have y2:=hcells 2 _ c2;have y3:=hcells 3 _ c3;have y4:=hcells 4 _ c4;have y5:=hcells 5 _ c5;have y6:=hcells 6 _ c6;have y7:=hcells 7 _ c7;have y8:=hcells 8 _ c8;have HC:=Zh (Zjr 0 i N mark h5 HKP2.o);clear hcells c0 c1 c2 c3 c4 c5 c6 c7 c8 c9 hnw hb5 h5 hv5 h5i lt0;go_wp2;refine Zt ⟨y0,y1,y2,y3,y4,y5,y6,y7,y8⟩ ?_;unfold Zp;go_wp2_with fail;refine HC.o.mono ?_;rintro e w6 ⟨I6,hs6,rfl,h6⟩;rw [HONE.o.done];have H6:=Zh h6;have HS6:=Zh (HS4.o.trans hs6);clear h6 hs6 y0 y1 y2 y3 y4 y5 y6 y7 y8;go_wp2;refine Zu ?_;go_wp2;go_roundw;case rel=>exact ⟨i+1,I6,_,_,by go_num,by omega,HS6.o,HAT.o.step hie HONE.o (by unfold backO;rw [HWAS.o,HIS.o,Zb (by simp)]),Ziy HKP2.o,H6.o⟩
     case measure=>simp [intOf]<;>omega
    | false =>
     go_wp2;go_roundw;case rel=>exact ⟨i+1,I4,S',R',by go_num,by omega,HS4.o,HAT.o.idle (by unfold backO;rw [HWAS.o,HIS.o,Za (by simp)]),HKP.o.fewer (by omega),H4.o⟩
     case measure=>simp [intOf]<;>omega
  ·obtain rfl:i=n:=by omega
   have d0:decide ((i:Int)<(i:Int))=false:=by rw [Zk];omega
   have hdone:=HAT.o.done HM.o.len (fun k=>(by unfold backO;rw [Zeq];rfl)) (fun k hk=>(by
    unfold backO
    rw [Za (by rw [HF.o k (Zk2 HL.o HNN.o hk)];decide)]))
   have HD:=Zh (show R'=backR N mark R from hdone);have HBR:=Zh (HAT.o.st.bar HAT.o.mid.uok);have hrec1:RecAt (Zr S').2 h0 r0:=by
    obtain ⟨t,q1,q2⟩:=HRC.o;exact ⟨t,by rw [HBR.o.2.seen,HAT.o.recd];exact q1,q2⟩
   have hsave:=HBR.o.2.st.save (roll:=0) HAT.o.mid hrec1 HH2.o HAT.o.mid;have hkm:Keeps S' (m+2):=HKP.o.fewer (by omega);have hkk:=KP.o v wr I' S' l HST.o hkm hv HBR.o.1 hsave.1;have hkb:Keeps (saveH (Zr S').2 ⟨sz,⟨o,u,cn⟩,nx,sq,ms⟩ 0).2 m:=Zed (ZbS hkm);obtain ⟨S2,hS2⟩:∃ x,(saveH (Zr S').2 ⟨sz,⟨o,u,cn⟩,nx,sq,ms⟩ 0).2=x:=⟨_,rfl⟩;rw [hS2] at hkk hsave hkb;have HSV:=Zh hsave;have HKK:=Zh hkk;have HKB:=Zh hkb;clear hdone hat hkp hst hsub hv h1 hrec1 hsave hkm hkk hkb hS2 HBR;go_wp2_with fail;refine HKK.o.mono ?_;rintro e w5 ⟨I5,hs5,rfl,h5⟩;have H5:=Zh h5;have HS5:=Zh (HSU.o.trans hs5);clear h5 hs5;go_wp2;go_ret;rw [<-HD.o];exact ⟨I5,HS5.o,rfl,S2,H5.o,HSV.o.2.1,HAT.o.mid,HSV.o.2.2.1,HKB.o,HSV.o.2.2.2⟩
end
def intKT:KT prog 3 Int where
 kv:=.int i64
 inj:=fun {a b} h=>by simpa using h
 check:=fun w em a=>MapKept.run_checkKey (d:=.int i64) underlying3 (by simp [MapKept.IsKey]) em 9999
 find:=fun w a L es h=>by
  have now:∀ (L:List (Int × Value)) (es:List MapEntry) (i:Nat),es.map (fun x=>(x.key,x.val))=L.map (fun p=>(int i64 p.1,p.2))->Instr.findNow (.int i64) (int i64 a) es i=some (at_ a L i):=by
   intro L;induction L with
   | nil =>
    intro es i h;have:es=[]:=by simpa using h
    subst this;rfl
   | cons p L ih =>
    intro es i h
    match es,h with
    | e::es,h =>
     simp only [Zav,Zd0,Zba] at h;obtain ⟨⟨h1,h2⟩,h3⟩:=h;obtain ⟨c,v⟩:=p;simp only at h1 h2;simp only [Instr.findNow,h1,Instr.sameNow,at_];by_cases e1:a=c
     ·simp [e1,h2]
     ·have e2:(a==c)=false:=by simpa using e1
      simp [e1,e2,ih es (i+1) h3]
  exact MapKept.run_findKey underlying3 (now L es 0 h)
 stays:=fun w a=>MapKept.run_keyThatStays (d:=.int i64) (by simp [MapKept.IsKey])
theorem ZqL (k:Nat) (es:List Ext) (e:Ext):sumOf k (es++[e])=sumOf k es+(if e.obj=k then e.len else 0):=by
 unfold sumOf;rw [Zca,Z4,List.sum_append,ZaM,List.filter_nil];by_cases h:e.obj=k
 ·rw [Zb (by simpa using h),Zb h];simp
 ·rw [Za (by simpa using h),Za h];simp
theorem ZqW (k:Nat) (es:List Ext):sumOf k es<=(es.flatMap Ext.items).length:=by
 rw [<-Zhs];unfold insOf;rw [ZE];exact Zbi _ _
theorem Zp8 (w:World):(zeroValue 3).run prog w=.ok (int i64 0) w:=by kernel_rfl
def cntHP (b:Nat) (es:List Ext):HP :=
 HP.ex fun L:List (Int × Value)=>HP.all [HP.pure (∀ k:Nat,(get (k:Int) L).getD (int i64 0)=int i64 (sumOf k es)),HP.map intKT b L]
section
theorem St.cnt_open {b:Nat} {es:List Ext} (h:St W I w (cntHP b es::l)):∃ L:List (Int × Value),(∀ k:Nat,(get (k:Int) L).getD (int i64 0)=int i64 (sumOf k es))∧St W I w (HP.map intKT b L::l):=by
 obtain ⟨L,h1⟩:=h.ex_open;obtain ⟨e,h2⟩:=(h1.all_open).pure_open;exact ⟨L,e,h2⟩
theorem St.cnt_shut {b:Nat} {es:List Ext} {L:List (Int × Value)} (e:∀ k:Nat,(get (k:Int) L).getD (int i64 0)=int i64 (sumOf k es)) (h:St W I w (HP.map intKT b L::l)):St W I w (cntHP b es::l):=by
 refine St.ex_shut L ?_;refine St.all_shut ?_;exact St.pure_shut e h
theorem St.cnt_made {b:Nat} (h:St W I w (pt b (.map #[] 0)::l)):St W I w (cntHP b []::l):=St.cnt_shut (L:=[]) (fun k=>rfl) h.map_made
theorem St.cnt_look {b:Nat} {es:List Ext} (h:St W I w (cntHP b es::l)) (k:Nat) {w2:World} (hw:Below w.heap.size w w2) :
  (Instr.lookup 184 (.map (some b)) (int i64 k) false).run prog w2=.ok (int i64 (sumOf k es)) w2:=by
 obtain ⟨L,e,h1⟩:=h.cnt_open;have:=h1.map_look underlying184 Zp8 (k:Int) false hw;rw [e k] at this;exact this
theorem St.cnt_put {b:Nat} {es:List Ext} (h:St W I w (cntHP b es::l)) (e:Ext):∃ w',(Instr.mapUpdate 184 (.map (some b)) (int i64 e.obj) (int i64 (sumOf e.obj es+e.len:Nat))).run prog w=.ok () w'∧w'.heap.size=w.heap.size∧St W I w' (cntHP b (es++[e])::l):=by
 obtain ⟨L,hL,h1⟩:=h.cnt_open;obtain ⟨w',hr,hs,h2⟩:=h1.map_put underlying184 (e.obj:Int) (int i64 (sumOf e.obj es+e.len:Nat));refine ⟨w',hr,hs,h2.cnt_shut fun k=>?_⟩;rw [ZqL,ZhR];by_cases hk:(k:Int)=e.obj
 ·have:k=e.obj:=by omega
  subst this;rw [Zb rfl,Zb rfl];rfl
 ·rw [Za hk,Za (by omega),hL,Zbg]
end
def Ev.val (e:Ev) (v:Value):Value:=.agg #[int i64 e.kind,int i64 e.off,int i64 e.len,v,.string e.name]
theorem Zcs {α:Type} {l:List α}:l=[]↔l.length=0:=by cases l <;> simp
theorem Zbl (e:Ev):ZU e=true↔(e.kind=1∧e.len=0∧e.name.size=0∧e.data.length<=64∧spanB e.off e.data.length=true)∨((e.kind=2∨e.kind=3)∧e.data.length=0∧e.name.size=0∧spanB e.off e.len=true)∨(e.kind=4∧e.off=0∧e.data.length=0∧e.name.size=0∧0<=e.len∧e.len<=512)∨((e.kind=5∨e.kind=6∨e.kind=7)∧e.off=0∧e.len=0∧e.data.length=0∧nameB e.name=true)∨(e.kind=8∧e.off=0∧e.len=0∧e.data.length=0∧e.name.size=0):=by
 unfold ZU Zfe;simp only [Zcs];by_cases h1:e.kind=1
 ·simp [h1];simp [and_assoc]
 by_cases h2:e.kind=2∨e.kind=3
 ·rcases h2 with h2|h2 <;> simp [h2,and_assoc]
 by_cases h4:e.kind=4
 ·simp [h4,and_assoc]
 by_cases h5:e.kind=5∨e.kind=6∨e.kind=7
 ·rcases h5 with h5|h5|h5 <;> simp [h5,and_assoc]
 by_cases h8:e.kind=8
 ·simp [h8,and_assoc]
 ·have h2a:¬ e.kind=2:=fun q=>h2 (.inl q);have h2b:¬ e.kind=3:=fun q=>h2 (.inr q);have h5a:¬ e.kind=5:=fun q=>h5 (.inl q);have h5b:¬ e.kind=6:=fun q=>h5 (.inr (.inl q));have h5c:¬ e.kind=7:=fun q=>h5 (.inr (.inr q));simp [h1,h2a,h2b,h4,h5a,h5b,h5c,h8]
section
theorem Zga {off n:Int} {b:Bool} (h:b=true↔(1<=n∧n<=512∧0<=off∧off<=512 - n)):b=spanB off n:=by
 rw [Zai,h,spanB,Ze]
theorem Zhb (off n:Int) (w:World):Calls prog 142 #[int i64 off,int i64 n] w fun e w'=>e=.returned (.bool (spanB off n))∧w=w':=by
 by_cases h0:1<=n∧n<=512
 ·have hw:IntKind.i64.wrap (512 - n)=512 - n:=by rw [Z2];omega
  go_enter func142,ntmps142;go_wp2;all_goals
   go_ret;refine ⟨retB (Zga ?_),rfl⟩;simp only [Ze,ZaS,false_iff];omega
 ·go_enter func142,ntmps142;go_wp2;all_goals
   first
   |(exfalso;omega)
   |(go_ret;refine ⟨retB (Zga ?_),rfl⟩;simp only [Ze,ZaS,false_iff]
     omega)
   | fail
theorem Zht (off n:Int) (w:World):Calls prog 104 #[int i64 off,int i64 n] w fun e w'=>e=.returned (.bool (spanB off n))∧w=w':=by
 by_cases h0:1<=n∧n<=512
 ·have hw:IntKind.i64.wrap (512 - n)=512 - n:=by rw [Z2];omega
  go_enter func104,ntmps104;go_wp2;all_goals
   go_ret;refine ⟨retB (Zga ?_),rfl⟩;simp only [Ze,ZaS,false_iff];omega
 ·go_enter func104,ntmps104;go_wp2;all_goals
   first
   |(exfalso;omega)
   |(go_ret;refine ⟨retB (Zga ?_),rfl⟩;simp only [Ze,ZaS,false_iff]
     omega)
   | fail
end
end Go.Proofs.YtcbdghojlbpomaaGreat
