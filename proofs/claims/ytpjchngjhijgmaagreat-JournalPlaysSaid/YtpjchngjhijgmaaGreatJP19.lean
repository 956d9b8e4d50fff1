import Derived.Test.YtpjchngjhijgmaaGreatJP18
set_option linter.all false
set_option maxRecDepth 4000
set_option maxHeartbeats 8000000
open Go.RowKit
open Go.IntKind (i64 u64)
open Go.Value (int pointer slice)
open Go.Obj (cells)
namespace Go.Proofs.YtpjchngjhijgmaaGreat
open Tryz
open HP (pt mapOf)
variable {W w w':World} {I:Hp} {l:List HP}
section
variable {p q : Nat} {J : Jn} {S : Str}
theorem Zfp {b:Nat} {c0 c1 c2 c3:Value} {t:TypeId} {f:Nat × Nat} (h:St W I w (pt b (cells #[c0,c1,c2,c3] t f)::l)):w.cell? ⟨b,0,none⟩=some c0∧w.cell? ⟨b,1,none⟩=some c1∧w.cell? ⟨b,2,none⟩=some c2∧w.cell? ⟨b,3,none⟩=some c3 :=
 ⟨Zc h.heap 0,Zc h.heap 1,Zc h.heap 2,Zc h.heap 3⟩
theorem ZkQ {m:Nat} (h:St W I w (Zj p S::jnHP q p J::l)) (hk:Keeps S (m+4*(Zau S ⟨2,0⟩).length)) (hn:(Zp S ⟨2,0⟩).length<=1000000) (hb:SeenB S) (hl:J.at_.length=J.l.length) (hn2:J.l.length<=100000) (hE:∀ e ∈ J.l,e.okB=true) :
  Calls prog 105 #[pointer (some ⟨q,0,none⟩)] w fun e w'=>∃ I',I.sub I'∧e=.returned (int i64 (trimJ S J).1)∧St W I' w' (Zj p (trimJ S J).2::jnHP q p J::l):=by
 have hrows:=ZpM (h.pull 1 _ rfl) hl hn2 hE;have hby:=(h.pull 1 _ rfl).jn_bytes;obtain ⟨mm,hmm⟩:=Zn (rowsJ J);have HMB:=Zh (show ∀ k,∀ y ∈ Zl mm k,isByte y by rw [hmm];exact ZkP hby (fun k y hy=>by simp [Zl,get] at hy));obtain ⟨ks,hks⟩:=Zn (Zau S ⟨2,0⟩);have HX:=Zh (show trimJ S J=fixL mm ks S by unfold trimJ;rw [<-hmm,<-hks]);rw [<-hmm] at hrows;rw [<-hks] at hk;have hkl:ks.length<=1000000:=by
  rw [hks];unfold Zau;split
  ·exact hn
  ·simp
 have HWB:=Zh (show ∀ k,(Zl mm k).length<=1000000000 by
  have hgo:∀ (es:List En) (ps:List Pl) (m0:List (K4 × List Int)) (n:Nat),(∀ e ∈ es,e.okB=true)->(∀ k,(Zl m0 k).length<=n)->∀ k,(Zl (ZcC J.r.shape es ps m0) k).length<=n+1000*es.length:=by
   intro es;induction es with
   | nil=>intro ps m0 n _ h0 k;exact Zaw (h0 k) (by omega)
   | cons e es ih =>
    intro ps m0 n he h0 k;cases ps with
    | nil=>exact Zaw (h0 k) (by omega)
    | cons p ps =>
     have hf:(Zah e).length<=1000:=by
      rw [ZcM];have:=(En.okB_iff.1 (he e (Zat ..))).2.2;omega
     have:=ih ps (Zc6 m0 (keyOf J.r.shape p) (Zah e)) (n+1000) (fun x hx=>he x (ZaB _ hx)) (ZkK h0 hf) k;simp only [ZcC,Z9];omega
  intro k;rw [hmm];have:=hgo J.l J.at_ [] 0 hE (fun k=>by simp [Zl,get]) k;unfold rowsJ
  omega)
 have HROWS:=Zh hrows;have HKE:=Zh hks;have HK:=Zh hk;have HN:=Zh hn;have HB:=Zh hb;clear h hrows hby hmm hks hk hn hb hl hn2 hE;go_enter func105,ntmps105;go_wp2_with fail;refine HROWS.o.mono ?_;rintro e w1 ⟨I1,b,s1,rfl,h1⟩;have hkeys:=Ziy 2 0 (h1.pull 2 _ rfl) HN.o;rw [<-HKE.o] at hkeys;obtain ⟨x0,lq⟩:=(h1.pull 1 _ rfl).jn_ptr;have HKEYS:=Zh hkeys;have H1:=Zh h1;have S1:=Zh s1;clear h1 hkeys s1;go_wp2_with fail;refine HKEYS.o.mono ?_;rintro e w2 ⟨v2,rfl,hb2,ho2⟩;obtain ⟨A2,c2,rfl⟩:=ZA ho2;obtain ⟨I2,hs2,hR2,h2⟩:=(H1.o.row_fresh hb2 ho2).freeze_row;have HR2:=Zh hR2;have H2:=Zh (h2.pull 2 _ rfl);have S2:=Zh (S1.o.trans hs2);clear hb2 ho2 hR2 h2 hs2 x0 lq;go_wp2;go_loopw [19] (fun a19 wr=>∃ (i:Nat) (S':Str) (I':Hp),a19=int i64 i∧i<=ks.length∧fixL mm ks S=fixL mm (ks.drop i) S'∧Keeps S' (m+4*(ks.length - i))∧SeenB S'∧I2.sub I'∧St W I' wr (Zj p S'::Zdk b mm::jnHP q p J::l)) (fun a19 _=>ks.length - (intOf a19).toNat);case atStart=>exact ⟨0,S,I2,rfl,ZL _,rfl,by simpa using HK.o,HB.o,Hp.sub.refl _,H2.o⟩
 case round =>
  obtain ⟨i,S',I',rfl,hi,hfx,hk',hsb,hsub,hst⟩:=hrel;by_cases hlt:i<ks.length
  ·have d0:decide ((i:Int)<(ks.length:Int))=true:=by rw [Zk];omega
   obtain ⟨k,hkk⟩:∃ k,ks[i]?=some k:=⟨_,Zy hlt⟩;have hR:=HR2.o.mono hsub;obtain ⟨bb,off,e1,hc⟩:=ZbL (i:=i) (mk:=K4.vals) (k:=4) hR (Hp.sub.refl _) hst (fun _=>rfl) hkk;simp only [Zz,Zap,ZaR] at e1;subst e1;have y0:=hc 0 (by omega);have y1:=hc 1 (by omega);have y2:=hc 2 (by omega);have y3:=hc 3 (by omega);have hdr:ks.drop i=k::ks.drop (i+1):=by
    obtain ⟨hil,he⟩:=ZH.1 hkk;rw [<-he,<-ZaS hil]
   rw [hdr] at hfx;have hfx2:fixL mm ks S=if (fixS mm k S').1≠0 then fixS mm k S' else fixL mm (ks.drop (i+1)) (fixS mm k S').2:=hfx;have hkp:=ZkO (mm:=mm) (k:=k) (m:=m+4*(ks.length - (i+1))) (S:=S') (by rw [show m+4*(ks.length - (i+1))+4=m+4*(ks.length - i) by omega];exact hk');have HKP:=Zh hkp;have HSB2:=Zh (ZpO (mm:=mm) (k:=k) hsb (HMB.o k));have HK':=Zh (hk'.fewer (show m+4<=m+4*(ks.length - i) by omega));have HSB:=Zh hsb;have HFX:=Zh hfx2;have HSUB:=Zh hsub;obtain ⟨wk,hwk⟩:=Zn (Zl mm k);have hwl:wk.length<=1000000000:=by rw [hwk];exact HWB.o k
   have HWKB:=Zh (show ∀ y ∈ wk,isByte y by rw [hwk];exact HMB.o k);have HWK:=Zh hwk;have h4:=hst.alloc (cells #[int i64 k.kind,int i64 k.img,int i64 k.num,int i64 k.snap] 43);have hfs:fixS mm k S'=if (readS S' k 0 (lenAt S' k)).2≠0 then ((readS S' k 0 (lenAt S' k)).2,S')
     else if (readS S' k 0 (lenAt S' k)).1=wk∧wk≠[] then (0,S')
     else if wk=[] then dropS S' k
     else if wk<+:(readS S' k 0 (lenAt S' k)).1 then trimS S' k wk.length
     else if (trimS S' k 0).1≠0 then trimS S' k 0 else ZbA (trimS S' k 0).2 k 0 wk:=by rw [hwk];rfl
   have HSIZE:=Zh (fun w1 (L:List HP) (h:St W I' w1 (Zj p S'::L))=>Zgu k h);have HREAD:=Zh (fun w1 (L:List HP) (n:Int) (h:St W I' w1 (Zj p S'::L))=>Zlj k 0 n h HK'.o.inv);have HDROP:=Zh (fun w1 (I1:Hp) (L:List HP) (h:St W I1 w1 (Zj p S'::L))=>Zlg k h HK'.o);have HTRIM:=Zh (fun w1 (I1:Hp) (L:List HP) (n:Int) (h:St W I1 w1 (Zj p S'::L))=>ZqQ k n h HK'.o);have HWRITE:=Zh (fun w1 (I1:Hp) (L:List HP) (S3:Str) (pv:Value) (bs:List Int) (hk3:Keeps S3 m) (h:St W I1 w1 (Zj p S3::L)) (hp:SliceSrc w1 1 pv bs.length (bs.map byteV)) (hbl:bs.length<=1000000000)=>Zkq k 0 pv bs h hk3 hp hbl);have HTK:=Zh (ZfX (k:=k) (n:=0) (S:=S') (m:=m+2) HK'.o);have HRDB:=Zh (ZkN (k:=k) (off:=0) (n:=lenAt S' k) hsb);obtain ⟨n,hnn⟩:=Zn (lenAt S' k);obtain ⟨wy,hwy⟩:=Zn (whyS S' k);obtain ⟨⟨bs,er⟩,hrd⟩:∃ x,x=readS S' k 0 n:=⟨_,rfl⟩;rw [<-hnn,<-hrd] at hfs;rw [<-hnn,<-hrd] at HRDB;rw [<-hnn,<-hwy] at HSIZE;have HRD:=Zh hrd;have HFS:=Zh hfs;obtain ⟨kk,hkk2⟩:=Zn k;rw [<-hkk2] at HREAD HDROP HTRIM HWRITE HTK HRD HFS HKP HSB2 HFX HWK;have HKK:=Zh hkk2;obtain ⟨k0,k1,k2,k3⟩:=k;simp only [K4.vals,Zg,Zi,ZaP] at y0 y1 y2 y3;simp only [K4.val] at HSIZE;simp only at h4;have HKV:=Zh (show kk.val=.agg #[int i64 k0,int i64 k1,int i64 k2,int i64 k3] by rw [HKK.o];rfl);rw [HKV.o] at HREAD HDROP HTRIM HWRITE;have hin:(i:Int)<(ks.length:Int):=by omega
   have H4:=Zh h4;clear hc hkk hR hdr hfx hfx2 hk' hsb hsub hkp hst h4 hfs hrd hnn hwy hwk hkk2;go_upto_region 5 with fail;have h4:=H4.o;obtain ⟨gk,hgk⟩:=Zn wr.heap.size;rw [<-hgk] at h4 |-;generalize (World.alloc _ _:World)=w4 at h4 |-;clear y0 y1 y2 y3 H4 hgk
   have HMK:=Zh (show ∀ (w':World) (I1:Hp) (S1:Str) (H:HP) (L:List HP),St W I1 w' (pt gk (cells #[int i64 k0,int i64 k1,int i64 k2,int i64 k3] 43)::Zj p S1::H::jnHP q p J::L)->(w'.cell? ⟨q,0,none⟩=some (pointer (some ⟨p,0,none⟩))∧w'.cell? ⟨gk,0,none⟩=some (int i64 k0)∧w'.cell? ⟨gk,1,none⟩=some (int i64 k1)∧w'.cell? ⟨gk,2,none⟩=some (int i64 k2)∧w'.cell? ⟨gk,3,none⟩=some (int i64 k3)) from fun w' I1 S1 H L h1=>by
    have ck:=Zc h1.heap
    exact ⟨((h1.pull 3 _ rfl).jn_ptr).1,ck 0,ck 1,ck 2,ck 3⟩)
   have H5:=Zh h4;clear h4;refine Zca (fun w'=>St W I' w' (pt gk (cells #[int i64 k0,int i64 k1,int i64 k2,int i64 k3] 43)::Zj p S'::Zdk b mm::jnHP q p J::l)∧w'.cell? ⟨q,0,none⟩=some (pointer (some ⟨p,0,none⟩))∧w'.cell? ⟨gk,0,none⟩=some (int i64 k0)∧w'.cell? ⟨gk,1,none⟩=some (int i64 k1)∧w'.cell? ⟨gk,2,none⟩=some (int i64 k2)∧w'.cell? ⟨gk,3,none⟩=some (int i64 k3)) [(0,false),(1,false),(2,false),(3,false),(4,false),(5,false),(6,false),(7,false),(8,true)] [] [9,10] (by kernel_rfl) (by kernel_rfl) (by (intro w' hb;exact ⟨H5.o.drew.keep hb,HMK.o _ _ _ _ _ (H5.o.drew.keep hb)⟩)) ?_;repeat (first|refine ZaH (by rfl) _ (by rfl) (by intro w;go_simp;try with_reducible rfl) ?_|refine ZaK (by rfl) _ (by rfl) (by (intro w hSw;(try dsimp only at hSw);go_simp;try with_reducible rfl)) ?_|refine ZaI (by rfl) (by rfl) ?_|fail);(try go_frame)
   refine Zb2 (by rfl) (.tuple #[int i64 n,int i64 wy]) (71) (#[pointer (some ⟨p,0,none⟩),.agg #[int i64 k0,int i64 k1,int i64 k2,int i64 k3]]) (by rfl) (by intro w;go_simp;try with_reducible rfl) (by (rintro w1 ⟨hS,_⟩;exact (HSIZE.o _ _ (hS.pull 1 _ rfl)).mono (by rintro e w' ⟨h1,h2⟩;exact ⟨h2,h1⟩))) ?_
   (try go_frame)
   repeat (first|refine ZaH (by rfl) _ (by rfl) (by intro w;go_simp;try with_reducible rfl) ?_|refine ZaK (by rfl) _ (by rfl) (by (intro w hSw;(try dsimp only at hSw);go_simp;try with_reducible rfl)) ?_|refine ZaI (by rfl) (by rfl) ?_|fail);(try go_frame)
   refine Zce ?_;refine ZdD ?_;rintro w5 hz5;have h5:=H5.o.drew.keep hz5.below;have H6:=Zh h5;clear h5 hz5 H5;go_wp2;refine Zw ?_;go_upto_region 6 with fail;obtain ⟨x0,x1,x2,x3,x4⟩:=HMK.o _ _ _ _ _ H6.o.drew;refine Zjj (fun w'=>w'.cell? ⟨q,0,none⟩=some (pointer (some ⟨p,0,none⟩))∧w'.cell? ⟨gk,0,none⟩=some (int i64 k0)∧w'.cell? ⟨gk,1,none⟩=some (int i64 k1)∧w'.cell? ⟨gk,2,none⟩=some (int i64 k2)∧w'.cell? ⟨gk,3,none⟩=some (int i64 k3)) [0,1,2,3,4,5] [] [6] [7,8,9,10,11] [] (by kernel_rfl) (by kernel_rfl) (by (exact ⟨x0,x1,x2,x3,x4⟩)) ?_;simp only [pickL,Zg,Zi];repeat (refine ZM _ (Or.inl ⟨by rfl,by (intro w hSw;(try dsimp only at hSw);go_simp;try with_reducible rfl)⟩) ?_;(try go_frame))
   refine Z7 ?_;unfold Zr;clear x0 x1 x2 x3 x4;unfold Zr;go_wp2_with fail;refine (HREAD.o _ _ n (H6.o.drew.pull 1 _ rfl)).mono ?_;rintro e w6 ⟨hb6,v6,rfl,ho6⟩;rw [<-HRD.o] at ho6 |-;simp only at ho6;obtain ⟨A6,c6,rfl⟩:=ZA ho6;obtain ⟨I6,hs6,hB6,h6⟩:=ZbU H6.o.drew hb6 ho6;have H7:=Zh h6;have HBB:=Zh hB6;have HS6:=Zh (HSUB.o.trans hs6);clear hb6 ho6 hs6 hB6 h6 H6 HREAD HSIZE;go_wp2;refine Zm (S:=fun _=>True) trivial ?_;unfold Zr;repeat (refine ZaE _ (Or.inl ⟨by rfl,by intro w;go_simp;try with_reducible rfl⟩) ?_;(try go_frame))
   refine ZaF ?_;go_wp2;refine Zw ?_;have h7:=H7.o;obtain ⟨A8,c8,H8,hlk,h8,hback⟩:=St.want_look kk (h7.pull 2 _ rfl);rw [HKV.o,<-HWK.o] at hlk;rw [<-HWK.o] at h8 hback;have hlk0:=hlk w6 (ZI _ _);have hsw:=SliceSrc.of_owns (St.row_owns h8) (Zcb wk);have HSW:=Zh hsw;have HBACK:=Zh (fun (I':Hp) (w':World) (l':List HP) (h:St W I' w' (rowHP (slice A8 wk.length c8) wk::H8::l'))=>hback h);have hsb:=ZaW h8 HBB.o;have HSB6:=Zh hsb;have heq:=ZfZ _ _ bs wk w6 hsb hsw HRDB.o HWKB.o;have hc6:bs.length<=c6:=by
    obtain ⟨A,c,e,_,h3,_⟩:=HBB.o;simp only [Zz] at e;omega
   have HPX:=Zh (fun w1 (h1:SliceSrc w1 1 (slice A6 bs.length c6) bs.length (bs.map byteV)) (h2:SliceSrc w1 1 (slice A8 wk.length c8) wk.length (wk.map byteV))=>ZnQ A6 c6 _ bs wk w1 h1 hc6 h2 HRDB.o HWKB.o);have H9:=Zh ((h8.pull 3 _ rfl).pull 3 _ rfl);obtain ⟨x0,x1,x2,x3,x4⟩:=HMK.o _ _ _ _ _ h7;have HEQ:=Zh heq;have HWKN:=Zh (show wk=[]↔wk.length=0 from ZiN.symm);obtain ⟨nl,hnl⟩:=Zn wk.length;rw [<-hnl] at hlk0 HEQ HPX HBACK H9 HSW HFS HWKN hwl;have HNL:=Zh hnl;clear hlk h8 hback hsw hsb heq hc6 h7 H7 hnl;by_cases her:er=0
   ·subst her;have HF1:=Zh (HFS.o.trans (Za (by simp)));try simp only at HF1
    obtain ⟨eb,heb⟩:=Zn (decide (bs=wk));rw [<-heb] at HEQ;cases eb with
    | true =>
     have hbw:bs=wk:=of_decide_eq_true heb.symm;by_cases hnz:nl=0
     ·have HF2:=Zh (HF1.o.trans ((Za (fun q=>q.2 (HWKN.o.2 hnz))).trans (Zb (HWKN.o.2 hnz))));subst hnz;clear heb hbw;go_wp2_with fail;refine HEQ.o.mono ?_;rintro e w7 ⟨rfl,rfl⟩;go_wp2_with fail;go_upto_region 13 with fail;refine ZaM [0,1,2] [3,4] [5,6] (by kernel_rfl) (by kernel_rfl) ?_;simp only [pickL,Zg,Zi];repeat (refine ZaE _ (Or.inl ⟨by rfl,by intro w;go_simp;try with_reducible rfl⟩) ?_;(try go_frame))
      refine ZaF ?_;repeat still_step
      refine ZaQ ?_;clear x0 x1 x2 x3 x4;go_wp2_with fail;refine (HDROP.o _ _ _ (H9.o.drew.pull 1 _ rfl)).mono ?_;rintro e w9 ⟨I9,s9,rfl,h9⟩;obtain ⟨⟨r9,S9⟩,hd⟩:∃ x,x=dropS S' kk:=⟨_,rfl⟩;rw [<-hd] at h9 |-;have HT:=Zh ((h9.pull 1 _ rfl).drop);have HI:=Zh s9;have HE:=Zh (HF2.o.trans hd.symm);clear h9 s9 hd;go_wp2;refine Zw ?_;by_cases hr:r9=0
      ·subst hr;have HC2:=Zh (show fixL mm ks S=fixL mm (ks.drop (i+1)) S9 from HFX.o.trans (by rw [HE.o];exact Za (by simp)));have HKP2:=Zh (show Keeps S9 (m+4*(ks.length - (i+1))) by have:=HKP.o;rw [HE.o] at this;exact this);have HSB3:=Zh (show SeenB S9 by have:=HSB2.o;rw [HE.o] at this;exact this rfl);go_wp2;go_roundw;case rel=>exact ⟨i+1,S9,I9,by go_num,by omega,HC2.o,HKP2.o,HSB3.o,HS6.o.trans HI.o,(HBACK.o _ _ _ ((HT.o.pull 2 _ rfl).pull 2 _ rfl)).pull 1 _ rfl⟩
       case measure=>simp [intOf]<;>omega
      ·have hne:(r9 != 0)=true:=by simpa using hr
       have HC2:=Zh (show trimJ S J=(r9,S9) from HX.o.trans (HFX.o.trans (by rw [HE.o];exact Zb hr)));go_wp2;go_ret;rw [HC2.o];exact ⟨I9,S2.o.trans (HS6.o.trans HI.o),rfl,((HT.o.pull 1 _ rfl).drop.pull 1 _ rfl).drop⟩
     ·have HE:=Zh (HF1.o.trans (Zb ⟨hbw,fun q=>hnz (HWKN.o.1 q)⟩));have hpos:0<nl:=by omega
      obtain ⟨S9,hS9⟩:=Zn S';obtain ⟨I9,hI9⟩:=Zn I6;have HT:=Zh (H9.o.drop);have HI:=Zh (show I6.sub I9 by rw [hI9];exact Hp.sub.refl _);subst hI9;subst hS9;clear heb hbw H9;go_wp2_with fail;refine HEQ.o.mono ?_;rintro e w7 ⟨rfl,rfl⟩;have HC2:=Zh (show fixL mm ks S=fixL mm (ks.drop (i+1)) S9 from HFX.o.trans (by rw [HE.o];exact Za (by simp)));have HKP2:=Zh (show Keeps S9 (m+4*(ks.length - (i+1))) by have:=HKP.o;rw [HE.o] at this;exact this);have HSB3:=Zh (show SeenB S9 by have:=HSB2.o;rw [HE.o] at this;exact this rfl);go_wp2;go_roundw;case rel=>exact ⟨i+1,S9,I9,by go_num,by omega,HC2.o,HKP2.o,HSB3.o,HS6.o.trans HI.o,(HBACK.o _ _ _ ((HT.o.pull 2 _ rfl).pull 2 _ rfl)).pull 1 _ rfl⟩
      case measure=>simp [intOf]<;>omega
    | false =>
     have hbw:¬ bs=wk:=of_decide_eq_false heb.symm;have HF1b:=Zh (HF1.o.trans (Za (fun q=>hbw q.1)));by_cases hnz:nl=0
     ·have HF2:=Zh (HF1b.o.trans (Zb (HWKN.o.2 hnz)));subst hnz;clear heb hbw;go_wp2_with fail;refine HEQ.o.mono ?_;rintro e w7 ⟨rfl,rfl⟩;go_wp2_with fail;go_upto_region 13 with fail;refine ZaM [0,1,2] [3,4] [5,6] (by kernel_rfl) (by kernel_rfl) ?_;simp only [pickL,Zg,Zi];repeat (refine ZaE _ (Or.inl ⟨by rfl,by intro w;go_simp;try with_reducible rfl⟩) ?_;(try go_frame))
      refine ZaF ?_;repeat still_step
      refine ZaQ ?_;clear x0 x1 x2 x3 x4;go_wp2_with fail;refine (HDROP.o _ _ _ (H9.o.drew.pull 1 _ rfl)).mono ?_;rintro e w9 ⟨I9,s9,rfl,h9⟩;obtain ⟨⟨r9,S9⟩,hd⟩:∃ x,x=dropS S' kk:=⟨_,rfl⟩;rw [<-hd] at h9 |-;have HT:=Zh ((h9.pull 1 _ rfl).drop);have HI:=Zh s9;have HE:=Zh (HF2.o.trans hd.symm);clear h9 s9 hd;go_wp2;refine Zw ?_;by_cases hr:r9=0
      ·subst hr;have HC2:=Zh (show fixL mm ks S=fixL mm (ks.drop (i+1)) S9 from HFX.o.trans (by rw [HE.o];exact Za (by simp)));have HKP2:=Zh (show Keeps S9 (m+4*(ks.length - (i+1))) by have:=HKP.o;rw [HE.o] at this;exact this);have HSB3:=Zh (show SeenB S9 by have:=HSB2.o;rw [HE.o] at this;exact this rfl);go_wp2;go_roundw;case rel=>exact ⟨i+1,S9,I9,by go_num,by omega,HC2.o,HKP2.o,HSB3.o,HS6.o.trans HI.o,(HBACK.o _ _ _ ((HT.o.pull 2 _ rfl).pull 2 _ rfl)).pull 1 _ rfl⟩
       case measure=>simp [intOf]<;>omega
      ·have hne:(r9 != 0)=true:=by simpa using hr
       have HC2:=Zh (show trimJ S J=(r9,S9) from HX.o.trans (HFX.o.trans (by rw [HE.o];exact Zb hr)));go_wp2;go_ret;rw [HC2.o];exact ⟨I9,S2.o.trans (HS6.o.trans HI.o),rfl,((HT.o.pull 1 _ rfl).drop.pull 1 _ rfl).drop⟩
     ·have HF1c:=Zh (HF1b.o.trans (Za (fun q=>hnz (HWKN.o.1 q))));have hpos:0<nl:=by omega
      have hpx:=HPX.o w6 HSB6.o HSW.o;obtain ⟨pb,hpb⟩:=Zn (decide (wk<+:bs));rw [<-hpb] at hpx;have HPX2:=Zh hpx;clear heb hbw hpx;go_wp2_with fail;refine HEQ.o.mono ?_;rintro e w7 ⟨rfl,rfl⟩;go_wp2_with fail;refine HPX2.o.mono ?_;rintro e w7 ⟨rfl,rfl⟩;cases pb with
      | true =>
       have HF2:=Zh (HF1c.o.trans (Zb (of_decide_eq_true hpb.symm)));try rw [<-HNL.o] at HF2
       clear hpb;go_wp2_with fail;go_upto_region 15 with fail;refine ZaM [0,1,2,5,6] [3,4] [7,8] (by kernel_rfl) (by kernel_rfl) ?_;simp only [pickL,Zg,Zi];repeat (refine ZaE _ (Or.inl ⟨by rfl,by intro w;go_simp;try with_reducible rfl⟩) ?_;(try go_frame))
       refine ZaF ?_;repeat still_step
       refine ZaQ ?_;clear x0 x1 x2 x3 x4;go_wp2_with fail;refine (HTRIM.o _ _ _ _ (H9.o.drew.pull 1 _ rfl)).mono ?_;rintro e w9 ⟨I9,s9,rfl,h9⟩;obtain ⟨⟨r9,S9⟩,hd⟩:∃ x,x=trimS S' kk (nl:Int):=⟨_,rfl⟩;rw [<-hd] at h9 |-;have HT:=Zh ((h9.pull 1 _ rfl).drop);have HI:=Zh s9;have HE:=Zh (HF2.o.trans hd.symm);clear h9 s9 hd;go_wp2;refine Zw ?_;by_cases hr:r9=0
       ·subst hr;have HC2:=Zh (show fixL mm ks S=fixL mm (ks.drop (i+1)) S9 from HFX.o.trans (by rw [HE.o];exact Za (by simp)));have HKP2:=Zh (show Keeps S9 (m+4*(ks.length - (i+1))) by have:=HKP.o;rw [HE.o] at this;exact this);have HSB3:=Zh (show SeenB S9 by have:=HSB2.o;rw [HE.o] at this;exact this rfl);go_wp2;go_roundw;case rel=>exact ⟨i+1,S9,I9,by go_num,by omega,HC2.o,HKP2.o,HSB3.o,HS6.o.trans HI.o,(HBACK.o _ _ _ ((HT.o.pull 2 _ rfl).pull 2 _ rfl)).pull 1 _ rfl⟩
        case measure=>simp [intOf]<;>omega
       ·have hne:(r9 != 0)=true:=by simpa using hr
        have HC2:=Zh (show trimJ S J=(r9,S9) from HX.o.trans (HFX.o.trans (by rw [HE.o];exact Zb hr)));go_wp2;go_ret;rw [HC2.o];exact ⟨I9,S2.o.trans (HS6.o.trans HI.o),rfl,((HT.o.pull 1 _ rfl).drop.pull 1 _ rfl).drop⟩
      | false =>
       have HF2:=Zh (HF1c.o.trans (Za (of_decide_eq_false hpb.symm)));clear hpb;go_wp2_with fail;go_upto_region 8 with fail;refine ZaM [0,1,2] [3,4] [5,6] (by kernel_rfl) (by kernel_rfl) ?_;simp only [pickL,Zg,Zi];repeat (refine ZaE _ (Or.inl ⟨by rfl,by intro w;go_simp;try with_reducible rfl⟩) ?_;(try go_frame))
       refine ZaF ?_;repeat still_step
       refine ZaQ ?_;clear x0 x1 x2 x3 x4;go_wp2_with fail;refine (HTRIM.o _ _ _ 0 (H9.o.drew.pull 1 _ rfl)).mono ?_;rintro e w9 ⟨I9,s9,rfl,h9⟩;obtain ⟨⟨r9,S9⟩,hd⟩:∃ x,x=trimS S' kk 0:=⟨_,rfl⟩;rw [<-hd] at h9 |-;have HT:=Zh ((h9.pull 1 _ rfl).drop);have HI:=Zh s9;have H10:=Zh h9;have HF3:=Zh (show fixS mm kk S'=if r9≠0 then (r9,S9) else ZbA S9 kk 0 wk by rw [HF2.o,<-hd]);have HTK9:=Zh (show Keeps S9 (m+2) by rw [show S9=(trimS S' kk 0).2 by rw [<-hd]];exact HTK.o);clear h9 s9 hd;go_wp2;refine Zw ?_;by_cases hr:r9=0
       ·subst hr;have HF4:=Zh (HF3.o.trans (Za (by simp)));have HSW9:=Zh (SliceSrc.of_owns (St.row_owns (H10.o.drew.pull 2 _ rfl)) (Zcb wk));rw [<-HNL.o] at HSW9;obtain ⟨x1,x2,x3,x4⟩:=Zfp (H10.o.pull 1 _ rfl);obtain ⟨x0,lq⟩:=(H10.o.pull 4 _ rfl).jn_ptr;go_wp2_with fail;go_upto_region 10 with fail;refine ZaM [0,1,2,5] [3,4] [6,7] (by kernel_rfl) (by kernel_rfl) ?_;simp only [pickL,Zg,Zi];repeat (refine ZaE _ (Or.inl ⟨by rfl,by intro w;go_simp;try with_reducible rfl⟩) ?_;(try go_frame))
        refine ZaF ?_;repeat still_step
        refine ZaQ ?_;clear x0 x1 x2 x3 x4;go_wp2_with fail;rw [HNL.o] at HSW9 |-;refine (HWRITE.o _ _ _ S9 _ wk (HTK9.o.fewer (by omega)) H10.o.drew HSW9.o (by rw [<-HNL.o];exact hwl)).mono ?_;rintro e w10 ⟨I10,s10,rfl,h10⟩;obtain ⟨⟨r10,S10⟩,hd2⟩:∃ x,x=ZbA S9 kk 0 wk:=⟨_,rfl⟩;rw [<-hd2] at h10 |-;try rw [<-HNL.o] at h10
        try rw [<-HNL.o]
        have HT:=Zh ((h10.pull 1 _ rfl).drop);have HI:=Zh (HI.o.trans s10);have HE:=Zh (HF4.o.trans hd2.symm);clear h10 s10 hd2;go_wp2;refine Zw ?_;by_cases hr:r10=0
        ·subst hr;have HC2:=Zh (show fixL mm ks S=fixL mm (ks.drop (i+1)) S10 from HFX.o.trans (by rw [HE.o];exact Za (by simp)));have HKP2:=Zh (show Keeps S10 (m+4*(ks.length - (i+1))) by have:=HKP.o;rw [HE.o] at this;exact this);have HSB3:=Zh (show SeenB S10 by have:=HSB2.o;rw [HE.o] at this;exact this rfl);go_wp2;go_roundw;case rel=>exact ⟨i+1,S10,I10,by go_num,by omega,HC2.o,HKP2.o,HSB3.o,HS6.o.trans HI.o,(HBACK.o _ _ _ ((HT.o.pull 2 _ rfl).pull 2 _ rfl)).pull 1 _ rfl⟩
         case measure=>simp [intOf]<;>omega
        ·have hne:(r10 != 0)=true:=by simpa using hr
         have HC2:=Zh (show trimJ S J=(r10,S10) from HX.o.trans (HFX.o.trans (by rw [HE.o];exact Zb hr)));go_wp2;go_ret;rw [HC2.o];exact ⟨I10,S2.o.trans (HS6.o.trans HI.o),rfl,((HT.o.pull 1 _ rfl).drop.pull 1 _ rfl).drop⟩
       ·have hne0:(r9==0)=false:=by simpa using hr
        have hne:(r9 != 0)=true:=by simpa using hr
        have HE:=Zh (HF3.o.trans (Zb hr));have HC2:=Zh (show trimJ S J=(r9,S9) from HX.o.trans (HFX.o.trans (by rw [HE.o];exact Zb hr)));go_wp2;go_ret;rw [HC2.o];exact ⟨I9,S2.o.trans (HS6.o.trans HI.o),rfl,((HT.o.pull 1 _ rfl).drop.pull 1 _ rfl).drop⟩
   ·have hr:er≠0:=her;have hne:(er != 0)=true:=by simpa using hr
    have HE:=Zh (HFS.o.trans (Zb her));try simp only at HE
    obtain ⟨S9,hS9⟩:=Zn S';obtain ⟨I9,hI9⟩:=Zn I6;have HT:=Zh (H9.o.drop);have HI:=Zh (show I6.sub I9 by rw [hI9];exact Hp.sub.refl _);subst hI9;subst hS9;clear H9 her;have HC2:=Zh (show trimJ S J=(er,S9) from HX.o.trans (HFX.o.trans (by rw [HE.o];exact Zb hr)));go_wp2;go_ret;rw [HC2.o];exact ⟨I9,S2.o.trans (HS6.o.trans HI.o),rfl,((HT.o.pull 1 _ rfl).drop.pull 1 _ rfl).drop⟩
  ·obtain rfl:i=ks.length:=by omega
   have d0:decide (((ks.length:Nat):Int)<(ks.length:Int))=false:=by rw [ZT];omega
   rw [Zex] at hfx;have HFX:=Zh (HX.o.trans hfx);have hba:=Zec hst (hk'.fewer (show m<=m+4*(ks.length - ks.length) by omega));obtain ⟨x0,lq⟩:=(hst.pull 2 _ rfl).jn_ptr;obtain ⟨⟨r9,S9⟩,hd⟩:∃ x,x=ZB S':=⟨_,rfl⟩;have HFX2:=Zh (HFX.o.trans (show fixL mm [] S'=(r9,S9) from hd.symm));rw [<-hd] at hba;have HBA:=Zh hba;have HSUB:=Zh hsub;clear hba hfx hk' hst hsub hd;go_wp2_with fail;refine HBA.o.mono ?_;rintro e w3 ⟨I3,hs3,rfl,h3⟩;have H3:=Zh h3;have HS3:=Zh (HSUB.o.trans hs3);clear h3 hs3;go_wp2;go_ret;rw [HFX2.o];exact ⟨I3,S2.o.trans HS3.o,rfl,(H3.o.pull 1 _ rfl).drop⟩
end
theorem Zmg {α:Type} {mk:α->List Value} {k:Nat} (hk:∀ a,(mk a).length=k):∀ (l:List α) (i j:Nat) (a a':α) (v:Value),l[i]?=some a->j<k->mk a'=(mk a).set j v->(l.flatMap mk).set (i*k+j) v=(l.set i a').flatMap mk
 | [],i,j,a,a',v,h,_,_=>by simp at h
 | b::l,0,j,a,a',v,h,hj,e=>by
  simp only [Zg,Zaa] at h;subst h;rw [Za0,ZcE,ZX,List.set_append_left _ _ (by rw [hk];exact hj),Zd,Za0,e]
 | b::l,i+1,j,a,a',v,h,hj,e=>by
  rw [Za0,List.set_append_right _ _ (by rw [hk,ZcK];omega),hk,show (i+1)*k+j - k=i*k+j by rw [ZcK];omega,Ze,Za0,Zmg hk l i j a a' v (by simpa using h) hj e]
section
theorem St.row_set {α:Type} {mk:α->List Value} {k g c:Nat} {e:TypeId} {zs:List α} (h:St W I w (HP.row e k (slice (some ⟨g,0,none⟩) zs.length c) zs.length (zs.flatMap mk)::l)) (hk:∀ a,(mk a).length=k) {i j:Nat} {a a':α} {v:Value} (ha:zs[i]?=some a) (hj:j<k) (he:mk a'=(mk a).set j v) :
  St W I (w.setCell ⟨g,i*k+j,none⟩ v) (HP.row e k (slice (some ⟨g,0,none⟩) zs.length c) zs.length ((zs.set i a').flatMap mk)::l)∧(∀ x,w.frozen? ⟨g,x,none⟩=false)∧g<w.heap.size:=by
 have hil:=(ZH.1 ha).1;obtain ⟨hl,p⟩:=h.row_open;rcases p with ⟨_,e2,_⟩|⟨g',cap,cur,e1,p3,p4,p5,p6,s⟩
 ·omega
 ·simp only [Zz,Zaa,Addr.mk.injEq,ZaR,Zap] at e1;obtain ⟨rfl,rfl⟩:=e1;refine ⟨(s.setCell (i*k+j) v).row_shut (by rw [ZeK hk,List.length_set]) p3 p4 (by simpa using p5) ?_,frozen_of_row s.heap,s.lt⟩;rw [<-Zmg hk zs i j a a' v ha hj he,<-p6,<-List.take_set];simp
theorem St.rowk_cells {α:Type} {mk:α->List Value} {k c:Nat} {A:Option Addr} {e:TypeId} {zs:List α} (h:St W I w (HP.row e k (slice A zs.length c) zs.length (zs.flatMap mk)::l)) (hk:∀ a,(mk a).length=k) {i:Nat} {a:α} (ha:zs[i]?=some a) :
  ∃ g,A=some ⟨g,0,none⟩∧∀ j,j<k->w.cell? ⟨g,i*k+j,none⟩=(mk a)[j]?:=by
 have hil:=(ZH.1 ha).1;obtain ⟨hl,p⟩:=h.row_open;rcases p with ⟨_,e2,_⟩|⟨g,cap,cur,e1,p3,p4,p5,p6,s⟩
 ·omega
 ·simp only [Zz,ZaR] at e1;obtain ⟨rfl,rfl⟩:=e1;refine ⟨g,rfl,fun j hj=>?_⟩;rw [Zc s.heap];have h7:=Zde (mk:=mk) (k:=k) hk zs i j a ha hj;rw [<-h7,<-p6,ZcG,Zb,<-Zm7];have h8:=ZeK hk zs;have h9:i*k+j<zs.length*k:=by
   have:=Zdb k (show i+1<=zs.length by omega);rw [ZcK,Nat.one_mul] at this;omega
  exact h9
def Zbr (e:Int) (c:Cl):Cl:={ c with pos:=min c.pos e }
theorem Zq9 (r:Rc) (e:Int):Zbg r e=⟨r.shape,r.first,r.set,ZQ r.tags e,r.cls.map (Zbr e)⟩:=rfl
theorem ZkR {cs:List Cl} {e:Int} {i:Nat} {c:Cl} (h:cs[i]?=some c):((cs.take i).map (Zbr e)++cs.drop i).set i (Zbr e c)=(cs.take (i+1)).map (Zbr e)++cs.drop (i+1):=by
 have hil:=(ZH.1 h).1;have hl:((cs.take i).map (Zbr e)).length=i:=by rw [Za7,ZJ];omega
 rw [List.set_append_right _ _ (by omega),hl,Zdn,ZaS hil,Zd,Zb9,h,Zbo,ZV];rfl
theorem ZoN (r:Rc) (vt vc:Value) (en:Int) (h:St W I w l) (hI:recI I r vt vc) (ht:r.tags.length<=1000000) (hc:r.cls.length<=1000000) :
  Calls prog 147 #[.agg (r.cells vt vc),int i64 en] w fun x w'=>∃ I' vt' vc',I.sub I'∧x=.returned (.agg ((Zbg r en).cells vt' vc'))∧recI I' (Zbg r en) vt' vc'∧St W I' w' l:=by
 obtain ⟨At,ct,rfl,hnt,hat⟩:=ZbM h hI.1;have hI2:=hI.2;obtain ⟨Ac,cc,rfl,_⟩:=hI.2;have h2:=(h.alloc (cells (r.cells (slice At r.tags.length ct) (slice Ac r.cls.length cc)) 105)).alloc (cells #[int i64 0,int i64 0,int i64 0,int i64 0,int i64 0,slice none 0 0,slice none 0 0] 105);simp only [Rc.cells] at h2 |-;rw [Zq9];have b2:=((ZI w.heap.size w).alloc (ZC _) (cells #[int i64 r.shape.splay,int i64 r.shape.sets,int i64 r.shape.size,int i64 r.first,int i64 r.set,slice At r.tags.length ct,slice Ac r.cls.length cc] 105));have hcut:=fun w1 (hb:Below w.heap.size w w1)=>Zlw At r.tags.length ct r.tags en w1 (hat.below hb (ZC _)) ht hnt;have HCUT:=Zh hcut;have HI2:=Zh hI2;have HC:=Zh hc;have H2:=Zh h2;have H:=Zh h;obtain ⟨nt,hnn⟩:=Zn r.tags.length;obtain ⟨nc,hnc⟩:=Zn r.cls.length;rw [<-hnn] at HCUT H2;rw [<-hnc] at H2;rw [<-hnn,<-hnc];have HNC:=Zh hnc;clear h h2 hcut hI hI2 ht hc b2 hat hnt hnn hnc;go_enter func147,ntmps147;go_upto_region 1 with fail;have h2:=H2.o.pull 1 _ rfl;obtain ⟨g,hg⟩:=Zn w.heap.size;have hg1:(w.alloc (cells #[int i64 r.shape.splay,int i64 r.shape.sets,int i64 r.shape.size,int i64 r.first,int i64 r.set,slice At nt ct,slice Ac nc cc] 105)).heap.size=w.heap.size+1:=by simp
 rw [hg1] at h2;have HCUT2:=Zh (HCUT.o _ (((ZI w.heap.size w).alloc (ZC _) (cells #[int i64 r.shape.splay,int i64 r.shape.sets,int i64 r.shape.size,int i64 r.first,int i64 r.set,slice At nt ct,slice Ac nc cc] 105)).alloc (by simp) (cells #[int i64 0,int i64 0,int i64 0,int i64 0,int i64 0,slice none 0 0,slice none 0 0] 105)));rw [<-hg] at h2 |-;generalize (World.alloc (World.alloc _ _) _:World)=w2 at h2 HCUT2 |-;clear HCUT H2 hg1 hg;obtain ⟨x0,x1,x2,x3,x4,x5,x6⟩:=ZaC h2;have fr:=frozen_of_row h2.heap;have lg:=h2.lt;have H2:=Zh h2;clear h2;go_wp2_with fail;refine HCUT2.o.mono ?_;rintro e w3 ⟨v3,rfl,ho3,hb3⟩;obtain ⟨A3,c3,rfl⟩:=ZA ho3;obtain ⟨I3,s3,hR3,h3⟩:=(H2.o.row_fresh hb3 ho3).freeze_row;clear x0 x1 x2 x3 x4 x5 x6 fr lg ho3 hb3 HCUT2 H2;obtain ⟨x0,x1,x2,x3,x4,x5,x6⟩:=ZaC h3;have fr:=frozen_of_row h3.heap;have lg:=h3.lt;have h4:=h3.setCell 5 (slice A3 (ZQ r.tags en).length c3);simp only [Zf,Zd,Ze] at h4;have hcl:=ZeG (slice Ac nc cc) r.cls.length (r.cls.flatMap Cl.vals) (w3.setCell ⟨g,5,none⟩ (slice A3 (ZQ r.tags en).length c3)) (by have:=(HI2.o.mono s3).src h4.imm (Zcz _) (by omega);rw [<-HNC.o] at this |-;exact this) HC.o;have H4:=Zh h4;have HCL:=Zh hcl;have HR3:=Zh hR3;have S3:=Zh s3;clear h3 h4 hcl hR3 s3;go_wp2_with fail;refine HCL.o.mono ?_;rintro e w5 ⟨v5,rfl,ho5,hb5⟩;obtain ⟨A5,c5,rfl⟩:=ZA ho5;have h5:=(H4.o.row_fresh hb5 ho5).pull 1 _ rfl;clear x0 x1 x2 x3 x4 x5 x6 fr lg ho5 hb5 HCL H4;obtain ⟨x0,x1,x2,x3,x4,x5,x6⟩:=ZaC h5;have fr:=frozen_of_row h5.heap;have lg:=h5.lt;have h6:=h5.setCell 6 (slice A5 r.cls.length c5);simp only [Zf,Zd,Ze] at h6;rw [<-HNC.o] at h6 |-;have H6:=Zh h6;clear h5 h6;go_wp2_with fail;have h6:=H6.o;generalize (World.setCell _ _ _:World)=w6 at h6 |-;have hcn:=HC.o;rw [<-HNC.o] at hcn;clear x0 x1 x2 x3 x4 x5 x6 fr lg H6;obtain ⟨x0,x1,x2,x3,x4,x5,x6⟩:=ZaC h6;have lg:=h6.lt;have H6:=Zh h6;clear h6;go_wp2;go_loopw [19] (fun a19 wr=>∃ i:Nat,a19=int i64 i∧i<=nc∧St W I3 wr (pt g (cells #[int i64 r.shape.splay,int i64 r.shape.sets,int i64 r.shape.size,int i64 r.first,int i64 r.set,slice A3 (ZQ r.tags en).length c3,slice A5 nc c5] 105)::HP.row 212 3 (slice A5 nc c5) nc (((r.cls.take i).map (Zbr en)++r.cls.drop i).flatMap Cl.vals)::pt (g+1) (cells #[int i64 0,int i64 0,int i64 0,int i64 0,int i64 0,slice none 0 0,slice none 0 0] 105)::l)) (fun a19 _=>nc - (intOf a19).toNat);case atStart=>exact ⟨0,rfl,ZL _,by rw [ZfH,Zcr,Zu,Zdo];exact H6.o⟩
 case round =>
  obtain ⟨i,rfl,hi,hst⟩:=hrel;clear x0 x1 x2 x3 x4 x5 x6 lg H6;by_cases hlt:i<nc
  ·have hlt2:(i:Int)<(nc:Int):=by omega
   obtain ⟨c,hc⟩:∃ c,r.cls[i]?=some c:=⟨_,Zy (by rw [<-HNC.o];exact hlt)⟩;obtain ⟨zs,hzs⟩:=Zn ((r.cls.take i).map (Zbr en)++r.cls.drop i);have hzl:zs.length=nc:=by rw [hzs,Zs,Za7,<-Zs,Zck,HNC.o]
   have hz:zs[i]?=some c:=by
    have hl:((r.cls.take i).map (Zbr en)).length=i:=by rw [Za7,ZJ,<-HNC.o];omega
    rw [hzs,ZfE (by omega),hl,Zdn,Zbw,ZaP,hc]
   have hnx:=ZkR (e:=en) hc;rw [<-hzs] at hst hnx;have hst2:St W I3 wr (HP.row 212 3 (slice A5 zs.length c5) zs.length (zs.flatMap Cl.vals)::pt g (cells #[int i64 r.shape.splay,int i64 r.shape.sets,int i64 r.shape.size,int i64 r.first,int i64 r.set,slice A3 (ZQ r.tags en).length c3,slice A5 nc c5] 105)::pt (g+1) (cells #[int i64 0,int i64 0,int i64 0,int i64 0,int i64 0,slice none 0 0,slice none 0 0] 105)::l):=by
    rw [hzl];exact hst.pull 1 _ rfl
   obtain ⟨g5,rfl,hcc⟩:=hst2.rowk_cells (fun _=>rfl) hz;have y0:=hcc 0 (by omega);have y1:=hcc 1 (by omega);have y2:=hcc 2 (by omega);obtain ⟨h7,f5,l5⟩:=hst2.row_set (mk:=Cl.vals) (fun _=>rfl) (j:=1) (a':=Zbr en c) (v:=int i64 (min c.pos en)) hz (by omega) rfl;have f5:=f5 (i*3+1);rw [hnx,hzl] at h7;have x6:=(ZaC hst).2.2.2.2.2.2;have lg:=hst.lt;obtain ⟨cid,cpos,coff⟩:=c;simp only [Cl.vals,Zg,Zi,ZaP] at y0 y1 y2;simp only at h7;have H7:=Zh ((h7.pull 1 _ rfl).keep (ZS _ (cells #[int i64 cid,int i64 cpos,.bool coff] 212)));clear hst hst2 hcc h7 hz hzs hzl hnx hc;go_wp2;go_roundw;case rel=>exact ⟨i+1,by go_num,by omega,H7.o⟩
   case measure=>simp [intOf]<;>omega
  ·obtain rfl:i=nc:=by omega
   have hlt2:¬ (i:Int)<(i:Int):=by omega
   rw [Zba (by rw [<-HNC.o];exact ZC _),ZbS (by rw [<-HNC.o];exact ZC _),Zbc] at hst;obtain ⟨y0,y1,y2,y3,y4,y5,y6⟩:=ZaC hst;obtain ⟨z0,z1,z2,z3,z4,z5,z6⟩:=ZaC (hst.pull 2 _ rfl);have lg:=hst.lt;have lg2:=(hst.pull 2 _ rfl).lt;have fr:=frozen_of_row (hst.pull 2 _ rfl).heap;have h8:=((hst.pull 2 _ rfl).set7 (int i64 r.shape.splay) (int i64 r.shape.sets) (int i64 r.shape.size) (int i64 r.first) (int i64 r.set) (slice A3 (ZQ r.tags en).length c3) (slice A5 i c5));have H8:=Zh h8;clear hst h8;go_wp2_with fail;have h8:=H8.o;generalize (World.setCell _ _ _:World)=w8 at h8 |-;clear y0 y1 y2 y3 y4 y5 y6 z0 z1 z2 z3 z4 z5 z6 fr lg lg2 H8;obtain ⟨y0,y1,y2,y3,y4,y5,y6⟩:=ZaC h8;obtain ⟨I9,s9,hR9,h9⟩:=(h8.drop.pull 1 _ rfl).freeze_row;have HR9:=Zh hR9;have H9:=Zh h9.drop;have S9:=Zh s9;clear h8 hR9 h9 s9;refine Zaj (v:=.agg #[int i64 r.shape.splay,int i64 r.shape.sets,int i64 r.shape.size,int i64 r.first,int i64 r.set,slice A3 (ZQ r.tags en).length c3,slice A5 i c5]) (by simp [results,results147,go_sem,y0,y1,y2,y3,y4,y5,y6]) rfl ?_;refine ⟨I9,S3.o.trans S9.o,slice A3 (ZQ r.tags en).length c3,slice A5 i c5,rfl,⟨HR3.o.mono S9.o,?_⟩,H9.o⟩;show RowI I9 3 (slice A5 i c5) (r.cls.map (Zbr en)).length ((r.cls.map (Zbr en)).flatMap Cl.vals);rw [Za7,<-HNC.o];exact HR9.o
end
theorem ZnV (l:List Tag) (e:Int):ZQ l e=l.take (ZQ l e).length:=Zi5.1 (Zdr _)
theorem ZeL {l:List Tag} {n:Nat} (h:ZaA l l.length=true) (hn:n<=l.length):ZaA l n=true:=by
 cases hh:ZaA l n with
 | true=>rfl
 | false =>
  have:=Zhg hh (l.length - n);rw [show n+(l.length - n)=l.length by omega,h] at this;cases this
theorem ZjT {l:List Tag} {n:Nat}:∀ k,k<=n->ZaA (l.take n) k=ZaA l k
 | 0,_=>rfl
 | k+1,h=>by
  unfold ZaA;rw [ZjT k (by omega),Ze0 (by omega),Zc9,ZcJ (by omega)]
theorem ZjU {l:List Tag} (h:Z3 l=true):∃ t ts,l=t::ts∧t.at_=0:=by
 have hl:=Ze6 h
 match l,hl with
 | t::ts,_ =>
  refine ⟨t,ts,rfl,?_⟩;unfold Z3 at h;simp only [ZR] at h;have h1:=ZeL h.2 (show 1<=(t::ts).length by simp);have h2:tagOk t []=true:=by simpa [ZaA] using h1
  unfold tagOk at h2;simp only [ZR,Zk] at h2;have h3:=h2.2;unfold Zcn at h3;by_cases q:t.at_=0
  ·exact q
  ·exact absurd ⟨rfl,q⟩ h3.1
theorem ZpP {l:List Tag} {e:Int} (h:Z3 l=true) (he:0<=e):Z3 (ZQ l e)=true:=by
 obtain ⟨t,ts,hl,h0⟩:=ZjU h;have hlen:=Ze6 h;have hle:(ZQ l e).length<=l.length:=(Zdr _).length_le;have hne:1<=(ZQ l e).length:=by
  rw [hl];unfold ZQ;rw [Zcv,Zb (by rw [Zk];omega)];simp
 have hok:ZaA l l.length=true:=by
  unfold Z3 at h;simp only [ZR] at h;exact h.2
 obtain ⟨n,hn⟩:∃ n,(ZQ l e).length=n:=⟨_,rfl⟩;have hct:=ZnV l e;rw [hn] at hct hle hne;unfold Z3;rw [ZR];refine ⟨by rw [Zk,hn];omega,?_⟩;rw [hn,hct,ZjT n (ZC _)];exact ZeL hok hle
theorem ZjV {e:Int} (he:0<=e):∀ (l:List Cl) (last:Int),clsGo l last=true->clsGo (l.map (Zbr e)) last=true
 | [],_,_=>rfl
 | c::l,last,h=>by
  rw [ZaT];unfold clsGo at h |-;simp only [ZR,Zk] at h |-;obtain ⟨⟨h1,h2⟩,h3⟩:=h;refine ⟨⟨?_,h2⟩,ZjV he l c.id h3⟩;unfold mayC at h1 |-;rw [Zk] at h1 |-;have h4:0<=min c.pos e∧min c.pos e<=c.pos:=by omega
  exact ⟨h1.1,h1.2.1,h4.1,ZbT h4.2 h1.2.2.2⟩
theorem Znj {e:Int} (he:0<=e) {l:List Cl} (h:Zae l=true):Zae (l.map (Zbr e))=true:=by
 unfold Zae at h |-;simp only [ZR,Zk,Za7] at h |-;exact ⟨ZjV he l 0 h.1,h.2⟩
theorem Zh0 {r:Rc} {e:Int} (h:r.Ok) (he:0<=e):(Zbg r e).Ok:=⟨h.shape,h.first,h.set,ZpP h.tags he,Znj he h.cls⟩
theorem ZpQ (J:Jn) (r:Rc) (e:Int) (h1:r.first=J.r.first) (he:e=endJ J):ZgD (recJ J r) e=safeJ (recJ J r):=by
 unfold ZgD safeJ;rw [he];unfold endJ recJ;rw [h1]
section
variable {p q : Nat} {J : Jn} {S : Str}
theorem St.jn_rcells (h:St W I w (jnHP q p J::l)):∃ vt vc,recI I J.r vt vc∧(w.cell? ⟨q,0,none⟩=some (pointer (some ⟨p,0,none⟩))∧w.cell? ⟨q,1,none⟩=some (int i64 J.r.shape.splay)∧w.cell? ⟨q,2,none⟩=some (int i64 J.r.shape.sets)∧w.cell? ⟨q,3,none⟩=some (int i64 J.r.shape.size)∧w.cell? ⟨q,4,none⟩=some (int i64 J.r.first)∧w.cell? ⟨q,5,none⟩=some (int i64 J.r.set)∧w.cell? ⟨q,6,none⟩=some vt∧w.cell? ⟨q,7,none⟩=some vc)∧q<w.heap.size∧(∀ i,w.frozen? ⟨q,i,none⟩=false):=by
 obtain ⟨V,hr,h1⟩:=h.jn_open;obtain ⟨a1,a2,a3⟩:=Zc0 h1;exact ⟨V.vt,V.vc,hr,⟨jn_c0 h1,a1,a2,a3,jn_c4 h1,jn_c5 h1,jn_c6 h1,jn_c7 h1⟩,h1.lt,Zbx h1⟩
theorem ZhC (o:Option Rc) {m:Nat} (h:St W I w (Zj p S::jnHP q p J::l)) (hk:Keeps S (m+2+4*(Zau S ⟨2,0⟩).length)) (hn:(Zp S ⟨2,0⟩).length<=1000000) (hb:SeenB S) (hB:JB J) (hE:∀ e ∈ J.l,e.okB=true) (hj:(trimJ S J).1=0->JRec (trimJ S J).2 o) :
  Calls prog 87 #[pointer (some ⟨q,0,none⟩)] w fun e w'=>∃ I',I.sub I'∧e=.returned (int i64 (mendJ S J).1)∧St W I' w' (Zj p (mendJ S J).2.1::jnHP q p (mendJ S J).2.2::l):=by
 have htr:=ZkQ (m:=m+2) h hk hn hb hB.lens hB.len hE;have hkt:Keeps (trimJ S J).2 (m+2):=Zgd hk;obtain ⟨⟨a,S1⟩,hts⟩:∃ x,x=trimJ S J:=⟨_,rfl⟩;rw [<-hts] at htr hkt hj;have HX:=Zh (show mendJ S J=if a≠0 then (a,S1,endsJ J a) else ((saveJ S1 (Zbg J.r (endJ J))).1,(saveJ S1 (Zbg J.r (endJ J))).2,endsJ (ZgD (recJ J (Zbg J.r (endJ J))) (endJ J)) (saveJ S1 (Zbg J.r (endJ J))).1) by unfold mendJ;rw [<-hts]);have HTR:=Zh htr;have HKT:=Zh hkt;have HJ:=Zh hj;have HB:=Zh hB;clear h hk hn hb hB hE hj htr hkt hts;go_enter func87,ntmps87;go_wp2_with fail;refine HTR.o.mono ?_;rintro e w1 ⟨I1,s1,rfl,h1⟩;have S1':=Zh s1;by_cases ha:a=0
 ·subst ha;have HX2:=Zh (HX.o.trans (Za (by simp)));have H1:=Zh h1;clear h1 s1;go_wp2_with fail;go_upto_region 4 with fail;obtain ⟨⟨vt,vc,vl,va⟩,hrI,h2⟩:=(H1.o.drew.pull 1 _ rfl).jn_open;obtain ⟨At,ct,e1,_⟩:=hrI.1;obtain ⟨Ac,cc,e2,_⟩:=hrI.2;simp only at e1 e2 hrI h2;subst e1 e2
  have HCS:=Zh (show ∀ (I':Hp) (w':World) (L:List HP),St W I' w' (jnBlk q p J ⟨slice At J.r.tags.length ct,slice Ac J.r.cls.length cc,vl,va⟩::L)->(w'.cell? ⟨q,1,none⟩=some (int i64 J.r.shape.splay)∧w'.cell? ⟨q,2,none⟩=some (int i64 J.r.shape.sets)∧w'.cell? ⟨q,3,none⟩=some (int i64 J.r.shape.size)∧w'.cell? ⟨q,4,none⟩=some (int i64 J.r.first)∧w'.cell? ⟨q,5,none⟩=some (int i64 J.r.set)∧w'.cell? ⟨q,6,none⟩=some (slice At J.r.tags.length ct)∧w'.cell? ⟨q,7,none⟩=some (slice Ac J.r.cls.length cc)) from fun I' w' L h1=>by
   obtain ⟨a1,a2,a3⟩:=Zc0 h1
   exact ⟨a1,a2,a3,jn_c4 h1,jn_c5 h1,jn_c6 h1,jn_c7 h1⟩)
  have HE:=Zh (ZcW (H1.o.drew.pull 1 _ rfl) HB.o);obtain ⟨en,hen⟩:=Zn (endJ J);rw [<-hen] at HE HX2;have HEN:=Zh hen;have hen0:0<=en:=by
   rw [hen];unfold endJ;have:=HB.o.first;omega
  have HOK:=Zh (Zh0 HB.o.ok hen0);have HRI:=Zh hrI;obtain ⟨x1,x2,x3,x4,x5,x6,x7⟩:=HCS.o _ _ _ h2;have lq:=h2.lt;have H2:=Zh h2;clear hrI hen hen0 h2;refine Zay (fun w'=>w'.cell? ⟨q,1,none⟩=some (int i64 J.r.shape.splay)∧w'.cell? ⟨q,2,none⟩=some (int i64 J.r.shape.sets)∧w'.cell? ⟨q,3,none⟩=some (int i64 J.r.shape.size)∧w'.cell? ⟨q,4,none⟩=some (int i64 J.r.first)∧w'.cell? ⟨q,5,none⟩=some (int i64 J.r.set)∧w'.cell? ⟨q,6,none⟩=some (slice At J.r.tags.length ct)∧w'.cell? ⟨q,7,none⟩=some (slice Ac J.r.cls.length cc)) [0,1,2,3,4,5] [6,7] [8,9,10] (by kernel_rfl) (by kernel_rfl) (by (exact ⟨x1,x2,x3,x4,x5,x6,x7⟩)) ?_;simp only [pickL,Zg,Zi];repeat (refine ZM _ (Or.inl ⟨by rfl,by (intro w hSw;(try dsimp only at hSw);go_simp;try with_reducible rfl)⟩) ?_;(try go_frame))
  refine Z7 ?_;unfold Zr;clear x1 x2 x3 x4 x5 x6 x7 lq;go_wp2_with fail;refine HE.o.mono ?_;rintro e w2 ⟨rfl,hb2⟩;have h3:=H2.o.keep hb2;have h4:=ZoN J.r _ _ en h3 HRI.o (by have:=HB.o.ok.tags;have:=Ze6 this;omega) (by have:=HB.o.ok.cls;have:=Zdu this;omega);obtain ⟨R,hR⟩:=Zn (Zbg J.r en);rw [<-hR] at h4 HX2 HOK;have HRF:=Zh (show R.first=J.r.first∧R.shape=J.r.shape by rw [hR];exact ⟨rfl,rfl⟩);have HEND:=Zh h4;have X3:=Zh (HCS.o _ _ _ h3);clear h3 h4 hb2 HE H2 hR;go_wp2;refine Zm X3.o ?_;unfold Zr;go_wp2_with fail;simp only [Rc.cells] at HEND;refine HEND.o.mono ?_;rintro e w3 ⟨I3,vt3,vc3,s3,rfl,hI3,h5⟩;obtain ⟨At3,ct3,rfl,_⟩:=hI3.1;obtain ⟨Ac3,cc3,rfl,_⟩:=hI3.2;have X5:=Zh (HCS.o _ _ _ h5);have h6:=St.jn_shut (HRI.o.mono s3) h5;have fq:=fun i=>Zbx h5 i;have lq:=h5.lt;have h7:=h6.jn_rec (r:=R) hI3;have H7:=Zh h7;have S3:=Zh (S1'.o.trans s3);obtain ⟨x1,x2,x3,x4,x5,x6,x7⟩:=X5.o;clear h5 h6 h7 hI3 s3 HEND X3 HRI;go_wp2;refine Zm X5.o ?_;unfold Zr;go_wp2;refine Zw ?_;clear x1 x2 x3 x4 x5 x6 x7 fq lq X5;have h7:=H7.o;generalize (World.setCell _ _ _:World)=w7 at h7 |-;have hend:endJ (recJ J R)=en:=by rw [HEN.o];unfold endJ recJ;rw [HRF.o.1]
  have hB7:JB (recJ J R):=⟨HOK.o,HB.o.len,HB.o.lens,by show J.fill.okB R.shape=true;rw [HRF.o.2];exact HB.o.fill,HB.o.safe⟩;have HE7:=Zh (ZcW h7 hB7);rw [hend] at HE7;have HJS:=Zh (fun w1 (h:St W I3 w1 (jnHP q p (recJ J R)::Zj p S1::l))=>h.jn_safe en hend.symm);have HH7:=Zh h7;clear h7 H7;go_wp2_with fail;refine HE7.o.mono ?_;rintro e w8 ⟨rfl,hb8⟩;have h8:=HH7.o.keep hb8;obtain ⟨V8,_,h9⟩:=h8.jn_open;have x15:=ZgC h9;have fq:=Zbx h9;have lq:=h9.lt;have h10:=HJS.o _ h8;have H10:=Zh h10;clear h8 h9 h10 hb8 HE7 HH7;go_wp2_with fail;have h10:=H10.o;generalize (World.setCell _ _ _:World)=w10 at h10 |-;clear x15 fq lq H10;go_upto_region 6 with fail;have HX3:=Zh (show mendJ S J=((saveJ S1 R).1,(saveJ S1 R).2,endsJ (safeJ (recJ J R)) (saveJ S1 R).1) by rw [HX2.o,ZpQ J R en HRF.o.1 HEN.o]);obtain ⟨vt,vc,hrI,hcs,lq,fq⟩:=(h10.drew).jn_rcells;have hrI:recI I3 R vt vc:=hrI;obtain ⟨At,ct,rfl,_⟩:=hrI.1;obtain ⟨Ac,cc,rfl,_⟩:=hrI.2;simp only [safeJ,recJ] at hcs;obtain ⟨x0,x1,x2,x3,x4,x5,x6,x7⟩:=hcs;have hsv:=Zhz R _ _ o (h10.drew.pull 1 _ rfl) HKT.o HOK.o hrI (HJ.o (by first|rfl|trivial));simp only [Rc.cells] at hsv;obtain ⟨⟨b,S9⟩,hb9⟩:∃ x,x=saveJ S1 R:=⟨_,rfl⟩;rw [<-hb9] at hsv HX3;have HSV:=Zh hsv;clear hsv hrI fq HX HX2 hb9 h10;refine ZaM [0,1,2,3,5,6,7] [4,8] [9,10,11] (by kernel_rfl) (by kernel_rfl) ?_;simp only [pickL,Zg,Zi];repeat (refine ZaE _ (Or.inl ⟨by rfl,by intro w;go_simp;try with_reducible rfl⟩) ?_;(try go_frame))
  refine ZaF ?_;repeat still_step
  refine ZaQ ?_;clear x0 x1 x2 x3 x4 x5 x6 x7 lq;go_wp2_with fail;refine HSV.o.mono ?_;rintro e w11 ⟨I11,s11,rfl,h11⟩;have HE:=Zh (Zdd b (h11.pull 1 _ rfl));have S11:=Zh (S3.o.trans s11);clear h11 s11 HSV;go_wp2_with fail;refine HE.o.mono ?_;rintro e w12 ⟨rfl,h12⟩;have H12:=Zh (h12.pull 1 _ rfl);clear h12;go_wp2;refine Zw ?_;go_wp2;go_ret;rw [HX3.o];exact ⟨I11,S11.o,rfl,H12.o⟩
 ·have HX2:=Zh (HX.o.trans (Zb ha));have hne:(a != 0)=true:=by simpa using ha
  have HE:=Zh (Zdd a (h1.pull 1 _ rfl));clear h1 s1;go_wp2_with fail;refine HE.o.mono ?_;rintro e w4 ⟨rfl,h4⟩;have H4:=Zh (h4.pull 1 _ rfl);clear h4;go_wp2;go_ret;rw [HX2.o];exact ⟨I1,S1'.o,rfl,H4.o⟩
end
end Go.Proofs.YtpjchngjhijgmaaGreat
