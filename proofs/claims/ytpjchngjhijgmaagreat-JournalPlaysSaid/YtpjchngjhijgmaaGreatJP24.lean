import Derived.Test.YtpjchngjhijgmaaGreatJP23
set_option linter.all false
set_option maxRecDepth 4000
set_option maxHeartbeats 8000000
open Go.RowKit
open Go.IntKind (i64 u64)
open Go.Value (int pointer slice)
open Go.Obj (cells)
namespace Go.Proofs.YtpjchngjhijgmaaGreat
open Tryz
open HP (pt mapOf)
variable {W w w':World} {I:Hp} {l:List HP}
def ZeQ (S:Str) (J:Jn) (pos most:Int):Int :=
 if mayJ S J≠0 then mayJ S J else if pos<0∨endJ J<pos∨most<0 then 3 else if pos<J.r.first - 1 then 11 else 0
def readL (J:Jn) (pos most:Int):List En:=(J.l.drop (pos - J.r.first+1).toNat).take most.toNat
def readJ (S:Str) (J:Jn) (pos most:Int):List En × Int:=(if ZeQ S J pos most=0 then readL J pos most else [],ZeQ S J pos most)
section
variable {p q : Nat} {J : Jn} {S : Str}
set_option maxRecDepth 8000
theorem ZlF (pos most:Int) (h:St W I w (Zj p S::jnHP q p J::l)) (hB:JB J) (hE:∀ e ∈ J.l,e.okB=true) :
  Calls prog 28 #[pointer (some ⟨q,0,none⟩),int i64 pos,int i64 most] w fun e w'=>∃ I' v,I.sub I'∧e=.returned (.tuple #[v,int i64 (readJ S J pos most).2])∧St W I' w' (Zo v (readJ S J pos most).1::Zj p S::jnHP q p (mayJ2 S J)::l):=by
 have HM:=Zh (ZdA h);have HSM:=Zh (@Zcw S J);obtain ⟨⟨es,why⟩,hR⟩:∃ x,x=readJ S J pos most:=⟨_,rfl⟩;rw [<-hR];unfold readJ ZeQ at hR;obtain ⟨e0,he0⟩:=Zn (mayJ S J);rw [<-he0] at HM HSM hR;simp only [Zv] at hR;obtain ⟨hes,hwhy⟩:=hR;rw [<-hwhy] at hes;have HES:=Zh hes;have HWHY:=Zh hwhy;have HB:=Zh hB;have HEE:=Zh hE;clear h hB he0 hes hwhy hE;by_cases h0:e0=0
 ·subst h0;have HW2:=Zh (HWHY.o.trans (Za (by simp)));have hsame:=HSM.o rfl;rw [hsame] at HM |-;have HE:=Zh (fun w1 L (h:St W I w1 (jnHP q p J::L))=>ZcW h HB.o);obtain ⟨en,hen⟩:=Zn (endJ J);rw [<-hen] at HE HW2;have HEN:=Zh hen;obtain ⟨fi,hfi⟩:=Zn J.r.first;rw [<-hfi] at HW2;have HFI:=Zh hfi;have hfr:=HB.o.first;rw [<-hfi] at hfr;have w1:IntKind.i64.wrap (fi - 1)=fi - 1:=by rw [Zx];omega
  clear HSM hsame hen hfi;go_enter func28,ntmps28;go_wp2_with fail;refine HM.o.mono ?_;rintro e w2 ⟨rfl,h2⟩;have H2:=Zh h2;clear h2 HM;by_cases hp0:pos<0
  ·have e1:=HW2.o.trans (Zb (.inl hp0));subst e1;have e2:=HES.o.trans (Za (by decide));subst e2;go_wp2;go_ret2;exact ⟨I,_,Hp.sub.refl _,rfl,H2.o.ents_nil⟩
  ·go_wp2_with fail;refine (HE.o _ _ (H2.o.pull 1 _ rfl)).mono ?_;rintro e w3 ⟨rfl,hb3⟩;have H3:=Zh (H2.o.keep hb3);clear hb3 H2;by_cases hpe:en<pos
   ·have e1:=HW2.o.trans (Zb (.inr (.inl hpe)));subst e1;have e2:=HES.o.trans (Za (by decide));subst e2;go_wp2;go_ret2;exact ⟨I,_,Hp.sub.refl _,rfl,H3.o.ents_nil⟩
   ·have hpm:pos<=4611686018427387904:=by
     have:=HB.o.len;have h9:=HEN.o;unfold endJ at h9;rw [<-HFI.o] at h9;omega
    by_cases hm0:most<0
    ·have e1:=HW2.o.trans (Zb (.inr (.inr hm0)));subst e1;have e2:=HES.o.trans (Za (by decide));subst e2;go_wp2;go_ret2;exact ⟨I,_,Hp.sub.refl _,rfl,H3.o.ents_nil⟩
    ·have HW3:=Zh (HW2.o.trans (Za (by omega)));obtain ⟨⟨vt,vc,vl,va⟩,hrI,h4⟩:=(H3.o.pull 1 _ rfl).jn_open;obtain ⟨Al,cl,e1,hncl,_,hnil⟩:=(h4.pull 1 _ rfl).ents_slice;simp only at e1 hrI h4;subst e1;have k4:=jn_c4 h4;rw [<-HFI.o] at k4;have k8:=jn_c8 h4;simp only at k8;have lq:=h4.lt;have HRI:=Zh hrI;have H4:=Zh h4;clear hrI h4 H3;by_cases hpf:pos<fi - 1
     ·have e1:=HW3.o.trans (Zb hpf);subst e1;have e2:=HES.o.trans (Za (by decide));subst e2;have h5:=St.jn_shut (J:=J) (V:=⟨vt,vc,slice Al J.l.length cl,va⟩) HRI.o H4.o;have H5:=Zh (h5.pull 1 _ rfl);clear h5 H4;go_wp2;go_ret2;exact ⟨I,_,Hp.sub.refl _,rfl,H5.o.ents_nil⟩
     ·have e1:=HW3.o.trans (Za hpf);subst e1;have e2:=HES.o.trans (Zb rfl);have HES2:=Zh e2;obtain ⟨n,hnn⟩:=Zn J.l.length;have HNN:=Zh hnn;obtain ⟨k,hk⟩:∃ k:Nat,(k:Int)=pos - fi+1:=⟨(pos - fi+1).toNat,by omega⟩;have hkn:k<=n:=by
       have:=HEN.o;unfold endJ at this;rw [<-HFI.o,<-hnn] at this;omega
      rw [<-hnn] at k8 H4 hncl;have w2:IntKind.i64.wrap (pos - fi)=pos - fi:=by rw [Zx];omega
      have w3:IntKind.i64.wrap (pos - fi+1)=(k:Int):=by rw [Zx];omega
      clear e2 hnn;go_upto_region 9 with fail;go_quiet (fail);have hkt:(pos - fi+1).toNat=k:=by omega
      rw [hkt];obtain ⟨A9,hA9⟩:=Zn ((if cl=k then Al else Option.map (fun x=>x.add (k*3)) Al));rw [<-hA9]
      have HA9:=Zh (show ∀ g qq,Al=some ⟨g,qq,none⟩->cl≠k->A9=some ⟨g,qq+k*3,none⟩ from fun g qq e hc=>by
       rw [hA9,Za hc,e,Zct,add_plain])
      obtain ⟨n2,hn2⟩:=Zn (n - k);obtain ⟨c2,hc2⟩:=Zn (cl - k);rw [<-hn2,<-hc2];have hnc2:n2<=c2:=by omega
      obtain ⟨t,ht⟩:∃ t:Nat,(t:Int)=min most (n2:Int):=⟨(min most (n2:Int)).toNat,by omega⟩;have htn:t<=n2:=by omega
      have hmin:=ht.symm
      have HLST:=Zh (show es=((J.l.drop k).take t) by
       rw [HES2.o];unfold readL;rw [<-HFI.o,hkt];have hdl:(J.l.drop k).length=n2:=by rw [ZW,<-HNN.o];omega
       by_cases hle:most<=(n2:Int)
       ·rw [show most.toNat=t by omega]
       ·rw [Zba (by omega),Zba (by omega)])
      have H5:=Zh ((H4.o.drewN nq).ents_nil);have HLE:=Zh (show k+t<=n∧n<=cl by omega);clear hA9 hkt ht w2 w3 hk hncl hnil H4 k4 k8 lq HES2 HES HWHY HW2 HW3 HE HEN hn2 hc2;go_wp2;go_loopw [9,60] (fun a9 a60 wr=>∃ (i:Nat) (I':Hp) (A8:Option Addr) (c8:Nat),a60=int i64 i∧a9=slice A8 i c8∧i<=t∧I.sub I'∧St W I' wr (Zo (slice A8 i c8) ((J.l.drop k).take i)::jnBlk q p J ⟨vt,vc,slice Al n cl,va⟩::Zo (slice Al n cl) J.l::ZY va J.at_::Zj p S::l)) (fun _ a60 _=>t - (intOf a60).toNat);case atStart=>exact ⟨0,I,none,0,rfl,rfl,ZL _,Hp.sub.refl _,H5.o⟩
      case round =>
       obtain ⟨i,I',A8,c8,rfl,rfl,hi,hsub,hst⟩:=hrel;have hle:=HLE.o;have hn5:=HB.o.len;rw [<-HNN.o] at hn5;clear H5;by_cases hlt:i<t
       ·have hlt2:(i:Int)<(t:Int):=by omega
        have hkl:k+i<J.l.length:=by rw [<-HNN.o];omega
        obtain ⟨e,he⟩:∃ e,J.l[k+i]?=some e:=⟨_,Zy hkl⟩;obtain ⟨g,qq,c3,vd,e2,hg,hbd,hbb,y0,y1,y2⟩:=(hst.pull 2 _ rfl).ents_cell he;rw [<-HNN.o] at e2;simp only [Zz] at e2;obtain ⟨rfl,hnn,rfl⟩:=e2;clear hnn;obtain rfl:=HA9.o g qq rfl (by omega);have ha1:qq+(k+i)*3=qq+k*3+i*3:=by omega
        rw [ha1] at y0 y1 y2;obtain ⟨Ad,cd,rfl⟩:=hbd.isSl;have htk:(J.l.drop k).take (i+1)=(J.l.drop k).take i++[e]:=by
         rw [Zb9,Zbw,he];rfl
        have hil:((J.l.drop k).take i).length=i:=by rw [ZJ,ZW];omega
        have h5:=hst.alloc (cells #[int i64 e.tag,int i64 e.seq,slice Ad e.data.length cd] 50);have hcl:=fun w1 (L:List HP) (h1:St W I' w1 L)=>Zbk (slice Ad e.data.length cd) e.data.length (e.data.map byteV) w1 (ZaW h1 hbd);have HTK:=Zh htk;have HIL:=Zh hil;have HBB:=Zh hbb;have HSUB:=Zh hsub;have HCL:=Zh hcl;have hok:=HEE.o e (ZaG he);obtain ⟨tg,sq,d⟩:=e;simp only at y0 y1 y2 h5 HBB HCL;obtain ⟨dl,hdl⟩:=Zn d.length;have hdl9:dl<=1000000:=by have:=(En.okB_iff.1 hok).2.2;simp only at this;omega
        have HDL:=Zh hdl;rw [<-hdl] at y2 h5 HCL;obtain ⟨g12,hg12⟩:=Zn wr.heap.size;rw [<-hg12] at h5;have H5:=Zh h5;clear hst h5 htk hil hbb hsub hcl he hbd hdl ha1 hkl hok;go_upto_region 13 with fail;rw [<-hg12];have h5:=H5.o;generalize (World.alloc _ _:World)=w5 at h5 |-;clear y0 y1 y2 hg H5 hg12;obtain ⟨z0,z1,z2⟩:=Zak h5;have lg:=h5.lt;have fg:=frozen_of_row h5.heap;have HC2:=Zh (HCL.o w5 _ h5 hdl9);have H5:=Zh h5;clear h5 HCL;go_wp2_with fail;refine HC2.o.mono ?_;rintro e w6 ⟨v6,rfl,ho6,hb6⟩;obtain ⟨A6,c6,rfl⟩:=ZA ho6;rw [HDL.o] at ho6;obtain ⟨I6,s6,hB6,h6⟩:=ZbU H5.o hb6 ho6;rw [<-HDL.o] at hB6;clear z0 z1 z2 lg fg ho6 hb6 H5 HC2;obtain ⟨z0,z1,z2⟩:=Zak h6;have lg:=h6.lt;have fg:=frozen_of_row h6.heap;have h7:=(h6.set3 (int i64 tg) (int i64 sq) (slice A6 dl c6));have h7:St W I6 (w6.setCell ⟨g12,2,none⟩ (slice A6 dl c6)) (pt g12 (cells #[int i64 tg,int i64 sq,slice A6 dl c6] 50)::Zo (slice A8 i c8) ((J.l.drop k).take i)::jnBlk q p J ⟨vt,vc,slice (some ⟨g,qq,none⟩) n cl,va⟩::Zo (slice (some ⟨g,qq,none⟩) n cl) J.l::ZY va J.at_::Zj p S::l):=by
         have:=h6.setCell 2 (slice A6 dl c6);simp only [Zf,Zd,Ze] at this;exact this
        obtain ⟨A9,c9,w9,hr9,h9⟩:=St.ents_append (e:=⟨tg,sq,d⟩) (g:=(w6.setCell ⟨g12,2,none⟩ (slice A6 dl c6)).heap.size) rfl (h7.pull 1 _ rfl) (vd:=slice A6 dl c6) hB6 HBB.o (by rw [HIL.o];have:=HB.o.len;rw [<-HNN.o] at this;omega);rw [HIL.o] at hr9 h9;rw [<-HTK.o] at h9;rw [World.size_setCell] at hr9;have H9:=Zh ((h9.pull 1 _ rfl).drop);have HR9:=Zh hr9;have S6:=Zh (HSUB.o.trans s6);clear h6 h9 hr9 s6 hB6 HTK HIL HBB;go_wp2_with (at_builtin;refine ZZ _ rfl (.tmp 68) (.tmp 70) 58 58 rfl _ _ rfl rfl _ _ HR9.o ?_);go_roundw;case rel=>exact ⟨i+1,I6,A9,c9,by go_num,rfl,by omega,S6.o,H9.o⟩
        case measure=>simp [intOf]<;>omega
       ·obtain rfl:i=t:=by omega
        have hlt2:¬ (i:Int)<(i:Int):=by omega
        rw [<-HLST.o] at hst;have h5:=St.jn_shut (J:=J) (V:=⟨vt,vc,slice Al n cl,va⟩) (HRI.o.mono hsub) (hst.perm (by ((try simp only [ZE,ZF,ZG,Zu]);repeat (first|with_reducible exact ZK _|(apply ZP;(· repeat (first|with_reducible exact ZO|with_reducible apply ZN)))))):St W I' wr (jnBlk q p J ⟨vt,vc,slice Al n cl,va⟩::Zo (slice Al n cl) J.l::ZY va J.at_::Zo (slice A8 i c8) es::Zj p S::l));have H5:=Zh h5;have HSUB:=Zh hsub;clear hst h5 hsub;go_wp2;go_ret2;have h6:St W I' wr (Zo (slice A8 i c8) es::Zj p S::jnHP q p J::l):=H5.o.perm (by ((try simp only [ZE,ZF,ZG,Zu]);repeat (first|with_reducible exact ZK _|(apply ZP;(· repeat (first|with_reducible exact ZO|with_reducible apply ZN))))));first|exact ⟨I',_,HSUB.o,rfl,h6⟩|exact ⟨I',HSUB.o,_,rfl,h6⟩|fail
 ·have e1:=HWHY.o.trans (Zb h0);subst e1;have hes:=HES.o.trans (Za h0);subst hes;have hne:(why != 0)=true:=by simpa using h0
  go_enter func28,ntmps28;go_wp2_with fail;refine HM.o.mono ?_;rintro e w2 ⟨rfl,h2⟩;have H2:=Zh h2;clear h2;go_wp2;go_ret2;exact ⟨I,_,Hp.sub.refl _,rfl,H2.o.ents_nil⟩
theorem ZpU (pos most:Int) (h:St W I w (Zj p S::jnHP q p J::l)) (hB:JB J) (_:pos<=4611686018427387904) (hE:∀ e ∈ J.l,e.okB=true) :
  Calls prog 28 #[pointer (some ⟨q,0,none⟩),int i64 pos,int i64 most] w fun e w'=>∃ I' v,I.sub I'∧e=.returned (.tuple #[v,int i64 (readJ S J pos most).2])∧St W I' w' (Zo v (readJ S J pos most).1::Zj p S::jnHP q p (mayJ2 S J)::l):=ZlF pos most h hB hE
end
section
variable {p q : Nat} {J : Jn} {S : Str}
set_option maxRecDepth 8000
theorem Zre (e0:Int) (o:Option Rc) {m:Nat} (h:St W I w (Zj p S::jnHP q p J::l)) (hk:Keeps S (m+2+4*(Zau S ⟨2,0⟩).length)) (hn:(Zp S ⟨2,0⟩).length<=1000000) (hb:SeenB S) (hB:JB J) (hE:∀ e ∈ J.l,e.okB=true) (hs:J.r.set<=1000000)
  (hj:(trimJ S (layJ (lJ J (J.l.take (e0 - J.r.first+1).toNat) J.at_ J.fill))).1=0->JRec (trimJ S (layJ (lJ J (J.l.take (e0 - J.r.first+1).toNat) J.at_ J.fill))).2 o) :
  Calls prog 110 #[pointer (some ⟨q,0,none⟩),int i64 e0] w fun e w'=>∃ I',I.sub I'∧e=.returned (int i64 (cutJ S J e0).1)∧St W I' w' (Zj p (cutJ S J e0).2.1::jnHP q p (cutJ S J e0).2.2::l):=by
 have HM:=Zh (ZdA h);have HSM:=Zh (@Zcw S J);obtain ⟨⟨why,RS,RJ⟩,hR⟩:∃ x,x=cutJ S J e0:=⟨_,rfl⟩;rw [<-hR];unfold cutJ at hR;obtain ⟨my,hmy⟩:=Zn (mayJ S J);rw [<-hmy] at HM HSM hR;have HX:=Zh hR;have HB:=Zh hB;have HK:=Zh hk;have HN:=Zh hn;have HSB:=Zh hb;have HEE:=Zh hE;have HS:=Zh hs;have HJ:=Zh hj;clear h hB hmy hR hk hn hb hE hs hj;by_cases h0:my=0
 ·subst h0;have HX2:=Zh (HX.o.trans (Za (by simp)));have hsame:=HSM.o rfl;rw [hsame] at HM;have HE:=Zh (fun w1 L (h:St W I w1 (jnHP q p J::L))=>ZcW h HB.o);obtain ⟨en,hen⟩:=Zn (endJ J);rw [<-hen] at HE HX2;have HEN:=Zh hen;obtain ⟨fi,hfi⟩:=Zn J.r.first;rw [<-hfi] at HX2 HJ;have HFI:=Zh hfi;have hfr:=HB.o.first;rw [<-hfi] at hfr;have w1:IntKind.i64.wrap (fi - 1)=fi - 1:=by rw [Zx];omega
  clear HSM HX hsame hen hfi;go_enter func110,ntmps110;go_wp2_with fail;refine HM.o.mono ?_;rintro e w2 ⟨rfl,h2⟩;obtain ⟨⟨vt,vc,vl,va⟩,hrI,h4⟩:=(h2.pull 1 _ rfl).jn_open;obtain ⟨Al,cl,e1,hncl,_,hnil⟩:=(h4.pull 1 _ rfl).ents_slice;simp only at e1 hrI h4;subst e1;have k4:=jn_c4 h4;rw [<-HFI.o] at k4;have lq:=h4.lt;have HRI:=Zh hrI;have H2:=Zh h2;have H4:=Zh h4;clear h2 HM hrI h4;by_cases hp0:e0<fi - 1
  ·have e1:=HX2.o.trans (Zb (.inl hp0));simp only [Zv] at e1;obtain ⟨rfl,rfl,rfl⟩:=e1;go_wp2;go_ret;exact ⟨I,Hp.sub.refl _,rfl,H2.o⟩
  ·have HX3:=Zh (show (why,RS,RJ)=if en<e0 then (3,S,J) else mendJ S (layJ (lJ J (J.l.take (e0 - fi+1).toNat) J.at_ J.fill)) by
    rw [HX2.o];by_cases hpe:en<e0
    ·rw [Zb (.inr hpe),Zb hpe]
    ·rw [Za (by omega),Za hpe])
   go_wp2_with fail;refine (HE.o _ _ (H2.o.pull 1 _ rfl)).mono ?_;rintro e w3 ⟨rfl,hb3⟩;have H3:=Zh (H2.o.keep hb3);have h5:=H4.o.keep hb3;have k4:=jn_c4 h5;rw [<-HFI.o] at k4;have k8:=jn_c8 h5;have fq:=Zbx h5 8;have lq:=h5.lt;simp only at k8;have H5:=Zh h5;clear hb3 H2 H4 HX2 h5;by_cases hpe:en<e0
   ·have e1:=HX3.o.trans (Zb hpe);simp only [Zv] at e1;obtain ⟨rfl,rfl,rfl⟩:=e1;go_wp2;go_ret;exact ⟨I,Hp.sub.refl _,rfl,H3.o⟩
   ·have HX4:=Zh (HX3.o.trans (Za hpe));obtain ⟨n,hnn⟩:=Zn J.l.length;have HNN:=Zh hnn;obtain ⟨k,hk⟩:∃ k:Nat,(k:Int)=e0 - fi+1:=⟨(e0 - fi+1).toNat,by omega⟩;have hkn:k<=n:=by
     have:=HEN.o;unfold endJ at this;rw [<-HFI.o,<-hnn] at this;omega
    rw [<-hnn] at k8 H5 hncl;have hkt:(e0 - fi+1).toNat=k:=by omega
    rw [hkt] at HX4 HJ;have hbd:e0 - fi+1<=1000000∧0<=e0 - fi+1:=by
     have:=HB.o.len;have h9:=HEN.o;unfold endJ at h9;rw [<-HFI.o] at h9;omega
    have w2:IntKind.i64.wrap (e0 - fi)=e0 - fi:=by rw [Zx];omega
    have w3:IntKind.i64.wrap (e0 - fi+1)=(k:Int):=by rw [Zx];omega
    have hkc:k<=cl:=by omega
    have htl:(J.l.take k).length=k:=by rw [ZJ,<-HNN.o];omega
    have h6:=(((H5.o.drew.jb_l (slice Al k cl)).pull 1 _ rfl).ents_take (k:=k) (by rw [<-HNN.o];exact hkn)).pull 1 _ rfl;have h7:=St.jn_shut (J:=lJ J (J.l.take k) J.at_ J.fill) (V:=⟨vt,vc,slice Al k cl,va⟩) HRI.o h6;have hlay:=ZhZ h7 HB.o.ok (by show (J.l.take k).length<=100000;have:=HB.o.len;rw [htl];omega);have HLAY:=Zh hlay;have HJB:=Zh (ZmH (J:=lJ J (J.l.take k) J.at_ J.fill) HB.o.ok HS.o (by show (J.l.take k).length<=100000;have:=HB.o.len;rw [htl];omega) HB.o.safe);have HEOK:=Zh (show ∀ e ∈ (layJ (lJ J (J.l.take k) J.at_ J.fill)).l,e.okB=true from fun e he=>HEE.o e (ZbI (Zh1 _ _ e he)));clear hk hkt hbd htl h6 h7 hlay H3 H5 hnn;go_upto_region 6 with fail;refine Zay (fun w'=>w'.cell? ⟨q,8,none⟩=some (slice Al n cl)∧w'.cell? ⟨q,4,none⟩=some (int i64 fi)) [0,1,2,3,4,5,6,7,8,9,10,11,12,13,14,15] [] [16] (by kernel_rfl) (by kernel_rfl) (by (exact ⟨k8,k4⟩)) ?_;simp only [pickL,Zg,Zi];repeat (refine ZM _ (Or.inl ⟨by rfl,by (intro w hSw;(try dsimp only at hSw);go_simp;try with_reducible rfl)⟩) ?_;(try go_frame))
    refine Z7 ?_;unfold Zr;go_wp2;refine Zw ?_;clear k8 k4 fq lq;go_wp2_with fail;refine HLAY.o.mono ?_;rintro e w6 ⟨rfl,h8⟩;have hmd:=ZhC o (h8.pull 1 _ rfl) HK.o HN.o HSB.o HJB.o HEOK.o HJ.o;have hx4:=HX4.o;obtain ⟨⟨why',S9,J9⟩,hm9⟩:∃ x,x=mendJ S (layJ (lJ J (J.l.take k) J.at_ J.fill)):=⟨_,rfl⟩;rw [<-hm9] at hmd hx4;simp only [Zv] at hx4;obtain ⟨rfl,rfl,rfl⟩:=hx4;have HMD:=Zh hmd;clear hmd hm9 h8 HLAY;go_wp2_with fail;refine HMD.o.mono ?_;rintro e w7 ⟨I7,s7,rfl,h9⟩;have H9:=Zh h9;have S7:=Zh s7;clear h9 s7 HMD;go_wp2;go_ret;exact ⟨I7,S7.o,rfl,H9.o⟩
 ·have e1:=HX.o.trans (Zb h0);simp only [Zv] at e1;obtain ⟨rfl,rfl,rfl⟩:=e1;have hne:(why != 0)=true:=by simpa using h0
  go_enter func110,ntmps110;go_wp2_with fail;refine HM.o.mono ?_;rintro e w2 ⟨rfl,h2⟩;have H2:=Zh h2;clear h2;go_wp2;go_ret;exact ⟨I,Hp.sub.refl _,rfl,H2.o⟩
end
def ZcS (J:Jn) (ts:List Tag):Bool:=J.l.all fun e=>decide (tagOf ts e.seq=e.tag)
def tagsR (r:Rc) (ts:List Tag):Rc:=⟨r.shape,r.first,r.set,ts,r.cls⟩
def leadJ (S:Str) (J:Jn) (ts:List Tag):Int × Str × Jn :=
 if mayJ S J≠0 then (mayJ S J,S,mayJ2 S J) else if Z3 ts=false then (1,S,J) else if ZcS J ts=false then (1,S,J) else keepJ S J (tagsR J.r ts)
section
variable {p q : Nat} {J : Jn} {S : Str}
set_option maxRecDepth 8000
theorem ZpV (At:Option Addr) (ct:Nat) (ts:List Tag) (o:Option Rc) {m:Nat} (h:St W I w (Zj p S::jnHP q p J::l)) (hk:Keeps S (m+2)) (hB:JB J) (ht:RowI I 4 (slice At ts.length ct) ts.length (flat ts)) (htn:ts.length<=1000000) (hj:JRec S o) :
  Calls prog 41 #[pointer (some ⟨q,0,none⟩),slice At ts.length ct] w fun e w'=>∃ I',I.sub I'∧e=.returned (int i64 (leadJ S J ts).1)∧St W I' w' (Zj p (leadJ S J ts).2.1::jnHP q p (leadJ S J ts).2.2::l):=by
 have HM:=Zh (ZdA h);have HSM:=Zh (@Zcw S J);have hnc:ts.length<=ct:=by
  obtain ⟨A,c,e,_,h3,_⟩:=ht;simp only [Zz] at e;omega
 obtain ⟨⟨why,RS,RJ⟩,hR⟩:∃ x,x=leadJ S J ts:=⟨_,rfl⟩;rw [<-hR];unfold leadJ at hR;obtain ⟨my,hmy⟩:=Zn (mayJ S J);rw [<-hmy] at HM HSM hR;have HX:=Zh hR;have HB:=Zh hB;have HK:=Zh hk;have HJ:=Zh hj;have HT:=Zh ht;obtain ⟨n,hnn⟩:=Zn ts.length
 have HTA:=Zh (show ∀ w' (I':Hp) L,I.sub I'->St W I' w' L->TagsAt w' At n ts from fun w' I' L hs h1=>by
  obtain ⟨A,c,e,_,h9⟩:=ZbM h1 (ht.mono hs);simp only [Zz] at e;obtain ⟨rfl,_,_⟩:=e;rw [hnn]
  exact h9)
 rw [<-hnn] at htn hnc |-;have HNN:=Zh hnn;clear h hB hmy hR hk hj ht hnn;by_cases h0:my=0
 ·subst h0;have HX2:=Zh (HX.o.trans (Za (by simp)));have hsame:=HSM.o rfl;rw [hsame] at HM;clear HSM HX hsame;have HRT:=Zh (fun w1 L (h1:St W I w1 L)=>ZhP At n ct ts w1 (HTA.o w1 I L (Hp.sub.refl _) h1) htn hnc);obtain ⟨rb,hrb⟩:=Zn (Z3 ts);rw [<-hrb] at HRT HX2;have HRB:=Zh hrb;clear hrb;go_enter func41,ntmps41;go_wp2_with fail;refine HM.o.mono ?_;rintro e w2 ⟨rfl,h2⟩;have H2:=Zh h2;clear h2 HM;go_wp2_with fail;refine (HRT.o _ _ H2.o).mono ?_;rintro e w3 ⟨rfl,hb3⟩;have H3:=Zh (H2.o.keep hb3);clear hb3 H2 HRT;cases rb with
  | false =>
   have e1:=HX2.o.trans (Zb rfl);simp only [Zv] at e1;obtain ⟨rfl,rfl,rfl⟩:=e1;go_wp2;go_ret;exact ⟨I,Hp.sub.refl _,rfl,H3.o⟩
  | true =>
   have HX3:=Zh (HX2.o.trans (Za (by simp)));obtain ⟨⟨vt,vc,vl,va⟩,hrI,h4⟩:=(H3.o.pull 1 _ rfl).jn_open;obtain ⟨Al,cl,e1,hncl,_,hnil⟩:=(h4.pull 1 _ rfl).ents_slice;simp only at e1 hrI h4;subst e1;have k8:=jn_c8 h4;simp only at k8;have lq:=h4.lt;obtain ⟨nl,hnl⟩:=Zn J.l.length;have HNL:=Zh hnl;rw [<-hnl] at k8 h4;have HRI:=Zh hrI;have H4:=Zh h4;have hn5:nl<=100000:=by rw [hnl];exact HB.o.len
   clear h4 hrI H3 hncl hnil hnl HX2;go_wp2;go_loopw [22] (fun a22 wr=>∃ i:Nat,a22=int i64 i∧i<=nl∧(∀ e ∈ J.l.take i,tagOf ts e.seq=e.tag)∧St W I wr (jnBlk q p J ⟨vt,vc,slice Al nl cl,va⟩::Zo (slice Al nl cl) J.l::ZY va J.at_::Zj p S::l)) (fun a22 _=>nl - (intOf a22).toNat);case atStart=>exact ⟨0,rfl,ZL _,fun e he=>by simp at he,H4.o⟩
   case round =>
    obtain ⟨i,rfl,hi,hall,hst⟩:=hrel;clear H4 k8 lq;by_cases hlt:i<nl
    ·have hlt2:(i:Int)<(nl:Int):=by omega
     obtain ⟨e,he⟩:∃ e,J.l[i]?=some e:=⟨_,Zy (by rw [<-HNL.o];exact hlt)⟩;obtain ⟨g,qq,c3,vd,e2,hg,hbd,hbb,y0,y1,y2⟩:=(hst.pull 1 _ rfl).ents_cell he;rw [<-HNL.o] at e2;simp only [Zz] at e2;obtain ⟨rfl,hnn,rfl⟩:=e2;clear hnn;obtain ⟨Ad,cd,rfl⟩:=hbd.isSl;have h5:=hst.alloc (cells #[int i64 e.tag,int i64 e.seq,slice Ad e.data.length cd] 50);have HALL:=Zh hall;have HE:=Zh he;obtain ⟨tg,sq,d⟩:=e;simp only at y0 y1 y2 h5;obtain ⟨tv,htv⟩:=Zn (tagOf ts sq);have HTV:=Zh htv;obtain ⟨g7,hg7⟩:=Zn wr.heap.size;rw [<-hg7] at h5;have H5:=Zh h5;clear hst h5 hall he hbd hbb htv;go_upto_region 9 with fail;rw [<-hg7];have h5:=H5.o;generalize (World.alloc _ _:World)=w5 at h5 |-;clear y0 y1 y2 hg H5 hg7
     have HMK:=Zh (show ∀ w' L,St W I w' (pt g7 (cells #[int i64 tg,int i64 sq,slice Ad d.length cd] 50)::L)->(w'.cell? ⟨g7,0,none⟩=some (int i64 tg)∧w'.cell? ⟨g7,1,none⟩=some (int i64 sq)) from fun w' L h1=>by
      obtain ⟨a0,a1,a2⟩:=Zak h1
      exact ⟨a0,a1⟩)
     have H5:=Zh h5;clear h5;refine Zca (fun w'=>St W I w' (pt g7 (cells #[int i64 tg,int i64 sq,slice Ad d.length cd] 50)::jnBlk q p J ⟨vt,vc,slice (some ⟨g,qq,none⟩) nl cl,va⟩::Zo (slice (some ⟨g,qq,none⟩) nl cl) J.l::ZY va J.at_::Zj p S::l)∧w'.cell? ⟨g7,0,none⟩=some (int i64 tg)∧w'.cell? ⟨g7,1,none⟩=some (int i64 sq)) [(0,false),(1,false),(2,false),(3,false),(4,false),(5,false),(6,false)] [] [] (by kernel_rfl) (by kernel_rfl) (by (intro w' hb;exact ⟨H5.o.drew.keep hb,HMK.o _ _ (H5.o.drew.keep hb)⟩)) ?_;repeat (first|refine ZaH (by rfl) _ (by rfl) (by intro w;go_simp;try with_reducible rfl) ?_|refine ZaK (by rfl) _ (by rfl) (by (intro w hSw;(try dsimp only at hSw);go_simp;try with_reducible rfl)) ?_|refine ZaI (by rfl) (by rfl) ?_|fail);(try go_frame)
     refine Zb2 (by rfl) (int i64 tv) (67) (#[slice At n ct,int i64 sq]) (by rfl) (by intro w;go_simp;try with_reducible rfl) (by (rintro w1 ⟨hS,_⟩;rw [HTV.o];exact (Zio At n ct ts sq w1 (HTA.o _ I _ (Hp.sub.refl _) hS) htn).mono (by rintro e w' ⟨h1,rfl⟩;exact ⟨h1,ZI _ _⟩))) ?_
     (try go_frame)
     repeat (first|refine ZaH (by rfl) _ (by rfl) (by intro w;go_simp;try with_reducible rfl) ?_|refine ZaK (by rfl) _ (by rfl) (by (intro w hSw;(try dsimp only at hSw);go_simp;try with_reducible rfl)) ?_|refine ZaI (by rfl) (by rfl) ?_|fail);(try go_frame)
     refine Zce ?_;refine ZdD ?_;rintro w6 hz6;have h6:=(H5.o.drew.keep hz6.below).drop;have H6:=Zh h6;clear h6 hz6 H5 HMK;by_cases htq:tv=tg
     ·have hall2:∀ e ∈ J.l.take (i+1),tagOf ts e.seq=e.tag:=by
       rw [Zb9,HE.o];intro x hx;rcases Za6.1 hx with hx|hx
       ·exact HALL.o x hx
       ·simp only [Option.toList_some,Zbj] at hx;subst hx;show tagOf ts sq=tg;rw [<-HTV.o];exact htq
      have HALL2:=Zh hall2;subst htq;clear hall2 HALL HE HTV;go_wp2;refine Zw ?_;go_wp2;go_roundw;case rel=>exact ⟨i+1,by go_num,by omega,HALL2.o,H6.o⟩
      case measure=>simp [intOf]<;>omega
     ·have hno:ZcS J ts=false:=by
       unfold ZcS;rw [ZiM];exact ⟨⟨tg,sq,d⟩,ZaG HE.o,by simp;rw [<-HTV.o];exact htq⟩
      have e1:=HX3.o.trans (Zb hno);simp only [Zv] at e1;obtain ⟨rfl,rfl,rfl⟩:=e1;have hne:(tv != tg)=true:=by simpa using htq
      have h7:=St.jn_shut (J:=RJ) (V:=⟨vt,vc,slice (some ⟨g,qq,none⟩) nl cl,va⟩) HRI.o H6.o;have H7:=Zh (h7.pull 1 _ rfl);clear h7 H6 hno HALL HE HTV htq;go_wp2;refine Zw ?_;go_wp2;go_ret;exact ⟨I,Hp.sub.refl _,rfl,H7.o⟩
    ·obtain rfl:i=nl:=by omega
     have hlt2:¬ (i:Int)<(i:Int):=by omega
     have hyes:ZcS J ts=true:=by
      unfold ZcS;rw [ZbG];intro e he;rw [Zba (by rw [<-HNL.o];exact ZC _)] at hall;exact Zt (hall e he)
     have HX4:=Zh (HX3.o.trans (Za (by rw [hyes];simp)));obtain ⟨Av,cv,ev,_⟩:=HRI.o.1;obtain ⟨Ac,cc,ec,_⟩:=HRI.o.2;subst ev ec;have hst2:St W I wr (jnBlk q p J ⟨slice Av J.r.tags.length cv,slice Ac J.r.cls.length cc,slice Al J.l.length cl,va⟩::Zo (slice Al J.l.length cl) J.l::ZY va J.at_::Zj p S::l):=by rw [<-HNL.o];exact hst
     have hjn:=St.jn_shut (J:=J) (V:=⟨slice Av J.r.tags.length cv,slice Ac J.r.cls.length cc,slice Al J.l.length cl,va⟩) HRI.o hst2;obtain ⟨a1,a2,a3⟩:=Zc0 hst2;have a4:=jn_c4 hst2;have a5:=jn_c5 hst2;have a6:=jn_c6 hst2;have a7:=jn_c7 hst2;have lq:=hst2.lt;simp only at a6 a7;have h5:=hjn.alloc (cells #[int i64 J.r.shape.splay,int i64 J.r.shape.sets,int i64 J.r.shape.size,int i64 J.r.first,int i64 J.r.set,slice Av J.r.tags.length cv,slice Ac J.r.cls.length cc] 105);obtain ⟨g8,hg8⟩:=Zn wr.heap.size;rw [<-hg8] at h5;have H5:=Zh h5;have HOK:=Zh (show (tagsR J.r ts).Ok from ⟨HB.o.ok.shape,HB.o.ok.first,HB.o.ok.set,HRB.o.symm,HB.o.ok.cls⟩);clear hst hst2 hjn h5 hall hyes;go_upto_region 13 with fail;rw [<-hg8];have h5:=H5.o;generalize (World.alloc _ _:World)=w5 at h5 |-;clear a1 a2 a3 a4 a5 a6 a7 lq H5 hg8;obtain ⟨z0,z1,z2,z3,z4,z5,z6⟩:=ZaC h5;have lg:=h5.lt;have fg:=frozen_of_row h5.heap;have HCL:=Zh (Zfb At n ct ts w5 (HTA.o _ I _ (Hp.sub.refl _) h5) htn);have H5:=Zh h5;clear h5;go_wp2_with fail;refine HCL.o.mono ?_;rintro e w6 ⟨v6,rfl,ho6,hb6⟩;obtain ⟨A6,c6,rfl⟩:=ZA ho6;obtain ⟨I6,s6,hR6,h6⟩:=(H5.o.row_fresh hb6 ho6).freeze_row;clear z0 z1 z2 z3 z4 z5 z6 lg fg ho6 hb6 H5 HCL;obtain ⟨z0,z1,z2,z3,z4,z5,z6⟩:=ZaC h6;have lg:=h6.lt;have fg:=frozen_of_row h6.heap;have h7:=h6.setCell 5 (slice A6 n c6);simp only [Zf,Zd,Ze] at h7;have hkp:=fun w1 L (h:St W I6 w1 (Zj p S::jnHP q p J::L))=>ZhB (tagsR J.r ts) (slice A6 n c6) (slice Ac J.r.cls.length cc) o h HK.o HOK.o ⟨by show RowI I6 4 (slice A6 n c6) ts.length (flat ts);rw [<-HNN.o];exact hR6,HRI.o.2.mono s6⟩ HJ.o;simp only [Rc.cells,tagsR] at hkp;have HKP:=Zh hkp;have S6:=Zh s6;have H7:=Zh ((h7.pull 2 _ rfl).pull 2 _ rfl);clear h6 h7 hkp s6 hR6;go_upto_region 14 with fail;have h8:=H7.o;generalize (World.setCell _ _ _:World)=w8 at h8 |-;clear z0 z1 z2 z3 z4 z5 z6 lg fg H7;obtain ⟨z0,z1,z2,z3,z4,z5,z6⟩:=ZaC (h8.pull 2 _ rfl);have lg:=(h8.pull 2 _ rfl).lt;have H8:=Zh (h8.pull 1 _ rfl);clear h8;have hx4:=HX4.o;unfold tagsR at hx4;obtain ⟨R9,hr9⟩:=Zn (keepJ S J ⟨J.r.shape,J.r.first,J.r.set,ts,J.r.cls⟩);rw [<-hr9] at hx4 HKP;subst hx4;clear hr9;go_wp2_with fail;refine (HKP.o _ _ H8.o).mono ?_;rintro e w9 ⟨I9,s9,rfl,h9⟩;have H9:=Zh h9;have S9:=Zh (S6.o.trans s9);clear h9 s9;go_wp2;go_ret;exact ⟨I9,S9.o,rfl,((H9.o.pull 2 _ rfl).drop)⟩
 ·have e1:=HX.o.trans (Zb h0);simp only [Zv] at e1;obtain ⟨rfl,rfl,rfl⟩:=e1;have hne:(why != 0)=true:=by simpa using h0
  go_enter func41,ntmps41;go_wp2_with fail;refine HM.o.mono ?_;rintro e w2 ⟨rfl,h2⟩;have H2:=Zh h2;clear h2;go_wp2;go_ret;exact ⟨I,Hp.sub.refl _,rfl,H2.o⟩
end
end Go.Proofs.YtpjchngjhijgmaaGreat
