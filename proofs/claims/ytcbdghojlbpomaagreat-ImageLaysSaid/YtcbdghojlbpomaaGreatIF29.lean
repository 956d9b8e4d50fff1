import Derived.Test.YtcbdghojlbpomaaGreatIF28
set_option linter.all false
set_option maxRecDepth 4000
set_option maxHeartbeats 8000000
open Go.RowKit
open Go.IntKind (i64 u64)
open Go.Value (int pointer slice)
open Go.Obj (cells)
namespace Go.Proofs.YtcbdghojlbpomaaGreat
open Tryz
open HP (pt mapOf)
variable {W w w':World} {I:Hp} {l:List HP}
def Zbt (l:Ly) (size:Nat) (newest:Int) (e:Ev) (es:List Ext):List RO->Ext->List RO :=
 if e.kind=1 then ZbQ newest e.data else Zbr newest fun x=>decide (e.kind=2∧sumOf x.obj es=ZI l size x.obj)
theorem ZnN {e:Ev} (h:ZU e=true) (hk:e.kind=1∨e.kind=2∨e.kind=3):spanP e=spanE e:=by
 unfold spanP ZaF;rw [h,Zcb hk];rfl
theorem Zdl {e:Ev} (h:ZU e=true) (hk:e.kind=1∨e.kind=2∨e.kind=3):1<=(spanE e).2∧(spanE e).2<=512∧0<=(spanE e).1∧(spanE e).1<=512 - (spanE e).2:=by
 rw [Zbl] at h;unfold spanE;have key:∀ a b:Int,spanB a b=true->1<=b∧b<=512∧0<=a∧a<=512 - b:=fun a b q=>by
  unfold spanB at q;rw [Ze] at q;omega
 by_cases k1:e.kind=1
 ·rw [Zb k1];exact key _ _ (by grind)
 ·rw [Za k1];exact key _ _ (by grind)
structure PcAt (f:List RO->Ext->List RO) (S S':Str) (ids:List Int) (next newest:Int) (R R':List RO) (es:List Ext) (i:Nat):Prop where
 st:IStore S' newest R'
 mid:MidI ids next newest R'
 at_:R'=(es.take i).foldl f R
 recd:get recK S'.seen=get recK S.seen
theorem PcAt.step {f:List RO->Ext->List RO} {S S':Str} {ids:List Int} {next newest:Int} {R R':List RO} {es:List Ext} {i:Nat} (h:PcAt f S S' ids next newest R R' es i) {e:Ext} (he:es[i]?=some e) {r:Int × Str} (c:OneStep r S' ids next newest (f R' e)):PcAt f S r.2 ids next newest R (f R' e) es (i+1) :=
 ⟨c.st,c.mid,by
  obtain ⟨hil,hee⟩:=ZS.1 he;rw [ZbG hil,List.foldl_append,hee,<-h.at_]
  rfl,c.recd.trans h.recd⟩
section
variable {p q : Nat} {S : Str}
theorem ZmN (h:Hd) (hh:h.Ok) {R:List RO} {ids:List Int} {next:Int} {m:Nat} (e:Ev) (ev:Value) (hr:ZU e=true) (hk3:e.kind=1∨e.kind=2∨e.kind=3) (off n:Nat) (ho:(spanE e).1=off) (hn:(spanE e).2=n) (hin:off+n<=h.size)
  (hs:St W I w (Zd p S::imgHP q p h::l)) (hk:Keeps S (m+16*130)) (H:IStore S h.newest R) (M:MidI ids next h.newest R) (hid:IdsI h.ids h.newest) (hev:Zw I ev e.data) (hby:∀ x ∈ e.data,isByte x) :
  Calls prog 72 #[pointer (some ⟨q,0,none⟩),e.val ev] w fun x w'=>∃ I',I.sub I'∧x=.returned (int i64 0)∧∃ S',St W I' w' (Zd p S'::imgHP q p h::l)∧∃ es,Cover h.l off n es ∧
   IStore S' h.newest (es.foldl (Zbt h.l h.size h.newest e es) R)∧MidI ids next h.newest (es.foldl (Zbt h.l h.size h.newest e es) R)∧get recK S'.seen=get recK S.seen∧Keeps S' m:=by
 have hsz:=hh.size;have hl:=hh.shape;have h17:h.marks.length<=17:=hh.many;obtain ⟨s1,s2,s3,s4⟩:=Zdl hr hk3;rw [ho,hn] at s4;rw [hn] at s1 s2;have s5:off+n<=512:=by omega
 have HSP:Hid (∀ w',SliceSrc w' 1 ev e.data.length (e.data.map byteV)->Calls prog 144 #[e.val ev] w' fun r w2=>r=.returned (.tuple #[int i64 off,int i64 n])∧Below w'.heap.size w' w2):=Zh (fun w' hsr=>by
  have:=Zi0 e ev w' hsr hby
  rw [ZnN hr hk3,ho,hn] at this
  exact this)
 have hdl:e.kind=1->e.data.length=n:=fun k=>by
  unfold spanE at hn;rw [Zb k] at hn;simp only at hn;omega
 obtain ⟨N,hN⟩:∃ x,h.newest=x:=⟨_,rfl⟩;obtain ⟨L,hL⟩:∃ x,h.l=x:=⟨_,rfl⟩;obtain ⟨Z,hZ⟩:∃ x,h.size=x:=⟨_,rfl⟩;have HBY:Hid (∀ (w:World) (k:Nat),k<=1048576->Calls prog 92 #[.agg #[int i64 h.l.order,int i64 h.l.unit,int i64 h.l.count],int i64 h.size,int i64 k] w fun e w'=>e=.returned (int i64 (ZI L Z k))∧Below w.heap.size w w'):=Zh (fun w k hk=>by rw [<-hL,<-hZ];exact Zg8 h.l hl h.size k hsz hk w);have HNW:Hid (∀ (v:Value) (w:World),SliceSrc w 4 v h.marks.length (h.marks.flatMap Mk.vals)->Calls prog 98 #[.agg #[int i64 h.size,int i64 h.l.order,int i64 h.l.unit,int i64 h.l.count,int i64 h.next,int i64 h.seq,v]] w fun e w'=>e=.returned (int i64 N)∧Below w.heap.size w w'):=Zh (fun v w hsr=>by rw [<-hN];exact ZgS h hid v w hsr (by omega));have HMP:Hid (∀ w,Calls prog 146 #[.agg #[int i64 h.l.order,int i64 h.l.unit,int i64 h.l.count],int i64 off,int i64 n] w fun e w'=>∃ es A c,e=.returned (slice A es.length c)∧Cover L off n es∧St w w.hp w' [HP.row 186 4 (slice A es.length c) es.length (es.flatMap Ext.vals)]∧es.length<=130):=Zh (fun w=>by rw [<-hL];exact ZkX h.l hl off n (by omega) s5 w);rw [hN] at H M;rw [hL] at hl;rw [hN,hL,hZ];have hl0:=hs.alloc (cells #[int i64 e.kind,int i64 e.off,int i64 e.len,ev,.string e.name] 40);obtain ⟨g0,hg0⟩:∃ g,w.heap.size=g:=⟨_,rfl⟩;rw [hg0] at hl0;have HG0:=Zh hg0;have HH:=Zh H;have HM:=Zh M;have HS:=Zh hl0;have HL:=Zh hl;have HK:=Zh hk;have HEV:=Zh hev;have HDL:=Zh hdl;have hmm:=@run_makeMap prog;obtain ⟨v,hv,h1⟩:=(hs.pull 1 _ rfl).img_open;obtain ⟨c0,c1,c2,c3,c4,c5,c6,c7,c8,c9⟩:=Zz h1;have lt0:q<w.heap.size:=h1.lt;have hnw:=Zh (HNW.o v _ (ZbW (h1.alloc (cells #[int i64 e.kind,int i64 e.off,int i64 e.len,ev,.string e.name] 40)).drop hv));obtain ⟨Ae,ce,rfl,hce⟩:=RowI.cap hev;clear hs hl hk H M hid hN hL hZ hev hdl hby hr hl0 hg0 h1 hv ho hn s1 s2 s3 s4;obtain ⟨sz,⟨o,u,cn⟩,nx,sq,ms⟩:=h;obtain ⟨k,eo,el,d,nm⟩:=e;simp only [Ev.val] at HBY HNW h17 HMP c2 c3 c4 c5 c6 c7 hnw hin HSP HS HEV HDL hk3 hce |-;go_enter func72,ntmps72;go_wp2_with fail;refine hnw.o.mono ?_;rintro e w2 ⟨rfl,hb2⟩;have h2:=HS.o.keep hb2;rw [HG0.o];obtain ⟨y0,y1,y2,y3,y4⟩:=Zf h2;have hsp:=HSP.o w2 (ZbT h2 HEV.o);have H2:=Zh h2;have HSP2:=Zh hsp;have lt2:=h2.lt;clear c0 c1 c2 c3 c4 c5 c6 c7 c8 c9 hnw hb2 h2 hsp lt0 HSP;go_wp2_with fail;refine HSP2.o.mono ?_;rintro e w3 ⟨rfl,hb3⟩;have h3:=H2.o.keep hb3;obtain ⟨v3,hv3,h3i⟩:=(h3.pull 2 _ rfl).img_open;have c3:=(Zz h3i).c3;have c4:=(Zz h3i).c4;have c5:=(Zz h3i).c5;have lt3:=h3i.lt;have H3:=Zh h3;clear y0 y1 y2 y3 y4 h3 h3i hv3 hb3 lt2 HSP2;go_wp2_with fail;refine (HMP.o w3).mono ?_;rintro e w4 ⟨es,A4,cc,rfl,hcov,hm4,hel⟩;obtain ⟨I4,hs4,hr4,h4⟩:=(H3.o.row_fresh hm4.below hm4.row_new).freeze_row;obtain ⟨gm,hgm⟩:∃ g,w4.heap.size=g:=⟨_,rfl⟩;have h5:=(h4.alloc (.map #[] 0)).cnt_made;rw [hgm] at h5;have HCOV:=Zh hcov;have HR4:=Zh hr4;have H5:=Zh h5;have HS4:=Zh hs4;have HGM:=Zh hgm;clear hcov hr4 h4 h5 hs4 hm4 hgm c3 c4 c5 lt3 HMP H3 H2
 go_wp2_with fail;rw [HGM.o];clear hmm;go_loopw [36] (fun a36 wr=>∃ i:Nat,a36=int i64 i∧i<=es.length∧St W I4 wr (cntHP gm (es.take i)::pt g0 (cells #[int i64 k,int i64 eo,int i64 el,slice Ae d.length ce,.string nm] 40)::Zd p S::imgHP q p ⟨sz,⟨o,u,cn⟩,nx,sq,ms⟩::l)) (fun a36 _=>es.length - (intOf a36).toNat);case atStart=>exact ⟨0,rfl,by omega,H5.o⟩
 case round =>
  obtain ⟨i,rfl,hi,hst⟩:=hrel;by_cases hlt:i<es.length
  ·have d0:decide ((i:Int)<(es.length:Int))=true:=by rw [Ze];omega
   obtain ⟨e,he⟩:∃ e,es[i]?=some e:=⟨_,ZL hlt⟩;have hsplit:es=es.take i++e::es.drop (i+1):=by
    obtain ⟨hil,hee⟩:=ZS.1 he;rw [<-hee,<-ZdI hil,ZdH]
   have hco:=HCOV.o;rw [hsplit] at hco;obtain ⟨k1,k2,k3⟩:=hco.piece;have k4:=ZqW e.obj (es.take i);rw [<-k1] at k4;have htk:es.take (i+1)=es.take i++[e]:=by
    obtain ⟨hil,hee⟩:=ZS.1 he;rw [ZbG hil,hee]
   obtain ⟨b,bo,e1,hc⟩:=ZbJ (i:=i) (mk:=Ext.vals) (k:=4) HR4.o (Hp.sub.refl _) hst (fun _=>rfl) he;simp only [ZF,Zae,ZK] at e1;subst e1;obtain ⟨b1,hb1⟩:∃ g,wr.heap.size=g:=⟨_,rfl⟩;have h6:=hst.keep (ZM wr (cells #[int i64 e.obj,int i64 e.off,int i64 e.len,int i64 e.at_] 186));have hlk:=h6.cnt_look e.obj (ZR _ _);obtain ⟨w7,hr7,hsz7,h7⟩:=h6.cnt_put e;rw [<-htk] at h7;obtain ⟨t1,ht1⟩:∃ x,sumOf e.obj (es.take i)=x:=⟨_,rfl⟩;rw [ht1] at hlk hr7 k4;obtain ⟨t2,ht2⟩:∃ x,t1+e.len=x:=⟨_,rfl⟩;rw [ht2] at hr7;have hadd:(t1:Int)+(e.len:Int)=(t2:Int):=by omega
   have ht3:t2<=512:=by omega
   have hw2:IntKind.i64.wrap (t2:Int)=t2:=by rw [Z2];omega
   have H7:=Zh h7;obtain ⟨xo,xf,xl,xa⟩:=e;simp only at *;have y0:=hc 0 (by omega);have y1:=hc 1 (by omega);have y2:=hc 2 (by omega);have y3:=hc 3 (by omega);simp only [Ext.vals,Zg,Zi,Zbg] at y0 y1 y2 y3;have hin2:(i:Int)<(es.length:Int):=by omega
   clear hc he hsplit hco k1 k2 k3 k4 hst h6 h7 htk ht1 ht2;go_wp2;go_roundw;case rel=>exact ⟨i+1,by go_num,by omega,H7.o⟩
   case measure=>simp [intOf]<;>omega
  ·obtain rfl:i=es.length:=by omega
   have d0:decide (((es.length:Nat):Int)<(es.length:Int))=false:=by rw [Zk];omega
   rw [Zbk] at hst;have HST:=Zh hst;clear hst;go_wp2;go_loopw [50] (fun a50 wr=>∃ (i:Nat) (I':Hp) (S':Str) (R':List RO),a50=int i64 i∧i<=es.length∧I4.sub I'∧PcAt (Zbt L Z N ⟨k,eo,el,d,nm⟩ es) S S' ids next N R R' es i∧Keeps S' (m+16*(130 - i))∧St W I' wr (cntHP gm es::pt g0 (cells #[int i64 k,int i64 eo,int i64 el,slice Ae d.length ce,.string nm] 40)::Zd p S'::imgHP q p ⟨sz,⟨o,u,cn⟩,nx,sq,ms⟩::l)) (fun a50 _=>es.length - (intOf a50).toNat);case atStart=>exact ⟨0,I4,S,R,rfl,by omega,Hp.sub.refl _,⟨HH.o,HM.o,rfl,rfl⟩,HK.o,HST.o⟩
   case round =>
    obtain ⟨i,I',S',R',rfl,hi,hsub,hat,hkp,hst⟩:=hrel;clear HST H5;by_cases hlt:i<es.length
    ·have d0:decide ((i:Int)<(es.length:Int))=true:=by rw [Ze];omega
     obtain ⟨e,he⟩:∃ e,es[i]?=some e:=⟨_,ZL hlt⟩;have hsplit:es=es.take i++e::es.drop (i+1):=by
      obtain ⟨hil,hee⟩:=ZS.1 he;rw [<-hee,<-ZdI hil,ZdH]
     have hco:=HCOV.o;rw [hsplit] at hco;obtain ⟨k1,k2,k3⟩:=hco.piece;have k4:=ZgT HL.o HCOV.o (Zay he);have k5:=HCOV.o.one e (Zay he);have kp:=k3 0 k5;have k6:e.obj<every:=by
      have:=Zfx HL.o (x:=off+(e.at_+0)) (by omega);rw [kp] at this;exact this
     obtain ⟨b,bo,e1,hc⟩:=ZbJ (i:=i) (mk:=Ext.vals) (k:=4) (RowI.mono hsub HR4.o) (Hp.sub.refl _) hst (fun _=>rfl) he;simp only [ZF,Zae,ZK] at e1;subst e1;obtain ⟨y0,y1,y2,y3,y4⟩:=Zf (hst.pull 1 _ rfl);have HSTP:=Zh (fun (e':Ext) (h':es[i]?=some e') (r:Int × Str) (c:OneStep r S' ids next N (Zbt L Z N ⟨k,eo,el,d,nm⟩ es R' e'))=>hat.step h' c);have HE:=Zh he;have hkp2:Keeps S' ((m+16*(130 - (i+1)))+16):=hkp.fewer (by omega);have HKP2:=Zh hkp2;have HAT:=Zh hat;obtain ⟨xo,xf,xl,xa⟩:=e;simp only at k1 k2 k4 k5 k6 hc;have z0:=hc 0 (by omega);have z1:=hc 1 (by omega);have z2:=hc 2 (by omega);have z3:=hc 3 (by omega);simp only [Ext.vals,Zg,Zi,Zbg] at z0 z1 z2 z3;have hin2:(i:Int)<(es.length:Int):=by omega
     have h6:=hst.alloc (cells #[int i64 xo,int i64 xf,int i64 xl,int i64 xa] 186);obtain ⟨g5,hg5⟩:∃ g,wr.heap.size=g:=⟨_,rfl⟩;rw [hg5] at h6;have HG5:=Zh hg5;have HSUB:=Zh hsub;have H6:=Zh h6;have lt0:=(hst.pull 1 _ rfl).lt;clear hc he hsplit hco k1 k3 kp hst h6 hsub hat hkp hkp2 hg5;rcases hk3 with rfl|rfl|rfl
     ·go_upto_region 16 with fail;have h6:=H6.o;rw [HG5.o];generalize (World.alloc _ _:World)=w6 at h6 |-;clear y0 y1 y2 y3 y4 z0 z1 z2 z3;obtain ⟨x0,x1,x2,x3⟩:=ZX h6;obtain ⟨y0,y1,y2,y3,y4⟩:=Zf (h6.pull 2 _ rfl);obtain ⟨v6,_,h6i⟩:=(h6.pull 4 _ rfl).img_open;have c0:=(Zz h6i).c0;have c1:=(Zz h6i).c1;have hdn:=HDL.o rfl;obtain ⟨ga,oa,rfl⟩:∃ ga oa,Ae=some ⟨ga,oa,none⟩:=by
       obtain ⟨A',c',e1,_,_,_,_,q6⟩:=HEV.o;simp only [ZF,ZK] at e1;obtain ⟨rfl,rfl⟩:=e1;obtain ⟨ga,oa,_,_,_,e2,_⟩:=q6 (by omega);exact ⟨ga,oa,e2⟩
      obtain ⟨xe,hxe⟩:∃ x,xa+xl=x:=⟨_,rfl⟩;have hxs:(xa:Int)+(xl:Int)=(xe:Int):=by omega
      have hxw:IntKind.i64.wrap (xe:Int)=xe:=by rw [Z2];omega
      have hb1:(xa:Int)<=(xe:Int):=by omega
      have hb2:(xe:Int)<=(ce:Int):=by omega
      obtain ⟨P,hP⟩:∃ P,(d.drop xa).take xl=P:=⟨_,rfl⟩;have hpl:P.length=xl:=by rw [<-hP,ZN,Zas];omega
      have hpv:Zw I' (slice (some ⟨ga,oa+xa,none⟩) (xe - xa) (ce - xa)) P:=by
       have q1:=(RowI.suf (RowI.mono (HS4.o.trans HSUB.o) HEV.o) (k:=xa) (by omega)).pre (k:=xe - xa) (by omega);rw [ZaT,ZaT,<-Zdb,<-ZcR,show xe - xa=xl by omega,hP] at q1;unfold Zw;rw [hpl,show xe - xa=xl by omega];exact q1
      have hcw:=ZmK 0 xo N xf _ P (h6.pull 3 _ rfl).drew HKP2.o hpv (by omega);have hone:=HAT.o.st.write HAT.o.mid k6 (off:=xf) (p:=P) (by omega);have HCW:=Zh hcw
      have HONE:=Zh (show OneStep (ZbL S' 0 xo N xf P) S' ids next N (Zbt L Z N ⟨1,eo,el,d,nm⟩ es R' ⟨xo,xf,xl,xa⟩) by
       unfold Zbt ZbQ;rw [Zb rfl];simp only [hP]
       exact hone)
      clear h6i hcw hone hpv hP h6 hdn;refine ZaD [0,1,2,4,5,6,8,10,11,13,15,17,19] [3,7,9,12,14,16,18,20,21,22] [23,24] (by kernel_rfl) (by kernel_rfl) ?_;simp only [pickL,Zg,Zi];repeat (refine ZaA _ (Or.inl ⟨by rfl,by intro w;go_simp;try with_reducible rfl⟩) ?_;(try go_frame))
      refine ZaB ?_;repeat still_step
      refine ZaI ?_;go_wp2_with fail;refine HCW.o.mono ?_;rintro e w7 ⟨I7,hs7,rfl,h7⟩;rw [HONE.o.done];have H7:=Zh (((h7.pull 1 _ rfl).drop.pull 2 _ rfl).pull 2 _ rfl);have HS7:=Zh (HSUB.o.trans hs7);clear h7 hs7 x0 x1 x2 x3 y0 y1 y2 y3 y4 c0 c1;go_wp2;refine Zu ?_;go_wp2;go_roundw;case rel=>exact ⟨i+1,I7,_,_,by go_num,by omega,HS7.o,HSTP.o _ HE.o _ HONE.o,ZlV HKP2.o,H7.o⟩
      case measure=>simp [intOf]<;>omega
     ·go_upto_region 17 with fail;have h7:=H6.o;rw [HG5.o];generalize (World.alloc _ _:World)=w6 at h7 |-;clear y0 y1 y2 y3 y4 z0 z1 z2 z3;obtain ⟨x0,x1,x2,x3⟩:=ZX h7;obtain ⟨y0,y1,y2,y3,y4⟩:=Zf (h7.pull 2 _ rfl);obtain ⟨v7,_,h7i⟩:=(h7.pull 4 _ rfl).img_open;have c0:=(Zz h7i).c0;have c1:=(Zz h7i).c1;have c2:=(Zz h7i).c2;have c3:=(Zz h7i).c3;have c4:=(Zz h7i).c4;have c5:=(Zz h7i).c5;clear h7i;have hlk:=(h7.drew.pull 1 _ rfl).cnt_look xo (ZR _ _);have hlk7:=fun (w':World) (hb:Below w6.drew.heap.size w6.drew w')=>(h7.drew.pull 1 _ rfl).cnt_look xo hb;have hby:=Zh (HBY.o w6.drew xo (by unfold every at k6;omega));have H7:=Zh h7;have HLK:=Zh hlk7;have lq:q<w6.heap.size:=by
       obtain ⟨v8,_,h8⟩:=(h7.pull 4 _ rfl).img_open;exact h8.lt
      have l5:=h7.lt;have l0:=(h7.pull 2 _ rfl).lt;obtain ⟨t1,ht1⟩:∃ x,sumOf xo es=x:=⟨_,rfl⟩;rw [ht1] at hlk HLK;have HT1:=Zh ht1;obtain ⟨t2,ht2⟩:∃ x,ZI L Z xo=x:=⟨_,rfl⟩;rw [ht2] at hby
      have HT2:=Zh ht2;clear h7 hlk7 ht1 ht2;refine Z3 (fun w'=>w'.cell? ⟨q,0,none⟩=some (pointer (some ⟨p,0,none⟩))∧w'.cell? ⟨q,1,none⟩=some (int i64 0)∧w'.cell? ⟨q,2,none⟩=some (int i64 sz)∧w'.cell? ⟨q,3,none⟩=some (int i64 o)∧w'.cell? ⟨q,4,none⟩=some (int i64 u)∧w'.cell? ⟨q,5,none⟩=some (int i64 cn)∧w'.cell? ⟨g0,0,none⟩=some (int i64 2)∧w'.cell? ⟨g5,0,none⟩=some (int i64 xo)∧(Instr.lookup 184 (.map (some gm)) (int i64 xo) false).run prog w'=.ok (int i64 t1) w') [0,1,2,3,4,5,6,7,8,9,10,11,12,13,14,15,16,17,18,19] [20] [21,22,23] (by kernel_rfl) (by kernel_rfl) (by (exact ⟨c0,c1,c2,c3,c4,c5,y0,x0,hlk⟩)) ?_;simp only [pickL,Zg,Zi];repeat (first|refine Zs _ (Or.inl ⟨by rfl,by (intro w hSw;(try dsimp only at hSw);go_simp;try with_reducible rfl)⟩) ?_|refine Zs _ (Or.inr ⟨by rfl,rfl⟩) ?_|fail);(try go_frame)
      refine ZC ?_;unfold Zp;go_wp2_with fail;refine hby.o.mono ?_;rintro e w7 ⟨rfl,hb7⟩;have h7:=H7.o.drew.keep hb7;have hc:=fun (g j:Nat) (x:Value) (hx:w6.cell? ⟨g,j,none⟩=some x) (hl:g<w6.heap.size)=>(hb7.cell (p:=⟨g,j,none⟩) hl).trans hx;have z0:=hc q 0 _ c0 lq;have z1:=hc q 1 _ c1 lq;have z2:=hc q 2 _ c2 lq;have z3:=hc q 3 _ c3 lq;have z4:=hc q 4 _ c4 lq;have z5:=hc q 5 _ c5 lq;have z6:=hc g0 0 _ y0 l0;have z7:=hc g5 0 _ x0 l5;have z8:=HLK.o w7 hb7;clear hc c0 c1 c2 c3 c4 c5 y0 y1 y2 y3 y4 x0 x1 x2 x3 hlk hb7 lq l5 l0 hby HLK;have H8:=Zh h7;clear h7 H7;go_wp2;refine Zt ⟨z0,z1,z2,z3,z4,z5,z6,z7,z8⟩ ?_;unfold Zp;clear z0 z1 z2 z3 z4 z5 z6 z7 z8;have h7:=H8.o;obtain ⟨x0,x1,x2,x3⟩:=ZX h7;obtain ⟨y0,y1,y2,y3,y4⟩:=Zf (h7.pull 2 _ rfl);obtain ⟨v7,_,h7i⟩:=(h7.pull 4 _ rfl).img_open;have c0:=(Zz h7i).c0;have c1:=(Zz h7i).c1;have c2:=(Zz h7i).c2;have c3:=(Zz h7i).c3;have c4:=(Zz h7i).c4;have c5:=(Zz h7i).c5;clear h7i;by_cases heq:t1=t2
      ·have e5:((t1:Int)==(t2:Int))=true:=by rw [heq];exact beq_self_eq_true _
       subst heq;go_wp2;refine Zu ?_;go_wp2_with fail;have hcw:=Zkj 0 xo N 0 (h7.pull 3 _ rfl).drew HKP2.o;have hone:=HAT.o.st.cut HAT.o.mid k6 (n:=0) (by omega);have HCW:=Zh hcw
       have HONE:=Zh (show OneStep (ccutS S' 0 xo N 0) S' ids next N (Zbt L Z N ⟨2,eo,el,d,nm⟩ es R' ⟨xo,xf,xl,xa⟩) by
        unfold Zbt Zbr;rw [Za (show ¬ ((2:Int)=1) by decide),Zb (by rw [Ze];exact ⟨rfl,HT1.o.trans HT2.o.symm⟩)]
        exact hone)
       clear hcw hone h7;refine ZaD [0,1,2,4,5,6,8,10] [3,7,9] [11,12] (by kernel_rfl) (by kernel_rfl) ?_;simp only [pickL,Zg,Zi];repeat (refine ZaA _ (Or.inl ⟨by rfl,by intro w;go_simp;try with_reducible rfl⟩) ?_;(try go_frame))
       refine ZaB ?_;repeat still_step
       refine ZaI ?_;go_wp2_with fail;refine HCW.o.mono ?_;rintro e w8 ⟨I7,hs7,rfl,h8⟩;rw [HONE.o.done];have H8:=Zh (((h8.pull 1 _ rfl).drop.pull 2 _ rfl).pull 2 _ rfl);have HS7:=Zh (HSUB.o.trans hs7);clear h8 hs7 x0 x1 x2 x3 y0 y1 y2 y3 y4 c0 c1;go_wp2;refine Zu ?_;go_wp2;go_roundw;case rel=>exact ⟨i+1,I7,_,_,by go_num,by omega,HS7.o,HSTP.o _ HE.o _ HONE.o,ZiJ HKP2.o,H8.o⟩
       case measure=>simp [intOf]<;>omega
      ·have e5:((t1:Int)==(t2:Int))=false:=by rw [Zfk];omega
       go_wp2;refine Zu ?_;go_wp2_with fail;have hcw:=ZiY 0 xo N xf xl (h7.pull 3 _ rfl).drew HKP2.o;have hone:=HAT.o.st.clear HAT.o.mid k6 (off:=xf) (n:=xl) k4;have HCW:=Zh hcw
       have HONE:=Zh (show OneStep (ZbC S' 0 xo N xf xl) S' ids next N (Zbt L Z N ⟨2,eo,el,d,nm⟩ es R' ⟨xo,xf,xl,xa⟩) by
        unfold Zbt Zbr;rw [Za (show ¬ ((2:Int)=1) by decide),Za (by rw [Ze];exact fun q=>heq (HT1.o.symm.trans (q.2.trans HT2.o)))]
        exact hone)
       clear hcw hone h7;refine ZaD [0,1,2,4,5,6,8,10,11,13] [3,7,9,12,14] [15,16] (by kernel_rfl) (by kernel_rfl) ?_;simp only [pickL,Zg,Zi];repeat (refine ZaA _ (Or.inl ⟨by rfl,by intro w;go_simp;try with_reducible rfl⟩) ?_;(try go_frame))
       refine ZaB ?_;repeat still_step
       refine ZaI ?_;go_wp2_with fail;refine HCW.o.mono ?_;rintro e w8 ⟨I7,hs7,rfl,h8⟩;rw [HONE.o.done];have H8:=Zh (((h8.pull 1 _ rfl).drop.pull 2 _ rfl).pull 2 _ rfl);have HS7:=Zh (HSUB.o.trans hs7);clear h8 hs7 x0 x1 x2 x3 y0 y1 y2 y3 y4 c0 c1;go_wp2;refine Zu ?_;go_wp2;go_roundw;case rel=>exact ⟨i+1,I7,_,_,by go_num,by omega,HS7.o,HSTP.o _ HE.o _ HONE.o,Zis HKP2.o,H8.o⟩
       case measure=>simp [intOf]<;>omega
     ·go_upto_region 17 with fail;have h7:=H6.o;rw [HG5.o];generalize (World.alloc _ _:World)=w6 at h7 |-;clear y0 y1 y2 y3 y4 z0 z1 z2 z3;obtain ⟨y0,y1,y2,y3,y4⟩:=Zf (h7.pull 2 _ rfl);have H7:=Zh h7;clear h7;go_quiet (fail);rename_i nq;have h7:=H7.o.drewN nq;generalize w6.drewN nq=w7 at h7 |-;clear y0 y1 y2 y3 y4;go_wp2_with fail;obtain ⟨x0,x1,x2,x3⟩:=ZX h7;obtain ⟨y0,y1,y2,y3,y4⟩:=Zf (h7.pull 2 _ rfl);obtain ⟨v7,_,h7i⟩:=(h7.pull 4 _ rfl).img_open;have c0:=(Zz h7i).c0;have c1:=(Zz h7i).c1;have c2:=(Zz h7i).c2;have c3:=(Zz h7i).c3;have c4:=(Zz h7i).c4;have c5:=(Zz h7i).c5;clear h7i;have hcw:=ZiY 0 xo N xf xl (h7.pull 3 _ rfl).drew HKP2.o;have hone:=HAT.o.st.clear HAT.o.mid k6 (off:=xf) (n:=xl) k4;have HCW:=Zh hcw
      have HONE:=Zh (show OneStep (ZbC S' 0 xo N xf xl) S' ids next N (Zbt L Z N ⟨3,eo,el,d,nm⟩ es R' ⟨xo,xf,xl,xa⟩) by
       unfold Zbt Zbr;rw [Za (show ¬ ((3:Int)=1) by decide),Za (by rw [Ze];exact fun q=>absurd (show (3:Int)=2 from q.1) (by decide))]
       exact hone)
      clear hcw hone h7;refine ZaD [0,1,2,4,5,6,8,10,11,13] [3,7,9,12,14] [15,16] (by kernel_rfl) (by kernel_rfl) ?_;simp only [pickL,Zg,Zi];repeat (refine ZaA _ (Or.inl ⟨by rfl,by intro w;go_simp;try with_reducible rfl⟩) ?_;(try go_frame))
      refine ZaB ?_;repeat still_step
      refine ZaI ?_;go_wp2_with fail;refine HCW.o.mono ?_;rintro e w8 ⟨I7,hs7,rfl,h8⟩;rw [HONE.o.done];have H8:=Zh (((h8.pull 1 _ rfl).drop.pull 2 _ rfl).pull 2 _ rfl);have HS7:=Zh (HSUB.o.trans hs7);clear h8 hs7 x0 x1 x2 x3 y0 y1 y2 y3 y4 c0 c1;go_wp2;refine Zu ?_;go_wp2;go_roundw;case rel=>exact ⟨i+1,I7,_,_,by go_num,by omega,HS7.o,HSTP.o _ HE.o _ HONE.o,Zis HKP2.o,H8.o⟩
      case measure=>simp [intOf]<;>omega
    ·obtain rfl:i=es.length:=by omega
     have d0:decide (((es.length:Nat):Int)<(es.length:Int))=false:=by rw [Zk];omega
     have e9:=hat.at_;rw [Zbk] at e9;have hkm:Keeps S' m:=hkp.fewer (by omega);have H9:=Zh (((hst.pull 1 _ rfl).drop).drop);have HE9:=Zh e9;have HAT:=Zh hat;have HKM:=Zh hkm;have HSUB:=Zh (HS4.o.trans hsub);clear hst hsub hat hkp hkm e9;go_wp2;go_ret;exact ⟨I',HSUB.o,rfl,S',H9.o,es,HCOV.o,by rw [<-HE9.o];exact HAT.o.st,by rw [<-HE9.o];exact HAT.o.mid,HAT.o.recd,HKM.o⟩
end
structure HdI (h:Hd) (R:List RO):Prop where
 img:ImgI h R
 marks:MarksI h.marks
 ok:h.Ok
 nz:∀ k,ZI h.l 512 k=0->objAt R k=noRO
theorem IJ.hd {S:Str} {h:Hd} {R:List RO} (J:IJ S h R):HdI h R:=⟨J.img,J.marks,J.ok,J.nz⟩
theorem HdI.ij {S:Str} {h:Hd} {R:List RO} (H:HdI h R) (s:IStore S h.newest R) (r:RecAt S h 0):IJ S h R:=⟨s,H.img,H.marks,H.ok,r,H.nz⟩
theorem HdI.mid {h:Hd} {R:List RO} (H:HdI h R):MidI h.ids h.next h.newest R:=H.img.mid H.ok
theorem MarksI.hone {ms:List Mk} (M:MarksI ms):(ms.filter fun m=>holdN m.name).length<=1:=by
 cases e:heldM ms with
 | none =>
  have:=Zfo.1 e;rw [Zd2.2 this];simp
 | some x =>
  exact ZQ (Zf1 fun m hm hn=>(by rw [Ze];exact M.one x e m hm hn)) (Zjh M.inc x.id)
theorem MarksI.okH {h:Hd} (M:MarksI h.marks) (size:h.size<=512) (shape:h.l.ok) (next:1<=h.next∧h.next<=1073741824) (seq:0<=h.seq∧h.seq<=1099511627776)
  (ids:∀ m ∈ h.marks,1<=m.id∧m.id<h.next) (sizes:∀ m ∈ h.marks,m.size<=512) (names:∀ m ∈ h.marks,ZcO m) (diff:(h.seen.map (·.name)).Nodup):h.Ok :=
 ⟨size,shape,next,seq,ids,M.inc,sizes,names,M.hone,M.seen,M.count,diff⟩
theorem HdI.seq {h:Hd} {R:List RO} (H:HdI h R) {s:Int} (h0:0<=s) (h1:s<=1099511627776):HdI { h with seq:=s } R :=
 ⟨⟨H.img.shape,H.img.size,H.img.sizes,H.img.ids,H.img.next,H.img.len,H.img.objs,H.img.fit,H.img.fits⟩,H.marks,
  H.marks.okH (h:={ h with seq:=s }) H.ok.size H.ok.shape H.ok.next ⟨h0,h1⟩ H.ok.ids H.ok.sizes H.ok.names H.ok.diff,H.nz⟩
theorem Zi1 {nm:ByteArray} (h:nameB nm=true):holdN nm=false:=by
 unfold nameB at h;rw [Ze] at h;have:=h.2.2 0 (by omega);unfold nameC at this;rw [Ze] at this;unfold holdN;rw [Zk];omega
theorem ZqM {h:Hd} (H:h.Ok):∀ x ∈ h.marks,x.id<h.next:=fun x hx=>(H.ids x hx).2
theorem Zpa (h:Hd) (nm:ByteArray):(snapH h nm).seen=h.seen++(if holdN nm=true then [] else [⟨h.next,nm,h.size,false⟩]):=by
 unfold Hd.seen;show (h.marks++_).filter _=_;rw [Zca];congr 1;cases hn:holdN nm <;> simp [Mk.seen,hn]
theorem HdI.marked {h:Hd} {R:List RO} (H:HdI h R) {nm:ByteArray} (hb:ZcO ⟨h.next,nm,h.size,false⟩) (hx:h.next<1073741824) (M:MarksI (snapH h nm).marks) (hd:((snapH h nm).seen.map (·.name)).Nodup):HdI (snapH h nm) R:=by
 have h1:=H.ok.next;refine ⟨H.img.snap nm,M,M.okH H.ok.size H.ok.shape ?_ H.ok.seq (fun m hm=>?_) (fun m hm=>?_) (fun m hm=>?_) hd,H.nz⟩
 ·show 1<=h.next+1∧h.next+1<=1073741824;omega
 ·show 1<=m.id∧m.id<h.next+1;rcases ZY.1 hm with q|q
  ·have:=H.ok.ids m q;omega
  ·rw [Zaz.1 q];show 1<=h.next∧h.next<h.next+1;omega
 ·rcases ZY.1 hm with q|q
  ·exact H.ok.sizes m q
  ·rw [Zaz.1 q];exact H.ok.size
 ·rcases ZY.1 hm with q|q
  ·exact H.ok.names m q
  ·rw [Zaz.1 q];exact hb
theorem HdI.snap {h:Hd} {R:List RO} (H:HdI h R) {nm:ByteArray} (hn:nameB nm=true) (hx:h.next<1073741824) (hf:findM h nm=none) (h8:h.seen.length<8):HdI (snapH h nm) R:=by
 have hh:=Zi1 hn;refine H.marked (.inr ⟨hh,hn⟩) hx (H.marks.snap (ZqM H.ok) rfl hh h8) ?_;rw [Zpa,hh,Za (by simp),Z4];refine Zgo.2 ⟨H.ok.diff,by simp,fun a ha b hb e=>?_⟩;obtain ⟨m,hm,rfl⟩:=ZH.1 ha;simp at hb;subst hb;rw [ZfJ,Zfo] at hf;exact hf m hm (by rw [Ze];exact e)
theorem Zpb {l:Ly} {n:Int} {z:Nat} {R:List RO} (k:Nat):objAt (cutR l n z R) k=cutO l n z k (objAt R k):=Zeh _ (ZfY _ _ _) R k
theorem ZnO {n mark:Int} {R:List RO} (k:Nat):objAt (backR n mark R) k=backO n mark (objAt R k):=Zeh _ (fun k=>by unfold backO;rw [Zeq];rfl) R k
theorem HdI.resize {h:Hd} {R:List RO} (H:HdI h R) {n:Nat} (hn:n<=512):HdI { h with size:=n } (cutR h.l h.newest n R) :=
 ⟨(H.img.resize hn).1,H.marks,H.marks.okH (h:={ h with size:=n }) hn H.ok.shape H.ok.next H.ok.seq H.ok.ids H.ok.sizes H.ok.names H.ok.diff,fun k hk=>by rw [Zpb,H.nz k hk];exact ZfY _ _ _ _⟩
theorem HdI.roll {h:Hd} {R:List RO} (H:HdI h R) {m:Mk} (hm:m ∈ h.marks):HdI { h with size:=m.size } (backR h.newest m.id R) :=
 ⟨(H.img.roll hm).1,H.marks,H.marks.okH (h:={ h with size:=m.size }) (H.ok.sizes m hm) H.ok.shape H.ok.next H.ok.seq H.ok.ids H.ok.sizes H.ok.names H.ok.diff,fun k hk=>by rw [ZnO,H.nz k hk];unfold backO;rw [Zeq];rfl⟩
theorem Zkk {ids:List Int} {R:List RO} {k:Nat} (h:objAt R k=noRO):objAt (Za1 ids R) k=noRO:=by rw [Zef,h];rfl
theorem HdI.tidied {h:Hd} {R:List RO} (H:HdI h R):HdI h (Za1 h.ids R):=by
 have:=(H.img.fewer (ms:=h.marks) (List.Sublist.refl _) fun m hm=>⟨m,hm,rfl,rfl⟩).1;exact ⟨this,H.marks,H.ok,fun k hk=>Zkk (H.nz k hk)⟩
theorem ZqX {ms:List Mk} (hi:Inc (ms.map (·.id))) {a b:Mk} (ha:a ∈ ms) (hb:b ∈ ms) (e:a.id=b.id):a=b:=by
 obtain ⟨i,hi1,rfl⟩:=List.getElem_of_mem ha;obtain ⟨j,hj1,rfl⟩:=List.getElem_of_mem hb;have key:∀ {i j:Nat} (h1:i<ms.length) (h2:j<ms.length),i<j->ms[i].id<ms[j].id:=fun {i j} h1 h2 hij=>by
  have:=Zia.1 hi i j (by rw [ZE];exact h1) (by rw [ZE];exact h2) hij;simpa using this
 rcases Nat.lt_trichotomy i j with q|q|q
 ·have:=key hi1 hj1 q;omega
 ·subst q;rfl
 ·have:=key hj1 hi1 q;omega
theorem HdI.unsnap {h:Hd} {R:List RO} (H:HdI h R) {m:Mk} (hm:m ∈ h.seen):HdI { h with marks:=ZaC h.marks m.id } (Za1 ((ZaC h.marks m.id).map (·.id)) R):=by
 obtain ⟨i,hi⟩:=Zc8 hm;obtain ⟨h1,h2,h3⟩:=ZeK (Zcv h.marks m.id) m.id h.marks;have hseen:∀ x ∈ h.marks,x.id=m.id->x.seen=true:=fun x hx e=>by
  rw [ZqX H.ok.inc hx (ZcH hm) e];exact (Z1.1 hm).2
 have hM:=H.marks.without (id:=m.id) hseen;have hmem:∀ x ∈ ZaC h.marks m.id,(1<=x.id∧x.id<h.next)∧x.size<=512∧ZcO x:=fun x hx=>by
  rcases ZeL hx with ⟨q,_⟩|⟨_,z,hz,e,rfl⟩
  ·exact ⟨H.ok.ids x q,H.ok.sizes x q,H.ok.names x q⟩
  ·refine ⟨H.ok.ids z hz,H.ok.sizes z hz,.inr ?_⟩;have hs:=hseen z hz e;unfold Mk.seen at hs;rw [Zak,Zgr,Zgr] at hs;rcases H.ok.names z hz with q|q
   ·rw [hs.2] at q;cases q.1
   ·exact q
 refine ⟨(ZiU H.img hi).1,hM,hM.okH (h:={ h with marks:=ZaC h.marks m.id }) H.ok.size H.ok.shape H.ok.next H.ok.seq (fun x hx=>(hmem x hx).1) (fun x hx=>(hmem x hx).2.1) (fun x hx=>(hmem x hx).2.2) ?_,fun k hk=>Zkk (H.nz k hk)⟩;show (((ZaC h.marks m.id).filter Mk.seen).map (·.name)).Nodup;have h3:(ZaC h.marks m.id).filter Mk.seen=h.seen.filter fun x=>decide (x.id≠m.id):=h3;rw [h3];exact List.Pairwise.sublist (List.filter_sublist.map _) H.ok.diff
theorem ZhX {l:Ly} {f:List RO->Ext->List RO} (hf:∀ R e k,k≠e.obj->objAt (f R e) k=objAt R k):∀ {es:List Ext} {R:List RO},(∀ e ∈ es,ZI l 512 e.obj≠0)->(∀ k,ZI l 512 k=0->objAt R k=noRO)->∀ k,ZI l 512 k=0->objAt (es.foldl f R) k=noRO
 | [],_,_,h,k,hk=>h k hk
 | e::es,R,he,h,k,hk=>by
  refine ZhX hf (es:=es) (R:=f R e) (fun x hx=>he x (Z8 _ hx)) (fun j hj=>?_) k hk;rw [hf R e j fun q=>he e (Z0 ..) (q ▸ hj)];exact h j hj
theorem ZiD {R:List RO} {i k:Nat} {o:RO} (h:k≠i):objAt (R.set i o) k=objAt R k:=by
 unfold objAt;rw [List.getElem?_set_ne (by omega)]
theorem Within.nz {h:Hd} (H:h.Ok) {e:Ext} (w:Within h e):ZI h.l 512 e.obj≠0:=by
 have h1:=w.one;have h2:=w.last;have h3:=Zjg H.shape H.size e.obj;omega
theorem HdI.plain {h:Hd} {R:List RO} (H:HdI h R) {e:Ev} (hr:ZU e=true) (hk:e.kind=1∨e.kind=2∨e.kind=3) {off n:Nat} (ho:(spanE e).1=off) (hn:(spanE e).2=n) (hin:off+n<=h.size) {es:List Ext} (c:Cover h.l off n es) :
  HdI h (es.foldl (Zbt h.l h.size h.newest e es) R)∧viewI h (es.foldl (Zbt h.l h.size h.newest e es) R)=Zaj (viewI h R) e:=by
 have hw:=fun x hx=>(c.within H.ok.shape H.ok.size hin x hx).1;have hs:=Zdl hr hk;have hnz:∀ x ∈ es,ZI h.l 512 x.obj≠0:=fun x hx=>(hw x hx).nz H.ok;unfold Zbt Zaj;unfold spanE at ho hn hs;by_cases k1:e.kind=1
 ·rw [Zb k1,Zb k1];rw [Zb k1] at ho hn hs;simp only at ho hn hs;have e1:e.data.length=n:=by omega
  have e2:e.off.toNat=off:=by omega
  subst e1;rw [e2];have:=ZiR H.img c hin;refine ⟨⟨this.1,H.marks,H.ok,ZhX (fun R e k hk=>ZiD hk) hnz H.nz⟩,Znp H.img c hin fun q=>?_⟩;rw [q] at hs;simp at hs
 ·rw [Za k1,Za k1,Zb (by omega)];rw [Za k1] at ho hn hs;simp only at ho hn hs;have e1:e.len.toNat=n:=by omega
  have e2:e.off.toNat=off:=by omega
  rw [e1,e2];have hww:∀ x ∈ es,(fun x:Ext=>decide (e.kind=2∧sumOf x.obj es=ZI h.l h.size x.obj)) x=true->∀ y,y<h.size->(ZB h.l y).1=x.obj->off<=y∧y<off+n:=fun x _ q=>by
   rw [Ze] at q;exact Zo8 H.ok.shape c hin q.2
  have:=ZiS H.img c hin hww;exact ⟨⟨this.1,H.marks,H.ok,ZhX (fun R e k hk=>ZiD hk) hnz H.nz⟩,Znq H.img c hin (by omega) hww⟩
def ZaG (h:Hd) (e:Ev) (seq:Int):Hd :=
 if e.kind=4 then { h with seq:=max h.seq seq,size:=e.len.toNat }
 else if e.kind=5 then snapH { h with seq:=max h.seq seq } e.name
 else if e.kind=6 then { h with seq:=max h.seq seq,marks:=ZaC h.marks (((findM h e.name).map (·.id)).getD 0) }
 else { h with seq:=max h.seq seq,size:=((findM h e.name).map (·.size)).getD 0 }
def ZbE (h:Hd) (e:Ev) (R:List RO):List RO :=
 if e.kind=4 then cutR h.l h.newest e.len.toNat R
 else if e.kind=5 then R
 else if e.kind=6 then Za1 ((ZaC h.marks (((findM h e.name).map (·.id)).getD 0)).map (·.id)) R
 else backR h.newest (((findM h e.name).map (·.id)).getD 0) R
theorem ZqN {h:Hd} {R:List RO} {i:Nat} {m:Mk} (hi:h.seen[i]?=some m):(viewI h R).snaps[i]?=some (m.name,Zag h.l R m.id m.size):=by
 show (h.seen.map _)[i]?=_;rw [ZaN,hi];rfl
theorem HdI.great {h:Hd} {R:List RO} (H:HdI h R) {e:Ev} (hk:e.kind=4∨e.kind=5∨e.kind=6∨e.kind=7) (hc:ZJ (viewI h R) e=0) {seq:Int} (h0:0<=seq) (h1:seq<=1099511627776) (hx:h.next<1073741824) :
  HdI (ZaG h e seq) (ZbE h e R)∧viewI (ZaG h e seq) (ZbE h e R)=Zaj (viewI h R) e:=by
 have hsq:=H.ok.seq;have H1:=H.seq (s:=max h.seq seq) (by omega) (by omega);have hr:ZU e=true:=by
  cases q:ZU e with
  | true=>rfl
  | false=>unfold ZJ at hc;rw [Zb q] at hc;cases hc
 have hi:=(Zbl e).1 hr;unfold ZJ at hc;rw [Za (by rw [hr];simp),Za (by omega)] at hc;unfold ZaG ZbE Zaj;rw [Za (show ¬ e.kind=1 by omega),Za (show ¬ (e.kind=2∨e.kind=3) by omega)];by_cases k4:e.kind=4
 ·simp only [Zb k4];have h5:0<=e.len∧e.len<=512:=by grind
  exact ⟨H1.resize (n:=e.len.toNat) (by omega),ZmD H1.img (n:=e.len.toNat) (by omega)⟩
 simp only [Za k4];by_cases k5:e.kind=5
 ·simp only [Zb k5];rw [Zb k5] at hc;have hn:nameB e.name=true:=by
   rcases hi with q|q|q|q|q
   ·omega
   ·omega
   ·omega
   ·exact q.2.2.2.2
   ·omega
  have hfv:(findV (viewI h R) e.name).isSome=false:=by
   cases q:(findV (viewI h R) e.name).isSome with
   | false=>rfl
   | true=>rw [Zb q] at hc;cases hc
  have hf:findM h e.name=none:=by
   rcases Zf0 h R e.name with q|⟨m,i,q1,q2,q3⟩
   ·exact q.1
   ·rw [q2] at hfv;cases hfv
  rw [Za (by rw [hfv];simp)] at hc;have h8:h.seen.length<8:=by
   have:(viewI h R).snaps.length=h.seen.length:=by
    show (h.seen.map _).length=_;rw [ZE]
   rw [this] at hc;by_cases q:8<=h.seen.length
   ·rw [Zb q] at hc;cases hc
   ·omega
  exact ⟨H1.snap hn hx hf h8,ZoL H1.img (Zi1 hn)⟩
 simp only [Za k5];rw [Za k5,Zb (by omega)] at hc;have hfv:(findV (viewI h R) e.name).isSome=true:=by
  cases q:(findV (viewI h R) e.name).isSome with
  | true=>rfl
  | false=>rw [Za (by rw [q];simp)] at hc;cases hc
 obtain ⟨m,i,q1,q2,q3⟩:∃ m i,findM h e.name=some m∧findV (viewI h R) e.name=some i∧h.seen[i]?=some m:=by
  rcases Zf0 h R e.name with q|q
  ·rw [q.2] at hfv;cases hfv
  ·exact q
 rw [q1,q2];simp only [Zbb,ZeA];have hm:m ∈ h.seen:=Zay q3;by_cases k6:e.kind=6
 ·simp only [Zb k6];exact ⟨H1.unsnap hm,(ZiU H1.img q3).2⟩
 ·simp only [Za k6];rw [Zb (show e.kind=7 by omega),ZqN q3];exact ⟨H1.roll (ZcH hm),ZoM H1.img (ZcH hm)⟩
theorem HdI.new {size:Nat} {l:Ly} (hl:l.ok) (hs:size<=512):HdI (newH size l) newR :=
 ⟨ImgI.new hl hs,MarksI.new,MarksI.new.okH (h:=newH size l) hs hl ⟨Zck 1,(by decide:(1:Int)<=1073741824)⟩ ⟨Zck 0,(by decide:(0:Int)<=1099511627776)⟩ (fun m hm=>by cases hm) (fun m hm=>by cases hm) (fun m hm=>by cases hm) (by unfold Hd.seen newH;exact List.nodup_nil),fun k _=>Zep k⟩
end Go.Proofs.YtcbdghojlbpomaaGreat
