import Derived.Test.YtcbdghojlbpomaaGreatIF25
set_option linter.all false
set_option maxRecDepth 4000
set_option maxHeartbeats 8000000
open Go.RowKit
open Go.IntKind (i64 u64)
open Go.Value (int pointer slice)
open Go.Obj (cells)
namespace Go.Proofs.YtcbdghojlbpomaaGreat
open Tryz
open HP (pt mapOf)
variable {W w w':World} {I:Hp} {l:List HP}
theorem Cover.piece {l:Ly} {off n:Nat} {pre post:List Ext} {e:Ext} (h:Cover l off n (pre++e::post)):e.at_=(pre.flatMap Ext.items).length∧e.at_+e.len<=n∧∀ j,j<e.len->ZB l (off+(e.at_+j))=(e.obj,e.off+j):=by
 have h1:=h.one e (Zfj _ (Z0 ..));have hf:=h.flat;rw [ZcX,ZaJ] at hf;obtain ⟨t,ht⟩:∃ t,(pre.flatMap Ext.items).length=t:=⟨_,rfl⟩;have hlen:=congrArg List.length hf;simp only [ZA,ht,ZE,ZeE] at hlen;have hei:e.items.length=e.len:=by simp [Ext.items]
 rw [hei] at hlen;have key:∀ j,j<e.len->e.at_+j=t+j∧ZB l (off+(t+j))=(e.obj,e.off+j):=fun j hj=>by
  have hg:=congrArg (fun q=>q[t+j]?) hf;rw [ZdF (by omega),ht,Nat.add_sub_cancel_left,Zda (by rw [hei];exact hj),ZaN,Zdd (by omega)] at hg;unfold Ext.items at hg;rw [ZaN,Zdd hj] at hg;simp only [Zbb,Zah,Zba] at hg;obtain ⟨q1,q2,q3⟩:=hg;exact ⟨q3,by rw [q1,q2]⟩
 have h0:=(key 0 h1).1;refine ⟨by omega,by omega,fun j hj=>?_⟩;rw [show e.at_=t by omega];exact (key j hj).2
theorem Zo6 {l:Ly} {off n:Nat} {es:List Ext} (h:Cover l off n es):es.length<=n:=by
 have hl:=congrArg List.length h.flat;rw [ZE,ZeE] at hl;rw [<-hl];have key:∀ zs:List Ext,(∀ e ∈ zs,1<=e.len)->zs.length<=(zs.flatMap Ext.items).length:=fun zs=>by
  induction zs with
  | nil=>intro _;simp
  | cons a zs ih =>
   intro h1;have:=ih fun e he=>h1 e (Z8 _ he);have h2:=h1 a (Z0 ..);have h3:a.items.length=a.len:=by simp [Ext.items]
   rw [ZaJ,ZA,Zat];omega
 exact key es h.one
def partB (f:Nat->Int) (size t:Nat):List Int:=(List.range t).map f++List.replicate (size - t) 0
theorem Zhr {f:Nat->Int} {size t:Nat} (h:t<=size):(partB f size t).length=size:=by simp [partB];omega
theorem ZnI {f:Nat->Int} {size t k:Nat} (h:t+k<=size):(partB f size t).take t++(List.range k).map (fun j=>f (t+j))++(partB f size t).drop (t+k)=partB f size (t+k):=by
 unfold partB;rw [Zez (by simp),List.drop_append,ZE,ZeE,ZcS (by simp),ZP,List.drop_replicate,List.range_add,Z4,ZdD,show size - t - (t+k - t)=size - (t+k) by omega];rfl
section
variable {p q : Nat} {S : Str}
theorem Zo7 (l:Ly) (hl:l.ok) (w:World):Calls prog 146 #[l.val,int i64 0,int i64 0] w fun e w'=>e=.returned (slice none 0 0)∧Below w.heap.size w w':=by
 have hs:=ZdS hl;obtain ⟨o,u,c⟩:=l;have hsp:=ZdQ (o:Int) u c;rw [hs] at hsp;have HS:=Zh hsp;have h0:=(St.init w).alloc (cells #[int i64 o,int i64 u,int i64 c] 30);have H0:=Zh h0;simp only [Ly.val] at *;clear hsp hs h0 hl;go_enter func146,ntmps146;go_wp2_with fail;refine (HS.o _).mono ?_;rintro e w2 ⟨rfl,hb2⟩;have h2:=H0.o.keep hb2;go_wp2;go_ret;exact ⟨rfl,h2.below⟩
def ZhZ (S:Str) (R:List RO) (snap:Int):Prop:=∀ o off n:Nat,o<every->off+n<=64->ZbO S 0 o snap off n=((List.range n).map fun j=>byteO (objAt R o) snap (off+j),0)
theorem ZmL (h:Hd) (hl:h.l.ok) (R:List RO) (snap:Int) (size:Nat) (hsz:size<=512) {m:Nat} (hs:St W I w (Zd p S::imgHP q p h::l)) (hk:Inv S m) (hR:ZhZ S R snap) :
  Calls prog 82 #[pointer (some ⟨q,0,none⟩),int i64 snap,int i64 size] w fun e w'=>∃ I' v,I.sub I'∧e=.returned (.tuple #[v,int i64 0])∧Zw I' v (Zag h.l R snap size)∧St W I' w' (Zd p S::imgHP q p h::l):=by
 obtain ⟨v0,hv0,h1⟩:=(hs.pull 1 _ rfl).img_open;have a:=Zz h1;have c3:=a.c3;have c4:=a.c4;have c5:=a.c5;have lt0:q<w.heap.size:=h1.lt;have hmk:=Ze4 size (by omega) w;have h2:=hs.alloc (cells (zeroA size) 5);have e0:zeroA size=((partB (byteR h.l R snap) size 0).map byteV).toArray:=by
  unfold partB zeroA;simp [byteV]
 rw [e0] at h2 hmk;have H2:=Zh h2;have HK:=Zh hk;have HR:=Zh hR;have HL:=Zh hl;have hX:Zag h.l R snap size=partB (byteR h.l R snap) size size:=by unfold Zag partB;simp
 have HX:=Zh hX;rcases Zbf size with hz|hz
 ·subst hz;rw [show ((0:Nat):Int)=0 from rfl] at hmk;obtain ⟨L,hL⟩:∃ L,h.l=L:=⟨_,rfl⟩;rw [hL] at HX H2 hmk;have HM0:=Zh (Zo7 h.l hl (w.alloc (cells ((partB (byteR L R snap) 0 0).map byteV).toArray 5)));have HHL:=Zh hL;obtain ⟨sz,⟨o,u,cn⟩,nx,sq,ms⟩:=h;simp only [Ly.val] at HM0 c3 c4 c5;clear hs hk hR hl hX h1 a h2 e0 hv0 hL;go_enter func82,ntmps82;go_wp2_with fail;refine HM0.o.mono ?_;rintro e w2 ⟨rfl,hb2⟩;have h3:=H2.o.keep hb2;obtain ⟨I5,hs5,hb5,h5⟩:=Zc2 (Zhr (Z9 _)) (by omega) h3;rw [<-HX.o] at hb5;have HB5:=Zh hb5;have H5:=Zh h5;have HS5:=Zh hs5;clear h3 hb2 hs5 hb5 h5;go_wp2;go_loopw [23] (fun a23 wr=>a23=int i64 0∧wr=w2) (fun _ _=>0);case atStart=>exact ⟨rfl,rfl⟩
  case round =>
   obtain ⟨rfl,rfl⟩:=hrel;have d0:decide ((0:Int)<0)=false:=by decide
   go_wp2;go_ret2;refine ⟨I5,_,HS5.o,rfl,?_,H5.o⟩;rw [HHL.o];exact HB5.o
 ·have HMP:=Zh (ZkX h.l hl 0 size hz (by omega) (w.alloc (cells ((partB (byteR h.l R snap) size 0).map byteV).toArray 5)));clear hs hk hR hl hX h1 a h2 e0 hv0;obtain ⟨L,hL⟩:∃ L,h.l=L:=⟨_,rfl⟩;rw [hL] at HX HMP H2 hmk;have HHL:=Zh hL;clear hL;obtain ⟨sz,⟨o,u,cn⟩,nx,sq,ms⟩:=h;simp only at HHL c3 c4 c5;have HM2:=HMP.o;rw [<-HHL.o] at HM2;simp only [Ly.val] at HM2;rw [HHL.o] at HM2;have HMP:=Zh HM2;clear HM2;go_enter func82,ntmps82;go_wp2_with fail;refine HMP.o.mono ?_;rintro e w2 ⟨es,A2,cc,rfl,hcov,hm2,_⟩;obtain ⟨I3,hs3,hr3,h3⟩:=(H2.o.row_fresh hm2.below hm2.row_new).freeze_row;have hel:es.length<=512:=by
   have:=Zo6 hcov;omega
  have HCOV:=Zh hcov;have HR3:=Zh hr3;have H3:=Zh h3;have HS3:=Zh hs3;obtain ⟨g,hg⟩:∃ g,w.heap.size=g:=⟨_,rfl⟩;rw [hg] at H3 |-;have hLok:L.ok:=by rw [<-HHL.o];exact HL.o
  have HLO:=Zh hLok;clear hcov hr3 h3 hs3 hm2 hg H2 HMP c3 c4 c5 lt0 hmk HL hLok;go_wp2;go_loopw [23] (fun a23 wr=>∃ (i t:Nat) (I':Hp),a23=int i64 i∧i<=es.length∧t=((es.take i).flatMap Ext.items).length∧I3.sub I'∧St W I' wr (pt g (cells ((partB (byteR L R snap) size t).map byteV).toArray 5)::Zd p S::imgHP q p (⟨sz,⟨o,u,cn⟩,nx,sq,ms⟩:Hd)::l)) (fun a23 _=>es.length - (intOf a23).toNat);case atStart=>exact ⟨0,0,I3,rfl,by omega,rfl,Hp.sub.refl _,H3.o⟩
  case round =>
   obtain ⟨i,t,I4,rfl,hi,ht,hs4,hst⟩:=hrel;by_cases hlt:i<es.length
   ·have d0:decide ((i:Int)<(es.length:Int))=true:=by rw [Ze];omega
    obtain ⟨e,he⟩:∃ e,es[i]?=some e:=⟨_,ZL hlt⟩;have hsplit:es=es.take i++e::es.drop (i+1):=by
     obtain ⟨hil,hee⟩:=ZS.1 he;rw [<-hee,<-ZdI hil,ZdH]
    have hco:=HCOV.o;rw [hsplit] at hco;obtain ⟨k1,k2,k3⟩:=hco.piece;have k4:=ZgT HLO.o HCOV.o (Zay he);have k5:=HCOV.o.one e (Zay he);rw [<-ht] at k1;obtain ⟨b,off,e1,hc⟩:=ZbJ (i:=i) (mk:=Ext.vals) (k:=4) (RowI.mono hs4 HR3.o) (Hp.sub.refl _) hst (fun _=>rfl) he;simp only [ZF,Zae,ZK] at e1;subst e1;have htk:((es.take (i+1)).flatMap Ext.items).length=t+e.len:=by
     obtain ⟨hil,hee⟩:=ZS.1 he;rw [ZbG hil,ZcX,ZA,<-ht,hee];simp [Ext.items]
    have kp:=k3 0 k5;have k6:e.obj<every:=by
     have:=Zfx HLO.o (x:=0+(e.at_+0)) (by omega);rw [kp] at this;exact this
    have hcr:=HR.o e.obj e.off e.len k6 k4;have hpc:((List.range e.len).map fun j=>byteO (objAt R e.obj) snap (e.off+j))=(List.range e.len).map fun j=>byteR L R snap (t+j):=by
     refine ZeD fun j hj=>?_;have:=k3 j (Za8.1 hj);unfold byteR;rw [<-k1,<-Zar (e.at_+j),this]
    rw [hpc] at hcr;obtain ⟨eo,ef,el,ea⟩:=e;simp only at k1 k2 k4 k5 k6 hcr htk;subst k1;have y0:=hc 0 (by omega);have y1:=hc 1 (by omega);have y2:=hc 2 (by omega);have y3:=hc 3 (by omega);simp only [Ext.vals,Zg,Zi,Zbg] at y0 y1 y2 y3;have HST:=Zh (hst.alloc (cells #[int i64 eo,int i64 ef,int i64 el,int i64 ea] 186));obtain ⟨g5,hg5⟩:∃ g,wr.heap.size=g:=⟨_,rfl⟩;rw [hg5] at HST;have HG5:=Zh hg5;have HTK:=Zh htk;have HCR:=Zh hcr;have HT:=Zh ht;have HS4:=Zh hs4;have hin:(i:Int)<(es.length:Int):=by omega
    clear hc he hsplit hco k3 hst htk hcr hpc kp hg5 ht hs4;go_upto_region 5 with fail;have h5:=HST.o;rw [HG5.o];generalize (World.alloc _ _:World)=w5 at h5 |-;clear y0 y1 y2 y3 HST;obtain ⟨x0,x1,x2,x3⟩:=ZX h5;obtain ⟨v5,_,h5i⟩:=(h5.pull 3 _ rfl).img_open;have z0:=(Zz h5i).c0;have z1:=(Zz h5i).c1;have HCL:=Zh (ZnE 0 eo snap ef el (h5.drew.pull 2 _ rfl) HK.o);rw [HCR.o] at HCL;obtain ⟨P,hP⟩:∃ P,((List.range el).map fun j=>byteR L R snap (ea+j))=P:=⟨_,rfl⟩;have hPl:P.length=el:=by rw [<-hP];simp
    rw [hP] at HCL;have HPP:=Zh hP;have HPL:=Zh hPl;clear hP hPl;clear h5 h5i;refine ZcY (fun w'=>w'.cell? ⟨q,0,none⟩=some (pointer (some ⟨p,0,none⟩))∧w'.cell? ⟨q,1,none⟩=some (int i64 0)∧w'.cell? ⟨g5,0,none⟩=some (int i64 eo)∧w'.cell? ⟨g5,1,none⟩=some (int i64 ef)∧w'.cell? ⟨g5,2,none⟩=some (int i64 el)) [0,1,2,3,4,5,6,7,8,9,10,11,12,13,14,15,16,17,18,19] (Tp.pull [0,1,2,3,4,5,6,7,8,9,10,11,12,13,14] (Tp.one 15 (Tp.pull [16,17,18,19] Tp.leaf))) [20] (by kernel_rfl) (by kernel_rfl) (by (exact ⟨z0,z1,x0,x1,x2⟩)) ?_;unfold wpTp
    (try simp only [pickL,Zg,Zi])
    repeat (first|refine Zs _ (Or.inl ⟨by rfl,by (intro w hSw;(try dsimp only at hSw);go_simp;try with_reducible rfl)⟩) ?_|refine Zs _ (Or.inr ⟨by rfl,rfl⟩) ?_|fail);(try go_frame)
    refine ZC ?_;unfold wpTp
    (try simp only [pickL,Zg,Zi])
    go_wp2_with fail;refine HCL.o.mono ?_;rintro e w6 ⟨v6,I6,hs6,rfl,hb6,h6⟩;obtain ⟨A6,c6,rfl,hc6⟩:=RowI.cap hb6;obtain ⟨y0,y1,y2,y3⟩:=ZX (h6.pull 1 _ rfl);obtain ⟨v6,_,h6i⟩:=(h6.pull 3 _ rfl).img_open;have q0:=(Zz h6i).c0;have q1:=(Zz h6i).c1;have hsr:=ZbT h6 hb6;obtain ⟨b6,o6,e6,hc6⟩:∃ b6 o6,A6=some ⟨b6,o6,none⟩∧∀ j u,(P.map byteV)[j]?=some u->w6.cell? ⟨b6,o6+j,none⟩=some u:=by
     obtain ⟨A1,c1,e,hsr,_⟩:=hsr;simp only [ZF,ZK] at e;obtain ⟨rfl,rfl⟩:=e;obtain ⟨g,o,rfl,hlt,hcc⟩:=Zer hsr (by have:=HPL.o;omega);exact ⟨g,o,rfl,hcc⟩
    subst e6;have hdl:(partB (byteR L R snap) size ea).length=size:=Zhr (by omega);obtain ⟨w7,hr7,hsz7,h7⟩:=(h6.pull 2 _ rfl).copy_run (P:=prog) (o:=ea) (dLen:=size - ea) (dCap:=size - ea) (sLen:=P.length) (sCap:=c6) (n:=P.length) (a:=⟨b6,o6,none⟩) (dT:=32) (sT:=32) (ty:=3) (cs:=P.map byteV) underlying32 (size:=1) (by kernel_rfl) (by have:=HPL.o;exact Zex (by omega)) (by simp) (fun j v hv=>by rw [add_plain];exact hc6 j v hv) (by have:=HPL.o;simp;omega) (Zac P);have e7:((partB (byteR L R snap) size ea).map byteV).toArray.toList.take ea++P.map byteV++((partB (byteR L R snap) size ea).map byteV).toArray.toList.drop (ea+(P.map byteV).length)=(partB (byteR L R snap) size (ea+el)).map byteV:=by
     rw [ZE,HPL.o,<-ZnI (f:=byteR L R snap) (t:=ea) (k:=el) (by omega),<-HPP.o];simp only [Z4,ZcR,Zdb]
    rw [e7] at h7;have H7:=Zh ((h7.pull 2 _ rfl).drop);have HR7:=Zh hr7;have HS6:=Zh (HS4.o.trans hs6);have b1:(ea:Int)<=(size:Int):=by omega
    have b2:¬ (size - ea=0):=by omega
    have hwz:(size:Int) - (ea:Int)=((size - ea:Nat):Int):=by omega
    clear h6 h6i hsr h7 e7 hsz7 hr7 hdl hc6 hs6 hb6 x0 x1 x2 x3 z0 z1;go_wp2;refine Zt ⟨q0,q1,y0,y1,y2⟩ ?_;unfold wpTp
    (try simp only [pickL,Zg,Zi])
    repeat (first|refine Zs _ (Or.inl ⟨by rfl,by (intro w hSw;(try dsimp only at hSw);go_simp;try with_reducible rfl)⟩) ?_|refine Zs _ (Or.inr ⟨by rfl,rfl⟩) ?_|fail);(try go_frame)
    refine ZC ?_;unfold wpTp
    (try simp only [pickL,Zg,Zi])
    go_wp2;refine Zu ?_;have hr7:=HR7.o;go_wp2;go_roundw;case rel=>exact ⟨i+1,ea+el,I6,by go_num,by omega,HTK.o.symm,HS6.o,H7.o⟩
    case measure=>simp [intOf]<;>omega
   ·obtain rfl:i=es.length:=by omega
    have d0:decide (((es.length:Nat):Int)<(es.length:Int))=false:=by rw [Zk];omega
    rw [Zbk] at ht;have hts:t=size:=by rw [ht,HCOV.o.flat];simp
    rw [hts] at hst;obtain ⟨I5,hs5,hb5,h5⟩:=Zc2 (Zhr (Z9 _)) (by omega) hst;rw [<-HX.o] at hb5;have HB5:=Zh hb5;have H5:=Zh h5;have HS5:=Zh (HS3.o.trans (hs4.trans hs5));clear hb5 h5 hs5 hs4 ht hts hst;go_wp2;go_ret2;refine ⟨I5,_,HS5.o,rfl,?_,H5.o⟩;rw [HHL.o];exact HB5.o
end
def RecAt (S:Str) (h:Hd) (roll:Int):Prop:=∃ t,get recK S.seen=some t∧get nmH t.attr=some (varB roll++recH h)
structure MidI (ids:List Int) (next newest:Int) (R:List RO):Prop where
 len:R.length=every
 objs:∀ k,CopyI ids next (objAt R k)
 idk:IdsI ids newest
 lt:newest<next
 top:next<=1073741824
 few:ids.length<=17
theorem MidI.uok {ids:List Int} {next newest:Int} {R:List RO} (h:MidI ids next newest R):UOK (univI newest R):=ZpR h.len h.objs h.idk h.lt h.top h.idk h.few
theorem MidI.set {ids:List Int} {next newest:Int} {R:List RO} (h:MidI ids next newest R) {k:Nat} (hk:k<every) {o':RO} (c:Chg newest (objAt R k) o'):MidI ids next newest (R.set k o'):=by
 refine ⟨by rw [Zde];exact h.len,fun j=>?_,h.idk,h.lt,h.top,h.few⟩;rw [Zdu (by rw [h.len];exact hk)];split
 ·exact c.copy (h.objs k) h.idk h.lt
 ·exact h.objs j
theorem ZgC:∀ {l:List DStep} {V:K4->Option TS},(∀ s ∈ l,Zem s)->∀ k:K4,k.kind≠4->ZaR l V k=V k
 | [],_,_,_,_=>rfl
 | s::l,V,h,k,hk=>by
  have h1:=h s (Z0 ..);cases s with
  | deed k2 d =>
   have h1:k2.kind=4:=h1;refine (ZgC (l:=l) (fun t ht=>h t (Z8 _ ht)) k hk).trans ?_;show (if k=k2 then _ else V k)=V k;rw [Za (fun e=>hk (by rw [e];exact h1))]
  | bar=>exact ZgC (l:=l) (fun t ht=>h t (Z8 _ ht)) k hk
theorem Zk1 {U:List K4} {S:Str} (hU:UOK U) (h:Live U S) (hc:S.armed=false) {a:A17} (ha:a.what=5∨Fine U 0 a):get recK (oursS S 0 a).2.seen=get recK S.seen:=by
 obtain ⟨_,_,_,h4⟩:=ZeZ hU h hc ha;have:=congrFun h4 recK;rw [ZgC (ZoH _ _ _ _) recK (by decide)] at this;exact this
theorem IStore.one {S:Str} {R:List RO} {ids:List Int} {next:Int} {a:A17} {k:Nat} (H:IStore S a.newest R) (M:MidI ids next a.newest R) (hk:k<every) (hn:a.num=k) (h5:a.what≠5) (hs2:a.what=4->snapB a.snap=true)
  (span:(a.what=0->ZG a.off a.p.length=true)∧(a.what=1->ZG a.off a.n=true)∧(a.what=2->ZG 0 a.n=true)∧(a.what=3->ZG 0 a.p.length=true)) :
  (oursS S 0 a).1=0∧IStore (oursS S 0 a).2 a.newest (R.set k (actO (objAt R k) a))∧MidI ids next a.newest (R.set k (actO (objAt R k) a))∧get recK (oursS S 0 a).2.seen=get recK S.seen:=by
 have M2:=M.set hk (Zld (objAt R k) (a:=a));have hsn:snapB a.newest=true:=by
  have h1:=M.idk.nneg;have h2:=M.lt;have h3:=M.top;unfold snapB;rw [Ze];omega
 obtain ⟨h1,h2⟩:=H.act M.uok M2.uok M.len hk hn h5 hsn hs2 span;have hk':k<R.length:=by rw [M.len];exact hk
 have hf:Fine (univI a.newest R) 0 a:=by
  refine ⟨?_,hsn,hs2,span,?_,fun _=>?_⟩
  ·unfold objB every at *;rw [Ze];omega
  ·rw [hn];exact ZpQ.2 (.inr ⟨k,hk',.inl rfl⟩)
  ·rw [hn];exact ZpQ.2 (.inr ⟨k,hk',.inr (.inl rfl)⟩)
 exact ⟨h1,h2,M2,Zk1 M.uok H.live H.calm (.inr hf)⟩
structure OneStep (r:Int × Str) (S:Str) (ids:List Int) (next newest:Int) (R':List RO):Prop where
 done:r.1=0
 st:IStore r.2 newest R'
 mid:MidI ids next newest R'
 recd:get recK r.2.seen=get recK S.seen
section
variable {S : Str} {R : List RO} {ids : List Int} {next newest : Int} {k : Nat}
def actV (what:Int) (num newest off n snap:Int) (p:List Int):A17:=⟨what,num,newest,off,n,snap,p,.bool false,[],.bool false⟩
theorem IStore.cut (H:IStore S newest R) (M:MidI ids next newest R) (hk:k<every) {n:Nat} (hn:n<=64):OneStep (ccutS S 0 k newest n) S ids next newest (R.set k (rcut (objAt R k) newest n)):=by
 have:=IStore.one (a:=actV 2 k newest 0 n 0 []) H M hk rfl (by simp [actV]) (fun h=>(by simp [actV] at h)) ⟨fun h=>(by simp [actV] at h),fun h=>(by simp [actV] at h),fun _=>(by unfold ZG actV;rw [Ze];simp only;omega),fun h=>(by simp [actV] at h)⟩;exact ⟨this.1,this.2.1,this.2.2.1,this.2.2.2⟩
theorem IStore.back (H:IStore S newest R) (M:MidI ids next newest R) (hk:k<every) {mark:Int} (h0:0<=mark) (h1:mark<=1073741824):OneStep (ZbY S 0 k newest mark) S ids next newest (R.set k (rback (objAt R k) newest mark)):=by
 have:=IStore.one (a:=actV 4 k newest 0 0 mark []) H M hk rfl (by simp [actV]) (fun _=>(by unfold snapB actV;rw [Ze];exact ⟨h0,h1⟩)) ⟨fun h=>(by simp [actV] at h),fun h=>(by simp [actV] at h),fun h=>(by simp [actV] at h),fun h=>(by simp [actV] at h)⟩;exact ⟨this.1,this.2.1,this.2.2.1,this.2.2.2⟩
theorem IStore.write (H:IStore S newest R) (M:MidI ids next newest R) (hk:k<every) {off:Nat} {p:List Int} (ho:off+p.length<=64):OneStep (ZbL S 0 k newest off p) S ids next newest (R.set k (Zdy (objAt R k) newest off p)):=by
 have:=IStore.one (a:=actV 0 k newest off 0 0 p) H M hk rfl (by simp [actV]) (fun h=>(by simp [actV] at h)) ⟨fun _=>(by unfold ZG actV;rw [Ze];simp only;omega),fun h=>(by simp [actV] at h),fun h=>(by simp [actV] at h),fun h=>(by simp [actV] at h)⟩;exact ⟨this.1,this.2.1,this.2.2.1,this.2.2.2⟩
theorem IStore.clear (H:IStore S newest R) (M:MidI ids next newest R) (hk:k<every) {off n:Nat} (ho:off+n<=64):OneStep (ZbC S 0 k newest off n) S ids next newest (R.set k (ZdW (objAt R k) newest off n)):=by
 have:=IStore.one (a:=actV 1 k newest off n 0 []) H M hk rfl (by simp [actV]) (fun h=>(by simp [actV] at h)) ⟨fun h=>(by simp [actV] at h),fun _=>(by unfold ZG actV;rw [Ze];simp only;omega),fun h=>(by simp [actV] at h),fun h=>(by simp [actV] at h)⟩;exact ⟨this.1,this.2.1,this.2.2.1,this.2.2.2⟩
theorem IStore.tell (H:IStore S newest R) (M:MidI ids next newest R) (hk:k<every) {snap:Int} (h0:0<=snap) (h1:snap<=1073741824) :
  Zct S 0 k snap=((ratR (objAt R k) snap).isSome,0)∧ZbP S 0 k snap=((((ratR (objAt R k) snap).getD []).length:Int),0)∧∀ off n,ZG off n=true->ZbO S 0 k snap off n=(padB ((ratR (objAt R k) snap).getD []) off.toNat n.toNat,0) :=
 ZhD M.uok H.live (H.sim k hk) (by unfold every at hk;omega) ⟨h0,h1⟩
theorem Zju (b:List Int) (off n:Nat):padB b off n=(List.range n).map fun j=>b.getD (off+j) 0:=by
 unfold padB;refine Zgp fun i=>?_;rw [ZaN,List.getElem?_append];by_cases hi:i<n
 ·rw [Zdd hi,Zbb,ZbF];by_cases h2:i<((b.drop off).take n).length
  ·rw [Zb h2,Zci,Zb hi,Zb9];simp only [ZN,Zas] at h2;rw [ZL (by omega)];rfl
  ·rw [Za h2];simp only [ZN,Zas] at h2 |-;rw [Zd9,Zb (by omega),Zb1 (by omega)];rfl
 ·rw [Zb1 (l:=List.range n) (by simp;omega)];simp only [Option.map_none];by_cases h2:i<((b.drop off).take n).length
  ·simp only [ZN,Zas] at h2;omega
  ·rw [Za h2];simp only [ZN,Zas] at h2 |-;rw [Zd9,Za (by omega)]
theorem IStore.reads (H:IStore S newest R) (M:MidI ids next newest R) {snap:Int} (h0:0<=snap) (h1:snap<=1073741824):ZhZ S R snap:=fun o off n ho hn=>by
 rw [(H.tell M ho h0 h1).2.2 off n (by unfold ZG;rw [Ze];omega),Zju];rfl
structure Barred (S S':Str) (newest:Int) (R:List RO):Prop where
 st:IStore S' newest R
 seen:S'.seen=S.seen
 dry:Dryed S'
theorem IStore.bar (H:IStore S newest R) (hU:UOK (univI newest R)):(Zr S).1=0∧Barred S (Zr S).2 newest R:=by
 obtain ⟨h1,h2,h3,h4,h5,h6⟩:=Ze1 H.live H.calm;have e:cview (Zr S).2 0=cview S 0:=by
  funext i n;show get _ _=get _ _;rw [h4]
 exact ⟨h1,⟨h2,h5.trans H.room,h3,fun j hj=>by rw [e];exact H.sim j hj,fun j hj n hn=>by rw [e];exact H.only j hj n hn⟩,h4,h6⟩
theorem Zlq {U:List K4} (hl:Live U S) {h:Hd} {roll:Int} (r:RecAt S h roll):IRec S h roll:=by
 obtain ⟨t,h1,h2⟩:=r;unfold IRec attrS;rw [hl.why (by decide),h1];simp only [Zdc,Zaw,h2]
theorem IStore.saveT (H:IStore S newest R) (M:MidI ids next newest R) {h:Hd} {roll:Int} {t:TS} (ht:get recK S.seen=some t) (hh:h.Ok) {ids':List Int} {next' newest':Int} (M':MidI ids' next' newest' R) :
  (saveH S h roll).1=0∧IStore (saveH S h roll).2 newest' R∧RecAt (saveH S h roll).2 h roll∧Dryed (saveH S h roll).2:=by
 have hlen:1<=(varB roll++recH h).length∧(varB roll++recH h).length<=600:=by
  have a:=Zcd roll;have b:=Zel hh;rw [ZA];omega
 obtain ⟨h1,h2,h3,h4,h5⟩:=H.live.setH M.uok H.calm (ZpQ.2 (.inl rfl)) ht hlen.1 hlen.2;obtain ⟨g1,g2,g3,g4,g5,g6⟩:=Ze1 h2 h3;have e:saveH S h roll=Zr (setS S recK nmH (varB roll++recH h)).2:=by
  unfold saveH;rw [Za (by rw [h1];decide)]
 rw [e];have ev:∀ k:K4,k.kind=4->get k (Zr (setS S recK nmH (varB roll++recH h)).2).2.seen=get k S.seen:=fun k hk=>by
  rw [g4,h5,Za (fun q=>by rw [q] at hk;exact absurd hk (by decide))]
 have ec:cview (Zr (setS S recK nmH (varB roll++recH h)).2).2 0=cview S 0:=by
  funext i n;exact ev _ rfl
 refine ⟨g1,IStore.of (ZkK M.len) g2 (g5.trans (h4.trans H.room)) g3 g6 M'.uok M'.len (fun j hj=>by rw [ec];exact H.sim j hj) (fun j hj n hn=>by rw [ec];exact H.only j hj n hn),⟨_,by rw [g4,h5,Zb rfl],?_⟩,g6⟩;simp only;exact ZdM
theorem IStore.save (H:IStore S newest R) (M:MidI ids next newest R) {h0 h:Hd} {r0 roll:Int} (hr:RecAt S h0 r0) (hh:h.Ok) {ids':List Int} {next' newest':Int} (M':MidI ids' next' newest' R) :
  (saveH S h roll).1=0∧IStore (saveH S h roll).2 newest' R∧RecAt (saveH S h roll).2 h roll∧Dryed (saveH S h roll).2:=by
 obtain ⟨t,ht,_⟩:=hr;exact H.saveT M ht hh M'
theorem IStore.tidied (H:IStore S newest R) (M:MidI ids next newest R) {ms:List Int} {ids':List Int} {next' newest':Int} (M':MidI ids' next' newest' (Za1 ms R)) :
  (tidyS S 0 ms).1=0∧(Zr (tidyS S 0 ms).2).1=0∧IStore (Zr (tidyS S 0 ms).2).2 newest' (Za1 ms R)∧get recK (Zr (tidyS S 0 ms).2).2.seen=get recK S.seen∧Dryed (Zr (tidyS S 0 ms).2).2:=by
 have hr:=Zk1 M.uok H.live H.calm (a:=⟨5,0,0,0,0,0,[],.bool false,ms,.bool false⟩) (.inl rfl);obtain ⟨h1,h2,h3,h4,h5,h6⟩:=H.tidy M.uok (a:=⟨5,0,0,0,0,0,[],.bool false,ms,.bool false⟩) rfl rfl;have eo:oursS S 0 ⟨5,0,0,0,0,0,[],.bool false,ms,.bool false⟩=tidyS S 0 ms:=rfl;rw [eo] at h1 h2 h3 h4 h5 h6 hr;obtain ⟨g1,g2,g3,g4,g5,g6⟩:=Ze1 h2 h3;have ec:cview (Zr (tidyS S 0 ms).2).2 0=cview (tidyS S 0 ms).2 0:=by
  funext i n;show get _ _=get _ _;rw [g4]
 refine ⟨h1,g1,IStore.of (ZkK M.len) g2 (g5.trans (h4.trans H.room)) g3 g6 M'.uok M'.len (fun j hj=>by rw [ec];exact h5 j hj) (fun j hj n hn=>by rw [ec];exact h6 j hj n hn),?_,g6⟩;rw [g4];exact hr
theorem IStore.fresh (H:IStore S newest R) (hU:UOK (univI newest R)) (hd:Dryed S) {m:Nat} (hk:Keeps S m):Keeps S 98000:=by
 have hm:∀ g,(Zj S g).length<=1500:=fun g=>by
  refine ZQ (Zhl (U:=univI newest R) (ZgH (H.live.inv.keys.rise g)) fun k hkk=>?_) hU.few;obtain ⟨t,ht⟩:=ZdK.1 ((H.live.inv.keys.mem g k).1 hkk).2;exact H.live.inv.getU ht
 have hl:=hd.late;have hc:∀ t,cowT t->t.small:=fun t ht=>⟨by have:=ht.1;omega,fun x hx=>by have:=ht.2.1 x hx;omega⟩;refine ⟨⟨H.live.inv.keys.rise,fun g=>by rw [hl];have:=hm g;simp only [ZaH];omega,fun x hx=>hc _ (H.live.inv.seen x hx).2,fun x hx=>hc _ (H.live.inv.dry x hx).2,fun x hx=>(by rw [hl] at hx;cases hx),fun x hx=>(by rw [hl] at hx;cases hx)⟩,hk.keep,hk.fuse,fun x hx=>(by rw [hl] at hx;cases hx)⟩
theorem IStore.keysLen (H:IStore S newest R) (hU:UOK (univI newest R)):(ZaQ S ⟨4,0⟩).length<=1500:=by
 have h1:(Zj S ⟨4,0⟩).length<=1500:=by
  refine ZQ (Zhl (U:=univI newest R) (ZgH (H.live.inv.keys.rise _)) fun k hkk=>?_) hU.few;obtain ⟨t,ht⟩:=ZdK.1 ((H.live.inv.keys.mem _ k).1 hkk).2;exact H.live.inv.getU ht
 unfold ZaQ;split <;> simp_all
end
structure IJ (S:Str) (h:Hd) (R:List RO):Prop where
 st:IStore S h.newest R
 img:ImgI h R
 marks:MarksI h.marks
 ok:h.Ok
 recd:RecAt S h 0
 nz:∀ k,ZI h.l 512 k=0->objAt R k=noRO
theorem ImgI.mid {h:Hd} {R:List RO} (H:ImgI h R) (ho:h.Ok):MidI h.ids h.next h.newest R:=⟨H.len,H.objs,H.ids,H.next,ho.next.2,by unfold Hd.ids;rw [ZE];exact ho.many⟩
theorem ZqI {R R':List RO} (hl:R.length=R'.length) (h:∀ k,objAt R k=objAt R' k):R=R':=by
 refine Zgp fun k=>?_;by_cases hk:k<R.length
 ·have:=h k;unfold objAt at this;rw [ZL hk,ZL (by omega)] at this |-;exact congrArg some this
 ·rw [Zb1 (by omega),Zb1 (by omega)]
theorem Zp7 (f:Nat->RO->RO) (R:List RO):(allO f R).length=R.length:=by simp [allO]
theorem Zha {l:Ly} (hl:l.ok) {n:Nat} (h:IsObjs l 512 n):n<=every:=by
 rcases h.top with e|⟨x,hx,e⟩
 ·omega
 ·have:=Zfx hl hx;omega
theorem Zk2 {l:Ly} (hl:l.ok) {n k:Nat} (h:IsObjs l 512 n) (hk:n<=k):ZI l 512 k=0:=by
 rcases (ZqH hl 512 k).top with e|⟨x,hx,e,_⟩
 ·exact e
 ·have:=h.all x hx;omega
structure AllAt (f:Nat->RO->RO) (S S':Str) (ids:List Int) (next newest:Int) (R R':List RO) (i:Nat):Prop where
 st:IStore S' newest R'
 mid:MidI ids next newest R'
 at_:∀ k,objAt R' k=if k<i then f k (objAt R k) else objAt R k
 recd:get recK S'.seen=get recK S.seen
section
variable {S S' : Str} {ids : List Int} {next newest : Int} {R R' : List RO} {i : Nat} {f : Nat -> RO -> RO}
theorem AllAt.start (H:IStore S newest R) (M:MidI ids next newest R):AllAt f S S ids next newest R R 0:=⟨H,M,fun k=>by rw [Za (by omega)],rfl⟩
theorem AllAt.idle (h:AllAt f S S' ids next newest R R' i) (e:f i (objAt R i)=objAt R i):AllAt f S S' ids next newest R R' (i+1) :=
 ⟨h.st,h.mid,fun k=>by
  rw [h.at_];by_cases hk:k<i
  ·rw [Zb hk,Zb (by omega)]
  ·rw [Za hk];by_cases hk2:k=i
   ·subst hk2;rw [Zb (by omega),e]
   ·rw [Za (by omega)],h.recd⟩
theorem AllAt.step (h:AllAt f S S' ids next newest R R' i) (hi:i<every) {r:Int × Str} {o':RO} (c:OneStep r S' ids next newest (R'.set i o')) (e:f i (objAt R i)=o'):AllAt f S r.2 ids next newest R (R'.set i o') (i+1) :=
 ⟨c.st,c.mid,fun k=>by
  rw [Zdu (by rw [h.mid.len];exact hi)];by_cases hk2:k=i
  ·subst hk2;rw [Zb rfl,Zb (by omega),e]
  ·rw [Za hk2,h.at_];by_cases hk:k<i
   ·rw [Zb hk,Zb (by omega)]
   ·rw [Za hk,Za (by omega)],c.recd.trans h.recd⟩
theorem AllAt.done (h:AllAt f S S' ids next newest R R' i) (hl:R.length=every) (hf:∀ k,f k noRO=noRO) (ho:∀ k,i<=k->f k (objAt R k)=objAt R k):R'=allO f R :=
 ZqI (by rw [Zp7,h.mid.len,hl]) fun k=>by
  rw [h.at_,Zeh f hf];split
  ·rfl
  ·rw [ho k (by omega)]
theorem AllAt.now (h:AllAt f S S' ids next newest R R' i):objAt R' i=objAt R i:=by rw [h.at_,Za (by omega)]
end
theorem Zk3 {l:Ly} {newest:Int} {n k:Nat} {o:RO} (h:(o.h.getD []).length<=ZI l n k):cutO l newest n k o=o:=by
 unfold cutO;rw [Za (by omega)]
theorem ZqJ {l:Ly} {newest:Int} {n k:Nat} {o:RO} (h:ZI l n k<(o.h.getD []).length):cutO l newest n k o=rcut o newest (ZI l n k):=by
 unfold cutO;rw [Zb h]
theorem ZqK {l:Ly} (hl:l.ok) (n k:Nat):ZI l n k<=64:=by
 have h1:=ZhE l n k;have h2:2 ^ l.order<=2 ^ 6:=Zgw (by omega) hl.o2;omega
def sumOf (k:Nat) (es:List Ext):Nat:=((es.filter fun e=>decide (e.obj=k)).map (·.len)).sum
def insOf (k:Nat) (es:List Ext):List Nat:=((es.flatMap Ext.items).filter fun t=>decide (t.1=k)).map fun t=>t.2.1
theorem Zhs (k:Nat):∀ es:List Ext,(insOf k es).length=sumOf k es
 | []=>rfl
 | e::es=>by
  have ih:=Zhs k es;unfold insOf sumOf at ih |-;rw [ZaJ,Zca,Z4,ZA,ih,ZaM];by_cases he:e.obj=k
  ·rw [Zb (by simpa using he),Zav,Zd1];congr 1
   rw [Zcy.2 fun t ht=>by
    obtain ⟨o,i,j⟩:=t;have:=Zra.1 ht;simp only [Ze]
    omega]
   simp [Ext.items]
  ·rw [Za (by simpa using he)]
   rw [Zd2.2 fun t ht=>by
    obtain ⟨o,i,j⟩:=t;have:=Zra.1 ht;simp only [Ze]
    omega]
   simp
theorem Zo8 {l:Ly} (hl:l.ok) {off n size:Nat} {es:List Ext} (c:Cover l off n es) (hn:off+n<=size) {k:Nat} (hs:sumOf k es=ZI l size k):∀ x,x<size->(ZB l x).1=k->off<=x∧x<off+n:=by
 have hnd:(insOf k es).Nodup:=by
  unfold insOf;rw [c.flat,ZcP,ZdD];unfold List.Nodup;rw [List.pairwise_map];refine List.Pairwise.imp_of_mem (fun {a b} ha hb hab e=>hab ?_) (Zib _ List.nodup_range);have h1:=(Z1.1 ha).2;have h2:=(Z1.1 hb).2;simp only [Function.comp_apply,Ze] at h1 h2 e;have:=ZfU hl (Prod.ext (h1.trans h2.symm) e);omega
 intro x hx hk;have hi:=(Zec hl (size:=size) (x:=x)).2 hx;rw [hk] at hi;have hmem:∀ i ∈ insOf k es,∃ j,j<n∧ZB l (off+j)=(k,i):=fun i hi=>by
  unfold insOf at hi;rw [c.flat] at hi;obtain ⟨t,ht,rfl⟩:=ZH.1 hi;obtain ⟨h1,h2⟩:=Z1.1 ht;obtain ⟨j,hj,rfl⟩:=ZH.1 h1;simp only [Ze] at h2;exact ⟨j,Za8.1 hj,Prod.ext h2 rfl⟩
 have hin:(ZB l x).2 ∈ insOf k es:=by
  refine Decidable.byContradiction fun hno=>?_;have:=Zj1 (U:=List.range (ZI l size k)) (Za9.2 ⟨hno,hnd⟩) fun i hi'=>by
   rw [Za8];rcases ZO.1 hi' with rfl|q
   ·exact hi
   ·obtain ⟨j,hj,e⟩:=hmem i q;have:=(Zec hl (size:=size) (x:=off+j)).2 (by omega);rw [e] at this;exact this
  rw [Zat,Zhs,hs,ZeE] at this;omega
 obtain ⟨j,hj,e⟩:=hmem _ hin;have:off+j=x:=ZfU hl (by rw [e,<-hk]);omega
end Go.Proofs.YtcbdghojlbpomaaGreat
