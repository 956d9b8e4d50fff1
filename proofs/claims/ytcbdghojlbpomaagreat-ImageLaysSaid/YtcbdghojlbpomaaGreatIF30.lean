import Derived.Test.YtcbdghojlbpomaaGreatIF29
set_option linter.all false
set_option maxRecDepth 4000
set_option maxHeartbeats 8000000
open Go.RowKit
open Go.IntKind (i64 u64)
open Go.Value (int pointer slice)
open Go.Obj (cells)
namespace Go.Proofs.YtcbdghojlbpomaaGreat
open Tryz
open HP (pt mapOf)
variable {W w w':World} {I:Hp} {l:List HP}
theorem Zhu {V:CV} {i:Int} (h:∀ n,V i n=none):ObjV V i noRO :=
 ⟨by rw [h];rfl,List.Pairwise.nil,fun c hc=>(by cases hc),fun n hn=>(by rw [h];simp [Z7,noRO]),fun c hc=>(by cases hc),⟨by simp [noRO],fun c hc=>(by cases hc)⟩⟩
theorem Zli:UOK (univI 0 newR):=(HdI.new (size:=0) (l:=⟨3,2,1⟩) ⟨by decide,by decide,by decide,by decide,by decide,by decide⟩ (by decide)).mid.uok
theorem IStore.begin:IStore (newS 1048576) 0 newR:=by
 have hf:=Zli.few;refine ⟨⟨CInv.new.wider (fun k hk=>by cases hk) ?_,rfl⟩,rfl,rfl,fun k _=>?_,fun k _ n _=>.inl rfl⟩
 ·show 667*((univI 0 newR).length:Int)+3000<=max 0 (min 1048576 1048576);omega
 ·rw [Zep];exact Zhu fun n=>rfl
theorem IStore.make {S:Str} {newest:Int} {R:List RO} (H:IStore S newest R) (hU:UOK (univI newest R)) (hn:get recK S.seen=none) :
  (makeS S recK).1=0∧IStore (makeS S recK).2 newest R∧get recK (makeS S recK).2.seen=some ⟨[],[]⟩:=by
 have hk:recK ∈ univI newest R:=ZpQ.2 (.inl rfl);have e:=H.live.make hU (k:=recK) (hU.all _ hk).2 hn;have hb:(ZT S).1=false:=by simp [ZT,H.calm]
 have h0:=ZfR (.deed recK madeD) H.live.on H.live.inv.coh hb;obtain ⟨h3,h4,_⟩:=Zen H.live hU (s:=.deed recK madeD) ⟨hk,.inl rfl⟩ h0;have hv:∀ k,get k (stepE S (.deed recK madeD)).2.seen=if k=recK then some ⟨[],[]⟩ else get k S.seen:=fun k=>by
  have:=congrFun h4 k;show ZaX (stepE S (.deed recK madeD)).2 k=_;rw [this];rfl
 have ec:cview (stepE S (.deed recK madeD)).2 0=cview S 0:=by
  funext i n;show get (dK 0 i n) _=get (dK 0 i n) _;rw [hv,Za ZhW]
 rw [e];exact ⟨h0,⟨h3,(ZfZ _ H.calm H.live.on).trans H.room,(ZeO _ H.calm H.live.on).1,fun j hj=>by rw [ec];exact H.sim j hj,fun j hj n hn=>by rw [ec];exact H.only j hj n hn⟩,by rw [hv,Zb rfl]⟩
theorem ZnP {size:Nat} {l:Ly} (hl:l.ok) (hs:size<=512) :
  (Zr (newS 1048576)).1=0∧(makeS (Zr (newS 1048576)).2 recK).1=0∧(saveH (makeS (Zr (newS 1048576)).2 recK).2 (newH size l) 0).1=0 ∧
   IJ (saveH (makeS (Zr (newS 1048576)).2 recK).2 (newH size l) 0).2 (newH size l) newR∧Dryed (saveH (makeS (Zr (newS 1048576)).2 recK).2 (newH size l) 0).2:=by
 obtain ⟨a1,a2⟩:=IStore.begin.bar Zli;obtain ⟨b1,b2,b3⟩:=a2.st.make Zli (by rw [a2.seen];rfl);have H:=HdI.new hl hs;obtain ⟨c1,c2,c3,c4⟩:=b2.saveT (ids:=(newH size l).ids) (next:=(newH size l).next) H.mid b3 (roll:=0) H.ok H.mid;exact ⟨a1,b1,c1,H.ij c2 c3,c4⟩
theorem Zkl (I:Hp) (s:Nat):RowI I s (slice none 0 0) 0 []:=⟨none,0,rfl,by simp,Z9 _,by unfold maxLen;omega,fun _=>rfl,fun h=>absurd h (by simp)⟩
section
variable {p q : Nat} {S : Str}
theorem ZmO {m:Nat} (hs:St W I w (Zd p S::l)) (hk:Keeps S m) (hn:ZaQ S ⟨4,0⟩=[]) (hl:(Zj S ⟨4,0⟩).length<=1000000) (hb:(Zr S).1=0) :
  Calls prog 136 #[pointer (some ⟨p,0,none⟩),int i64 0] w fun e w'=>∃ I',I.sub I'∧e=.returned (int i64 0)∧St W I' w' (Zd p (Zr S).2::l):=by
 have hky:=ZhP 4 0 hs hl;rw [hn] at hky;have HKY:=Zh hky;have HB:=Zh (fun (wx:World) (hst:St W I wx (Zd p S::l))=>ZdN hst hk);have HBB:=Zh hb;have HS:=Zh hs;clear hs hk hn hl hb hky;go_enter func136,ntmps136;go_wp2_with fail;refine HKY.o.mono ?_;rintro e w2 ⟨v,rfl,hb2,ho2⟩;obtain ⟨A,c,rfl⟩:=ZD ho2;have H2:=Zh (HS.o.keep hb2);clear hb2 ho2;simp only [ZaH];go_wp2;go_loopw [12] (fun a12 wr=>a12=int i64 0∧wr=w2) (fun _ _=>0);case atStart=>exact ⟨rfl,rfl⟩
 case round =>
  obtain ⟨rfl,rfl⟩:=hrel;have d0:decide ((0:Int)<0)=false:=by decide
  have HB3:=Zh (HB.o _ H2.o);go_wp2_with fail;refine HB3.o.mono ?_;rintro e w3 ⟨I3,hs3,rfl,h3⟩;rw [HBB.o];have H3:=Zh h3;have HS3:=Zh hs3;clear h3 hs3;go_wp2;go_ret;exact ⟨I3,HS3.o,rfl,H3.o⟩
theorem ZnQ (r:Int) (size:Nat) (L:Ly) (hL:L.ok) (hz:size<=512) (hs:St W I w (Zd p (newS r)::l)) (h1:(Zr (newS r)).1=0) (h2:(makeS (Zr (newS r)).2 recK).1=0) (h3:(saveH (makeS (Zr (newS r)).2 recK).2 (newH size L) 0).1=0) (hw:whyS (Zr (newS r)).2 recK=4) (hat:(attrS (newS r) recK nmH).2=4) :
  Calls prog 60 #[pointer (some ⟨p,0,none⟩),int i64 0,int i64 size,L.val] w fun e w'=>∃ I',I.sub I'∧e=.returned (int i64 0)∧St W I' w' (Zd p (saveH (makeS (Zr (newS r)).2 recK).2 (newH size L) 0).2::l):=by
 have hk0:Keeps (newS r) 100000:=Zhj r;have hk1:Keeps (Zr (newS r)).2 100000:=ZbS hk0;have hk2:Keeps (makeS (Zr (newS r)).2 recK).2 (99990+2):=(Zeb (m:=99998) (hk1.fewer (by omega))).fewer (by omega);obtain ⟨S1,hS1⟩:∃ x,(Zr (newS r)).2=x:=⟨_,rfl⟩;rw [hS1] at h2 h3 hw hk1 hk2 |-;obtain ⟨S2,hS2⟩:∃ x,(makeS S1 recK).2=x:=⟨_,rfl⟩;rw [hS2] at h3 hk2 |-;have hok:(newH size L).Ok:=(HdI.new hL hz).ok;have hs0:=hs.alloc (cells #[int i64 L.order,int i64 L.unit,int i64 L.count] 30);obtain ⟨g7,hg7⟩:∃ g,w.heap.size=g:=⟨_,rfl⟩;rw [hg7] at hs0;have HG:=Zh hg7;have ON:=Zh (fun (wx:World) (l':List HP) (hst:St W I wx (Zd p (newS r)::l'))=>Zgf hst);have RDY:=Zh (fun (wx:World) (l':List HP) (hst:St W I wx (Zd p (newS r)::l'))=>ZgU hst rfl);have SHP:=Zh (fun (wx:World)=>ZdQ L.order L.unit L.count wx);have LOAD:=Zh (fun (wx:World) (l':List HP) (hst:St W I wx (Zd p (newS r)::l'))=>Zjo hst hk0.inv (by rw [hat];decide));rw [hat] at LOAD;have CLR:=Zh (fun (wx:World) (l':List HP) (hst:St W I wx (Zd p (newS r)::l'))=>ZmO hst hk0 rfl (show (Zj (newS r) ⟨4,0⟩).length<=1000000 from ZaY _) h1);rw [hS1] at CLR;have SIZ:=Zh (fun (wx:World) (I':Hp) (l':List HP) (hst:St W I' wx (Zd p S1::l'))=>ZbV recK hst);rw [hw] at SIZ;have MAK:=Zh (fun (wx:World) (I':Hp) (l':List HP) (hst:St W I' wx (Zd p S1::l'))=>Zhk recK hst hk1);rw [h2,hS2] at MAK;have SAV:=Zh (fun (wx:World) (I':Hp) (l':List HP) (hst:St W I' wx (Zd p S2::l'))=>Zjn (newH size L) hok 0 (by decide) (by decide) (slice none 0 0) hst hk2 (Zkl I' 4));rw [h3] at SAV;obtain ⟨S3,hS3⟩:∃ x,(saveH S2 (newH size L) 0).2=x:=⟨_,rfl⟩;rw [hS3] at SAV |-;have hsh:=ZdS hL;rw [hsh] at SHP;have d1:decide ((size:Int)<0)=false:=by rw [Zk];omega
 have d2:decide ((512:Int)<(size:Int))=false:=by rw [Zk];omega
 have HS0:=Zh hs0;clear hs hs0 hk0 hk1 hk2 hS1 hS2 hS3 hok h1 h2 h3 hw hat hg7 hsh hL;obtain ⟨o,u,cn⟩:=L;simp only [Ly.val,newH,Hd.cells,K4.val,recK] at *;go_enter func60,ntmps60;go_upto_region 1 with fail;rw [HG.o];have h0:=HS0.o;generalize (World.alloc _ _:World)=w1 at h0 |-;clear HS0 HG;have HON:=Zh (ON.o _ _ (h0.pull 1 _ rfl));have HRD:=Zh (RDY.o _ _ (h0.pull 1 _ rfl));have HSH:=Zh (SHP.o w1);obtain ⟨x0,x1,x2⟩:=Zbw h0;have H0:=Zh h0;clear h0 ON RDY SHP;go_wp2_with fail;refine HON.o.mono ?_;rintro e w2 ⟨rfl,rfl⟩;simp only [newS];go_wp2_with fail;refine HRD.o.mono ?_;rintro e w2 ⟨rfl,rfl⟩;go_wp2_with fail;refine HSH.o.mono ?_;rintro e w2 ⟨rfl,hb2⟩;have h2:=H0.o.keep hb2;clear x0 x1 x2 HON HRD HSH;have HLD:=Zh (LOAD.o _ _ (h2.pull 1 _ rfl));clear h2 hb2 H0 LOAD;go_wp2_with fail;refine HLD.o.mono ?_;rintro e w3 ⟨rfl,h3⟩;have h4:=h3.alloc (cells #[int i64 0,int i64 0,int i64 0,int i64 0,int i64 0,int i64 0,slice none 0 0] 51);have HCL:=Zh (CLR.o _ _ (h4.pull 1 _ rfl));clear h3 h4 HLD CLR;go_wp2_with fail;refine HCL.o.mono ?_;rintro e w5 ⟨I5,hs5,rfl,h5⟩;have H5:=Zh h5;have HS5:=Zh hs5;clear h5 hs5 HCL;go_wp2_with fail;refine (Ze3 0 _).mono ?_;rintro e w6 ⟨rfl,hb6⟩;have h6:=H5.o.keep hb6;have HSZ:=Zh (SIZ.o _ _ _ h6);have H6:=Zh h6;clear h6 hb6 H5 SIZ;go_wp2_with fail;refine HSZ.o.mono ?_;rintro e w7 ⟨hb7,rfl⟩;have H7:=Zh (H6.o.keep hb7);clear hb7 H6 HSZ;go_wp2_with fail;refine (Ze3 0 _).mono ?_;rintro e w8 ⟨rfl,hb8⟩;have h8:=H7.o.keep hb8;have HMK:=Zh (MAK.o _ _ _ h8);clear h8 hb8 H7 MAK;go_wp2_with fail;refine HMK.o.mono ?_;rintro e w9 ⟨I9,hs9,rfl,h9⟩;have HS9:=Zh (HS5.o.trans hs9);obtain ⟨x0,x1,x2⟩:=Zbw (h9.pull 2 _ rfl);have HSV:=Zh (SAV.o _ _ _ h9);clear h9 hs9 HMK SAV;go_wp2_with fail;refine HSV.o.mono ?_;rintro e w10 ⟨I10,hs10,rfl,h10⟩;have HS10:=Zh (HS9.o.trans hs10);have H10:=Zh h10;clear h10 hs10 HSV;go_wp2;go_ret;exact ⟨I10,HS10.o,rfl,(((H10.o.pull 1 _ rfl).drop).pull 1 _ rfl).drop⟩
end
section
variable {p q : Nat} {S : Str}
theorem Zpc (h:Hd) (hl:h.l.ok) (hsz:h.size<=512) {m:Nat} (hs:St W I w (Zd p S::imgHP q p h::l)) (hk:Inv S m)
  (hfit:∀ k:Nat,k<every->∃ n:Nat,ZbP S 0 k 0=((n:Int),0)∧n<=ZI h.l h.size k) :
  Calls prog 80 #[pointer (some ⟨q,0,none⟩)] w fun e w'=>∃ I',I.sub I'∧e=.returned (int i64 0)∧St W I' w' (Zd p S::imgHP q p h::l):=by
 have lt0:q<w.heap.size:=by
  obtain ⟨v,_,h1⟩:=(hs.pull 1 _ rfl).img_open;exact h1.lt
 obtain ⟨L,hL⟩:∃ x,h.l=x:=⟨_,rfl⟩;obtain ⟨Z,hZ⟩:∃ x,h.size=x:=⟨_,rfl⟩;have HE:=ZgV (hs.pull 1 _ rfl) hl;rw [hL] at HE;have HBY:Hid (∀ (w:World) (k:Nat),k<=1048576->Calls prog 92 #[.agg #[int i64 h.l.order,int i64 h.l.unit,int i64 h.l.count],int i64 h.size,int i64 k] w fun e w'=>e=.returned (int i64 (ZI L Z k))∧Below w.heap.size w w'):=Zh (fun w k hk=>by rw [<-hL,<-hZ];exact Zg8 h.l hl h.size k hsz hk w);rw [hL] at hl hfit;rw [hZ] at hfit;have HEE:=Zh HE;have HS:=Zh hs;have HL:=Zh hl;have HF:=Zh hfit;have HK:=Zh hk;clear hs hl hfit hk hL hZ HE;obtain ⟨sz,⟨o,u,cn⟩,nx,sq,ms⟩:=h;simp only at HBY;go_enter func80,ntmps80;go_wp2_with fail;refine HEE.o.mono ?_;rintro e w2 ⟨n,rfl,hn,hb2⟩;have h2:=HS.o.keep hb2;have hne:=Zha HL.o hn;unfold every at hne;have HNN:=Zh hn;have H2:=Zh h2;clear hb2 h2 hn;go_wp2;go_loopw [3,10] (fun a3 a10 wr=>∃ (i:Nat) (I':Hp),a3=.bool false∧a10=int i64 i∧i<=n∧I.sub I'∧St W I' wr (Zd p S::imgHP q p ⟨sz,⟨o,u,cn⟩,nx,sq,ms⟩::l)) (fun _ a10 _=>n - (intOf a10).toNat);case atStart=>exact ⟨0,I,rfl,rfl,by omega,Hp.sub.refl _,H2.o⟩
 case round =>
  obtain ⟨i,I',rfl,rfl,hi,hsub,hst⟩:=hrel;have HST:=Zh hst;have HSU:=Zh hsub;obtain ⟨v,hv,h1⟩:=(hst.pull 1 _ rfl).img_open;obtain ⟨c0,c1,c2,c3,c4,c5,c6,c7,c8,c9⟩:=Zz h1;simp only at c2 c3 c4 c5 c6 c7 c8;by_cases hlt:i<n
  ·have d0:decide ((i:Int)<(n:Int))=true:=by rw [Ze];omega
   have hcb:=Zh (HBY.o wr.drew i (by omega));have hie:i<every:=by unfold every;omega
   obtain ⟨N,hcz,hN⟩:=HF.o i hie;clear hst hsub hv h1 lt0;go_upto_region 5 with fail;refine ZaD [0,1,2,3,5,6,7,8,10] [4,9] [11,12] (by kernel_rfl) (by kernel_rfl) ?_;simp only [pickL,Zg,Zi];repeat (refine ZaA _ (Or.inl ⟨by rfl,by intro w;go_simp;try with_reducible rfl⟩) ?_;(try go_frame))
   refine ZaB ?_;repeat still_step
   refine ZaI ?_;go_wp2_with fail;refine hcb.o.mono ?_;rintro e w3 ⟨rfl,hb3⟩;have h3:=HST.o.drew.keep hb3;obtain ⟨v3,_,h3i⟩:=(h3.pull 1 _ rfl).img_open;have z0:=(Zz h3i).c0;have z1:=(Zz h3i).c1;have hcs:=Zjp 0 i 0 h3.drew HK.o;rw [hcz] at hcs;have HCS:=Zh hcs;have H3:=Zh h3;clear hcs hcz h3i hb3 c0 c1 c2 c3 c4 c5 c6 c7 c8 c9 hcb h3;go_wp2;refine Zu ?_;go_wp2_with fail;refine ZcY (fun w'=>w'.cell? ⟨q,0,none⟩=some (pointer (some ⟨p,0,none⟩))∧w'.cell? ⟨q,1,none⟩=some (int i64 0)) [0,1,2,3,4,5,6,7,8,9,10,11,12,13] (Tp.pull [0,1,2,3,4,5,6,7,8] (Tp.one 9 (Tp.pull [10,11,12,13] Tp.leaf))) [14] (by kernel_rfl) (by kernel_rfl) (by (exact ⟨z0,z1⟩)) ?_;unfold wpTp
   (try simp only [pickL,Zg,Zi])
   repeat (first|refine Zs _ (Or.inl ⟨by rfl,by (intro w hSw;(try dsimp only at hSw);go_simp;try with_reducible rfl)⟩) ?_|refine Zs _ (Or.inr ⟨by rfl,rfl⟩) ?_|fail);(try go_frame)
   refine ZC ?_;unfold wpTp
   (try simp only [pickL,Zg,Zi])
   go_wp2_with fail;refine HCS.o.mono ?_;rintro e w4 ⟨I4,hs4,rfl,h4⟩;obtain ⟨v4,hv4,h4i⟩:=(h4.pull 1 _ rfl).img_open;have hsr4:=ZbW h4i.drew hv4;obtain ⟨c0,c1,c2,c3,c4,c5,c6,c7,c8,c9⟩:=Zz h4i;simp only at c2 c3 c4 c5 c6 c7 c8;have H4:=Zh h4;have HS4:=Zh (HSU.o.trans hs4);have HSR4:=Zh hsr4;have lt0:q<w4.heap.size:=h4i.lt;clear h4 h4i hs4 hsr4 z0 z1 hv4;go_wp2;refine Zt ⟨c0,c1⟩ ?_;unfold wpTp
   (try simp only [pickL,Zg,Zi])
   repeat (first|refine Zs _ (Or.inl ⟨by rfl,by (intro w hSw;(try dsimp only at hSw);go_simp;try with_reducible rfl)⟩) ?_|refine Zs _ (Or.inr ⟨by rfl,rfl⟩) ?_|fail);(try go_frame)
   refine ZC ?_;unfold wpTp
   (try simp only [pickL,Zg,Zi])
   go_wp2;refine Zu ?_;have d1:decide (((ZI L Z i:Nat):Int)<(N:Int))=false:=by rw [Zk];omega
   go_wp2;go_roundw;case rel=>exact ⟨i+1,I4,rfl,by go_num,by omega,HS4.o,H4.o⟩
   case measure=>simp [intOf]<;>omega
  ·obtain rfl:i=n:=by omega
   have d0:decide ((i:Int)<(i:Int))=false:=by rw [Zk];omega
   clear hst hsub hv h1;go_wp2;go_ret;exact ⟨I',HSU.o,rfl,HST.o⟩
end
section
variable {p q : Nat} {S : Str}
theorem Zjy (h:Hd) (hok:h.Ok) {m:Nat} (hs:St W I w (Zd p S::l)) (hk:Inv S m) (hon:S.on=true) (hr:IRec S h 0)
  (hfit:∀ k:Nat,k<every->∃ n:Nat,ZbP S 0 k 0=((n:Int),0)∧n<=ZI h.l h.size k) :
  Calls prog 19 #[pointer (some ⟨p,0,none⟩),int i64 0] w fun e w'=>∃ I',I.sub I'∧∃ q,e=.returned (.tuple #[pointer (some ⟨q,0,none⟩),int i64 0])∧St W I' w' (Zd p S::imgHP q p h::l):=by
 have HRD:=Zh (ZgU hs hon);have HLO:=Zh (ZnD h hok 0 (by decide) (by decide) hs hk hr);have CUT:=Zh (fun (w:World) (I':Hp) (q:Nat) (l':List HP) (hst:St W I' w (Zd p S::imgHP q p h::l'))=>Zpc h hok.shape hok.size hst hk hfit);have hcap:=fun (v:Value) (I':Hp) (hv:(mksIP v h.marks).p I')=>RowI.cap (k:=4) hv;have HCAP:=Zh hcap;have HSH:=Zh (fun (v:Value) (I':Hp) (w':World) (q:Nat) (l':List HP) (hv:(mksIP v h.marks).p I') (hst:St W I' w' (pt q (cells (ZdT p h v) 119)::l'))=>hst.img_shut hv);clear hs hk hon hr hfit hcap hok;obtain ⟨F,hF⟩:∃ F:Nat->HP,F=fun q=>imgHP q p h:=⟨_,rfl⟩;have HFF:=Zh hF;have hFq:∀ q,imgHP q p h=F q:=fun q=>by rw [hF]
 simp only [hFq] at CUT HSH |-;clear hFq hF;obtain ⟨sz,⟨o,u,cn⟩,nx,sq,ms⟩:=h;simp only [Hd.cells,ZdT] at HLO HCAP HSH;go_enter func19,ntmps19;go_wp2_with fail;refine HRD.o.mono ?_;rintro e w2 ⟨rfl,rfl⟩;go_wp2_with fail;refine HLO.o.mono ?_;rintro e w3 ⟨I3,v3,hs3,rfl,hv3,h3⟩;obtain ⟨A3,c3,rfl,_⟩:=HCAP.o _ _ hv3;have h4:=h3.alloc (cells #[int i64 sz,int i64 o,int i64 u,int i64 cn,int i64 nx,int i64 sq,slice A3 ms.length c3] 51);have h5:=h4.drop.alloc (cells #[pointer (some ⟨p,0,none⟩),int i64 0,int i64 sz,int i64 o,int i64 u,int i64 cn,int i64 nx,int i64 sq,slice A3 ms.length c3,.bool false] 119);rw [Zb2] at h5;have h6:=(HSH.o _ _ _ _ _ hv3 h5).pull 1 _ rfl;have HCU:=Zh (CUT.o _ _ _ _ h6);have HS3:=Zh hs3;clear h3 h4 h5 h6 hs3 hv3;go_wp2_with fail;refine HCU.o.mono ?_;rintro e w7 ⟨I7,hs7,rfl,h7⟩;have HS7:=Zh (HS3.o.trans hs7);have H7:=Zh h7;clear hs7 h7;go_wp2;go_ret2;exact ⟨I7,HS7.o,_,rfl,H7.o⟩
end
structure FreshI (r:Int) (size:Nat) (L:Ly) (S:Str):Prop where
 bar:(Zr (newS r)).1=0
 make:(makeS (Zr (newS r)).2 recK).1=0
 save:(saveH (makeS (Zr (newS r)).2 recK).2 (newH size L) 0).1=0
 eq:(saveH (makeS (Zr (newS r)).2 recK).2 (newH size L) 0).2=S
 why:whyS (Zr (newS r)).2 recK=4
 attr:(attrS (newS r) recK nmH).2=4
 on:S.on=true
 recd:IRec S (newH size L) 0
 none:∀ k:Nat,k<every->ZbP S 0 k 0=(0,0)
section
variable {p q : Nat} {S : Str}
set_option maxRecDepth 8000
theorem Zjz (r:Int) (size:Nat) (L:Ly) (hL:L.ok) (hz:size<=512) (hs:St W I w l) (F:FreshI r size L S) :
  Calls prog 13 #[int i64 r,int i64 size,L.val] w fun e w'=>∃ I',I.sub I'∧∃ p q,e=.returned (.tuple #[pointer (some ⟨p,0,none⟩),pointer (some ⟨q,0,none⟩)])∧St W I' w' (Zd p S::imgHP q p (newH size L)::l)∧Keeps S 99000:=by
 have hk0:Keeps (newS r) 100000:=Zhj r;have hk1:Keeps (Zr (newS r)).2 100000:=ZbS hk0;have hk2:Keeps (makeS (Zr (newS r)).2 recK).2 (99990+2):=(Zeb (m:=99998) (hk1.fewer (by omega))).fewer (by omega);have hk3:Keeps S 99000:=by
  rw [<-F.eq];exact (Zed hk2).fewer (by omega)
 have hok:(newH size L).Ok:=(HdI.new hL hz).ok;have hs0:=hs.alloc (cells #[int i64 L.order,int i64 L.unit,int i64 L.count] 30);obtain ⟨g5,hg5⟩:∃ g,w.heap.size=g:=⟨_,rfl⟩;rw [hg5] at hs0;have HG:=Zh hg5;have NEW:=Zh (fun (wx:World) (l':List HP) (hst:St W I wx l')=>Zky r hst)
 have MAK:Hid (∀ (wx:World) (p:Nat) (l':List HP),St W I wx (Zd p (newS r)::l')->Calls prog 60 #[pointer (some ⟨p,0,none⟩),int i64 0,int i64 size,L.val] wx fun e w'=>∃ I',I.sub I'∧e=.returned (int i64 0)∧St W I' w' (Zd p S::l')):=Zh (fun wx p l' hst=>by
  have:=ZnQ r size L hL hz hst F.bar F.make F.save F.why F.attr;rw [F.eq] at this
  exact this)
 have OPN:=Zh (fun (wx:World) (p:Nat) (I':Hp) (l':List HP) (hst:St W I' wx (Zd p S::l'))=>Zjy (newH size L) hok hst hk3.inv F.on F.recd (fun k hk=>⟨0,by rw [F.none k hk];rfl,ZaY _⟩));have HS0:=Zh hs0;have HK:=Zh hk3;clear hs hs0 hk0 hk1 hk2 hk3 hok F hg5 hL hz;obtain ⟨o,u,cn⟩:=L;simp only [Ly.val] at *;obtain ⟨h,hh⟩:∃ h,newH size ⟨o,u,cn⟩=h:=⟨_,rfl⟩;rw [hh] at OPN |-;clear hh;go_enter func13,ntmps13;go_upto_region 1 with fail;rw [HG.o];have h0:=HS0.o;generalize (World.alloc _ _:World)=w1 at h0 |-;clear HS0 HG;have HN:=Zh (NEW.o _ _ h0);clear h0 NEW;go_wp2_with fail;refine HN.o.mono ?_;rintro e w2 ⟨p,rfl,h2⟩;obtain ⟨x0,x1,x2⟩:=Zbw (h2.pull 1 _ rfl);have HM:=Zh (MAK.o _ _ _ h2);clear h2 MAK HN;go_wp2_with fail;refine HM.o.mono ?_;rintro e w3 ⟨I3,hs3,rfl,h3⟩;have HO:=Zh (OPN.o _ _ _ _ h3);have HS3:=Zh hs3;clear h3 hs3 HM OPN x0 x1 x2;go_wp2_with fail;refine HO.o.mono ?_;rintro e w4 ⟨I4,hs4,q,rfl,h4⟩;have HS4:=Zh (HS3.o.trans hs4);have H4:=Zh h4;clear hs4 h4 HO;go_wp2;go_ret2;exact ⟨I4,HS4.o,p,q,rfl,((H4.o.pull 2 _ rfl).drop),HK.o⟩
end
def recU:List K4:=[recK]
theorem Zgi:UOK recU:=⟨fun k hk=>by rw [Zaz.1 hk];exact ⟨.inr rfl,by decide⟩,by decide⟩
theorem Zpd {U:List K4} {S:Str} (h:Live U S) (hU:UOK U) (hc:S.armed=false) (hk:recK ∈ U) (hn:get recK S.seen=none) :
  (makeS S recK).1=0∧Live U (makeS S recK).2∧(makeS S recK).2.armed=false∧∀ k,get k (makeS S recK).2.seen=if k=recK then some ⟨[],[]⟩ else get k S.seen:=by
 have e:=h.make hU (k:=recK) (hU.all _ hk).2 hn;have hb:(ZT S).1=false:=by simp [ZT,hc]
 have h0:=ZfR (.deed recK madeD) h.on h.inv.coh hb;obtain ⟨h3,h4,_⟩:=Zen h hU (s:=.deed recK madeD) ⟨hk,.inl rfl⟩ h0;rw [e];refine ⟨h0,h3,(ZeO _ hc h.on).1,fun k=>?_⟩;have:=congrFun h4 k;show ZaX (stepE S (.deed recK madeD)).2 k=_;rw [this];rfl
theorem Zpe {U:List K4} {S:Str} (h:Live U S) (hU:UOK U) (hc:S.armed=false) (hk:recK ∈ U) {t:TS} (ht:get recK S.seen=some t) {hd:Hd} (hok:hd.Ok) (roll:Int) :
  (saveH S hd roll).1=0∧Live U (saveH S hd roll).2∧RecAt (saveH S hd roll).2 hd roll∧∀ k,k≠recK->get k (saveH S hd roll).2.seen=get k S.seen:=by
 have hlen:1<=(varB roll++recH hd).length∧(varB roll++recH hd).length<=600:=by
  have a:=Zcd roll;have b:=Zel hok;rw [ZA];omega
 obtain ⟨h1,h2,h3,h4,h5⟩:=h.setH hU hc hk ht hlen.1 hlen.2;obtain ⟨g1,g2,g3,g4,g5,g6⟩:=Ze1 h2 h3;have e:saveH S hd roll=Zr (setS S recK nmH (varB roll++recH hd)).2:=by
  unfold saveH;rw [Za (by rw [h1];decide)]
 rw [e];refine ⟨g1,g2,⟨_,by rw [g4,h5,Zb rfl],ZdM⟩,fun k hk2=>by rw [g4,h5,Za hk2]⟩
theorem Zkm (r:Int) (hr:4000<=r) (hr2:r<=1048576) {size:Nat} {L:Ly} (hL:L.ok) (hz:size<=512) :
  ∃ S,FreshI r size L S∧Live recU S∧(∀ k,k≠recK->get k S.seen=none):=by
 have hroom:(newS r).room=r:=by
  show max 0 (min r 1048576)=r;omega
 have l0:Live recU (newS r):=⟨(CInv.newR (by omega) hr2).wider (fun k hk=>by cases hk) (by rw [hroom,show recU.length=1 from rfl];omega),rfl⟩;have hk:recK ∈ recU:=Zaz.2 rfl;obtain ⟨a1,a2,a3,a4,a5,a6⟩:=Ze1 l0 rfl;have hn1:get recK (Zr (newS r)).2.seen=none:=by rw [a4];rfl
 obtain ⟨b1,b2,b3,b4⟩:=Zpd a2 Zgi a3 hk hn1;have hok:(newH size L).Ok:=(HdI.new hL hz).ok;obtain ⟨c1,c2,c3,c4⟩:=Zpe b2 Zgi b3 hk (by rw [b4,Zb rfl]) hok 0;have hnone:∀ k,k≠recK->get k (saveH (makeS (Zr (newS r)).2 recK).2 (newH size L) 0).2.seen=none:=fun k hk2=>by
  rw [c4 k hk2,b4,Za hk2,a4];rfl
 refine ⟨_,⟨a1,b1,c1,rfl,?_,?_,c2.on,Zlq c2 c3,fun k hk3=>?_⟩,c2,hnone⟩
 ·rw [a2.why (by decide),hn1];rfl
 ·unfold attrS;rw [l0.why (by decide)];rfl
 ·have:=(ZhD Zgi c2 (i:=(k:Int)) (o:=noRO) (Zhu fun n=>hnone _ ZhW) (by unfold every at hk3;omega) ⟨Zck 0,by decide⟩).2.1;rw [this];rfl
section
variable {p q : Nat} {S : Str}
theorem ZjA (h:Hd) (h17:h.marks.length<=1000) (hs:St W I w (imgHP q p h::l)) :
  Calls prog 22 #[pointer (some ⟨q,0,none⟩)] w fun e w'=>∃ A,e=.returned (.agg (h.cells (slice A h.marks.length h.marks.length)))∧Below w.heap.size w w':=by
 obtain ⟨v0,hv0,hi0⟩:=hs.img_open;have lq:q<w.heap.size:=hi0.lt;have HI:=Zh (show ∃ wq,wq=w from ⟨w,rfl⟩);obtain ⟨v,hv,hi⟩:=((hs.alloc (cells #[int i64 0,int i64 0,int i64 0,int i64 0,int i64 0,int i64 0,slice none 0 0] 51)).pull 1 _ rfl).img_open;have hsr:=ZbW hi hv;obtain ⟨c0,c1,c2,c3,c4,c5,c6,c7,c8,c9⟩:=Zz hi;obtain ⟨g,hg⟩:∃ g,w.heap.size=g:=⟨_,rfl⟩;have ha:=(St.init w).alloc (cells #[int i64 0,int i64 0,int i64 0,int i64 0,int i64 0,int i64 0,slice none 0 0] 51);have HCO:=Zh (ZeM h v _ ha hsr h17);rw [hg] at HCO;have HG:=Zh hg;clear hs hv0 hi0 hi hv hsr ha hg HI;obtain ⟨sz,⟨o,u,cn⟩,nx,sq,ms⟩:=h;simp only [Hd.cells] at *;go_enter func22,ntmps22;go_wp2_with fail;refine HCO.o.mono ?_;rintro e w2 ⟨A,rfl,h2⟩;rw [HG.o];have h3:=h2.pull 1 _ rfl;obtain ⟨x0,x1,x2,x3,x4,x5,x6⟩:=ZW h3;have f:=frozen_of_row h3.heap;have H4:=Zh (h3.set7 (int i64 sz) (int i64 o) (int i64 u) (int i64 cn) (int i64 nx) (int i64 sq) (slice A ms.length ms.length));clear h2 h3 HCO c0 c1 c2 c3 c4 c5 c6 c7 c8 c9 lq;go_wp2_with fail;have h4:=H4.o;generalize (World.setCell _ _ _:World)=w4 at h4 |-;clear x0 x1 x2 x3 x4 x5 x6 f H4;obtain ⟨x0,x1,x2,x3,x4,x5,x6⟩:=ZW h4;refine ZaK (v:=.agg #[int i64 sz,int i64 o,int i64 u,int i64 cn,int i64 nx,int i64 sq,slice A ms.length ms.length]) (by simp [results,results22,go_sem,x0,x1,x2,x3,x4,x5,x6]) rfl ?_;exact ⟨A,rfl,h4.below⟩
theorem ZnR (h:Hd) (hnm:∀ m ∈ h.marks,1<=m.name.size) (hn:heldM h.marks=none) (h17:h.marks.length<=1000) (hs:St W I w (imgHP q p h::l)) :
  Calls prog 27 #[pointer (some ⟨q,0,none⟩)] w fun e w'=>e=.returned (slice none 0 0)∧Below w.heap.size w w':=by
 obtain ⟨v,hv,hi⟩:=hs.img_open;have hh:=Zjs h hnm v w (ZbW hi hv) h17;rw [hn] at hh;obtain ⟨c0,c1,c2,c3,c4,c5,c6,c7,c8,c9⟩:=Zz hi;have HH:=Zh hh;clear hs hi hv hh;obtain ⟨sz,⟨o,u,cn⟩,nx,sq,ms⟩:=h;simp only [Hd.cells,mkVal] at *;go_enter func27,ntmps27;go_wp2_with fail;refine HH.o.mono ?_;rintro e w2 ⟨rfl,hb2⟩;have HB:=Zh (hb2.trans ((ZM w2 (cells #[int i64 0,.string ⟨#[]⟩,int i64 0,.bool false] 66)).mono hb2.size));clear hb2 c0 c1 c2 c3 c4 c5 c6 c7 c8 c9 HH;go_wp2;go_ret;exact ⟨rfl,HB.o⟩
end
end Go.Proofs.YtcbdghojlbpomaaGreat
