import Derived.Test.YtcbdghojlbpomaaGreatIL05
set_option linter.all false
namespace Go.Proofs.YtcbdghojlbpomaaGreat
open Tryz
open HP (pt mapOf)
open Go.IntKind (i64 u64)
open Go.Value (int pointer slice)
open Go.Obj (cells)
open Go.RowKit
theorem pow62 {n:Nat} (h:n<=6):2 ^ n<=64:=(pow64 h).2.1
section
variable {W w : World} {I : Hp} {l : List HP}
set_option maxRecDepth 4000
set_option maxHeartbeats 8000000
theorem rpow_spec (n:Nat) (hn:n<=6) (w:World):Calls prog 164 #[int i64 n] w fun e w'=>e=.returned (int i64 ((2 ^ n:Nat):Int))∧w=w':=by
 go_enter func164,ntmps164;go_wp2;go_loopw [3,4] (fun a3 a4 wr=>∃ (i p:Nat),a4=int i64 i∧a3=int i64 p∧i<=n∧p=2 ^ i∧w=wr) (fun _ a4 _=>n - (intOf a4).toNat);case atStart=>exact ⟨0,1,rfl,rfl,by omega,(by first|trivial|rfl),(by first|trivial|rfl)⟩
 case round =>
  obtain ⟨i,p,rfl,rfl,hi,hp,rfl⟩:=hrel;have hpl:p<=64:=by rw [hp];exact pow62 (by omega)
  have HP:=Zh hp;clear hp;by_cases hlt:i<n
  ·have d0:decide ((i:Int)<(n:Int))=true:=by rw [Ze];omega
   go_wp2;go_roundw;case rel=>exact ⟨i+1,p*2,by go_num,by go_num,by omega,by rw [HP.o,Nat.pow_succ],(by first|trivial|rfl)⟩
   case measure=>simp [intOf]<;>omega
  ·obtain rfl:i=n:=by omega
   have d0:decide ((i:Int)<(i:Int))=false:=by rw [Zk];omega
   go_wp2;go_ret;refine ⟨?_,rfl⟩;rw [HP.o];rfl
theorem rplace_spec (l:Ly) (hl:l.ok) (x:Nat) (hx:x<=1073741824) (w:World):Calls prog 96 #[l.val,int i64 x] w fun e w'=>e=.returned (.tuple #[int i64 (ZB l x).1,int i64 (ZB l x).2])∧Below w.heap.size w w':=by
 have hs:=ZdS hl;obtain ⟨o,u,c⟩:=l;have h1:=hl.o1;have h2:=hl.o2;have h3:=hl.u1;have h4:=hl.u2;have h5:=hl.c1;have h6:=hl.c2;simp only [Ly.val] at *;have hsp:=shape1_spec (o:Int) u c;rw [hs] at hsp;have HS:=Zh hsp;have h0:=(St.init w).alloc (cells #[int i64 o,int i64 u,int i64 c] 30);obtain ⟨g,hg⟩:∃ g,w.heap.size=g:=⟨_,rfl⟩;rw [hg] at h0;have HG:=Zh hg;have H0:=Zh h0;obtain ⟨U,hU⟩:∃ U,2 ^ u=U:=⟨_,rfl⟩;obtain ⟨O,hO⟩:∃ O,2 ^ o=O:=⟨_,rfl⟩;have PU:=rpow_spec u (by omega);have PO:=rpow_spec o (by omega);have hUl:=pow64 (u:=u) (by omega);have hOl:=pow64 (u:=o) (by omega);rw [hU] at PU hUl;rw [hO] at PO hOl;have PUH:=Zh PU;have POH:=Zh PO;have HU:=Zh hU;have HO:=Zh hO;have hOU:∃ P,O / U=P∧1<=P∧P<=64∧P=2 ^ (o - u):=by
  refine ⟨_,rfl,?_⟩;have e:O / U=2 ^ (o - u):=by rw [<-hO,<-hU];exact Nat.pow_div h4 (by omega)
  rw [e];have:=pow64 (u:=o - u) (by omega);omega
 obtain ⟨P,hP,hP1,hP2,hP3⟩:=hOU;have HPP:=Zh hP;have HP3:=Zh hP3;clear hsp hs hl h0 PU PO hU hO hg hP hP3;have d1:decide ((x:Int)<0)=false:=by rw [Zk];omega
 have d2:decide (1073741824<(x:Int))=false:=by rw [Zk];omega
 have dU:((U:Int)==0)=false:=by simp;omega
 have dc:((c:Int)==0)=false:=by simp;omega
 have nU:¬ U=0:=by omega
 have nc:¬ c=0:=by omega
 have nP:¬ P=0:=by omega
 go_enter func96,ntmps96;go_upto_region 1 with fail;rw [HG.o];have h0:=H0.o;generalize (World.alloc _ _:World)=w1 at h0 |-;obtain ⟨x0,x1,x2⟩:=Zbw h0;have H1:=Zh h0;clear H0 HG h0;go_wp2_with fail;refine (HS.o _).mono ?_;rintro e w2 ⟨rfl,hb2⟩;have h2:=H1.o.keep hb2;clear x0 x1 x2;obtain ⟨x0,x1,x2⟩:=Zbw h2;have H2:=Zh h2;clear h2 hb2 HS;go_wp2_with fail;refine (PUH.o _).mono ?_;rintro e w3 ⟨rfl,rfl⟩;go_upto_region 4 with fail;have ex:wrap64 ((x:Int) / (U:Int))=((x / U:Nat):Int):=by
  have e0:(x:Int) / (U:Int)=((x / U:Nat):Int):=by push_cast;rfl
  rw [e0,Zbu (by have:=Zfp x U;omega)]
 have hxU:x / U<=1073741824:=ZQ (Zfp ..) hx;obtain ⟨u6,hu6⟩:∃ z,x / U=z:=⟨_,rfl⟩;rw [ex,hu6];rw [hu6] at hxU;have HU6:=Zh hu6;clear ex hu6;have eP:IntKind.i64.wrap ((O:Int) / (U:Int))=(P:Int):=by
  have e0:(O:Int) / (U:Int)=((O / U:Nat):Int):=by push_cast;rfl
  rw [e0,HPP.o,Z2];omega
 have EP:=Zh eP;clear eP;have hcell:w2.drew.cell? ⟨g,0,none⟩=some (int i64 o)∧w2.drew.cell? ⟨g,1,none⟩=some (int i64 u)∧w2.drew.cell? ⟨g,2,none⟩=some (int i64 c):=Zbw H2.o.drew;have HC4:=Zh hcell;clear hcell x0 x1 x2;refine wp_region_det (fun w'=>w'.cell? ⟨g,0,none⟩=some (int i64 o)∧w'.cell? ⟨g,1,none⟩=some (int i64 u)∧w'.cell? ⟨g,2,none⟩=some (int i64 c)∧St w w.hp w' (pt g (cells #[int i64 o,int i64 u,int i64 c] 30)::[])) [0,1,2,3,4,5,6] [7] (by kernel_rfl) (by kernel_rfl) (by (exact ⟨HC4.o.1,HC4.o.2.1,HC4.o.2.2,H2.o.drew⟩)) ?_;simp only [pickL,Zg,Zi];repeat (first|refine wpDet_step _ (by rfl) (by (intro w hSw;(try dsimp only at hSw);go_simp;try with_reducible rfl)) ?_|refine wpDet_skip (by rfl) ?_|fail);(try go_frame)
 refine wpDet_call (int i64 O) (164) (#[int i64 o]) (by rfl) (by intro w;go_simp;try with_reducible rfl) (by (rintro w1 hw1;exact (POH.o _).mono (by rintro e w' ⟨rfl,rfl⟩;exact ⟨rfl,hw1⟩))) ?_
 (try go_frame)
 repeat (first|refine wpDet_step _ (by rfl) (by (intro w hSw;(try dsimp only at hSw);go_simp;try with_reducible rfl)) ?_|refine wpDet_skip (by rfl) ?_|fail);(try go_frame)
 refine wpDet_call (int i64 U) (164) (#[int i64 u]) (by rfl) (by intro w;go_simp;try with_reducible rfl) (by (rintro w1 hw1;exact (PUH.o _).mono (by rintro e w' ⟨rfl,rfl⟩;exact ⟨rfl,hw1⟩))) ?_
 (try go_frame)
 repeat (first|refine wpDet_step _ (by rfl) (by (intro w hSw;(try dsimp only at hSw);go_simp;try with_reducible rfl)) ?_|refine wpDet_skip (by rfl) ?_|fail);(try go_frame)
 refine wpDet_nil ?_;rintro w3 ⟨_,_,_,h3⟩;rw [EP.o];have H3:=Zh h3;clear HC4 H2 EP h3;go_wp2;refine Zu ?_;obtain ⟨x0,x1,x2⟩:=Zbw H3.o;have e8:wrap64 ((u6:Int) / (c:Int))=((u6 / c:Nat):Int):=by
  have e0:(u6:Int) / (c:Int)=((u6 / c:Nat):Int):=by push_cast;rfl
  rw [e0,Zbu (by have:=Zfp u6 c;omega)]
 have hq8:u6 / c<=1073741824:=ZQ (Zfp ..) hxU;go_upto_region 6 with fail;obtain ⟨r8,hr8⟩:∃ z,u6 / c=z:=⟨_,rfl⟩;rw [e8,hr8];rw [hr8] at hq8;have HR8:=Zh hr8;clear e8 hr8;have H4:=Zh (H3.o.drew);have hcell:w3.drew.cell? ⟨g,0,none⟩=some (int i64 o)∧w3.drew.cell? ⟨g,1,none⟩=some (int i64 u)∧w3.drew.cell? ⟨g,2,none⟩=some (int i64 c):=Zbw H3.o.drew;have HC4:=Zh hcell;clear hcell x0 x1 x2;have dP:((P:Int)==0)=false:=by simp;omega
 refine wp_region_detz (fun w'=>w'.cell? ⟨g,0,none⟩=some (int i64 o)∧w'.cell? ⟨g,1,none⟩=some (int i64 u)∧w'.cell? ⟨g,2,none⟩=some (int i64 c)) [(0,false),(1,false),(2,false),(3,false),(4,false),(5,false),(6,false),(7,false),(8,false),(9,false),(10,false),(11,true),(12,true),(13,true),(14,false),(15,false),(16,false),(17,true),(18,true),(19,false),(20,false),(21,false),(22,true),(23,true)] [] [24,25] (by kernel_rfl) (by kernel_rfl) (by (intro w' hb;exact Zbw (H4.o.keep hb))) ?_;repeat (first|refine ch_plain (by rfl) _ (by rfl) (by intro w;go_simp;try with_reducible rfl) ?_|refine ch_val (by rfl) _ (by rfl) (by (intro w hSw;(try dsimp only at hSw);go_simp;try with_reducible rfl)) ?_|refine ch_skip (by rfl) (by rfl) ?_|fail);(try go_frame)
 refine ch_call (by rfl) (int i64 U) (164) (#[int i64 u]) (by rfl) (by intro w;go_simp;try with_reducible rfl) (by (rintro w1 S;exact (PUH.o _).mono (by rintro e w' ⟨rfl,rfl⟩;exact ⟨rfl,.refl _ _⟩))) ?_
 (try go_frame)
 repeat (first|refine ch_plain (by rfl) _ (by rfl) (by intro w;go_simp;try with_reducible rfl) ?_|refine ch_val (by rfl) _ (by rfl) (by (intro w hSw;(try dsimp only at hSw);go_simp;try with_reducible rfl)) ?_|refine ch_skip (by rfl) (by rfl) ?_|fail);(try go_frame)
 refine ch_call (by rfl) (int i64 U) (164) (#[int i64 u]) (by rfl) (by intro w;go_simp;try with_reducible rfl) (by (rintro w1 S;exact (PUH.o _).mono (by rintro e w' ⟨rfl,rfl⟩;exact ⟨rfl,.refl _ _⟩))) ?_
 (try go_frame)
 repeat (first|refine ch_plain (by rfl) _ (by rfl) (by intro w;go_simp;try with_reducible rfl) ?_|refine ch_val (by rfl) _ (by rfl) (by (intro w hSw;(try dsimp only at hSw);go_simp;try with_reducible rfl)) ?_|refine ch_skip (by rfl) (by rfl) ?_|fail);(try go_frame)
 refine ch_nil ?_;refine al_nil ?_;rintro w9 hz;have H5:=Zh (H4.o.keep hz.below);clear hz H4 HC4;go_wp2;refine Zu ?_;go_wp2;go_ret2;refine ⟨?_,H5.o.below⟩;have a0:r8 / P<=1073741824:=ZQ (Zfp ..) hq8;have a1:r8 / P*c<=4294967296:=ZeF a0 h6;have a2:r8 % P*U<=4096:=ZeF (ZQ (Nat.le_of_lt (ZaU _ (by omega))) hP2) hUl.2.1;have a3:u6 % c<c:=ZaU _ (by omega);have a4:x % U<U:=ZaU _ (by omega);have b0:(r8:Int) / (P:Int)=((r8 / P:Nat):Int):=by push_cast;rfl
 have b1:((r8 / P:Nat):Int)*(c:Int)=((r8 / P*c:Nat):Int):=by rw [Zih]
 have b2:(r8:Int) % (P:Int)=((r8 % P:Nat):Int):=by rw [Zii]
 have b3:((r8 % P:Nat):Int)*(U:Int)=((r8 % P*U:Nat):Int):=by rw [Zih]
 have b4:(u6:Int) % (c:Int)=((u6 % c:Nat):Int):=by rw [Zii]
 have b5:(x:Int) % (U:Int)=((x % U:Nat):Int):=by rw [Zii]
 show Ending.returned (.tuple #[int i64 (wrap64 (wrap64 (wrap64 ((r8:Int) / (P:Int))*(c:Int))+(u6:Int) % (c:Int))),int i64 (wrap64 (wrap64 ((r8:Int) % (P:Int)*(U:Int))+(x:Int) % (U:Int)))])=_;rw [b0,b2,b4,b5,Zbu (n:=r8 / P) (by omega),b1,b3,Zbu (n:=r8 / P*c) (by omega),Zbu (n:=r8 % P*U) (by omega),<-ZeG,<-ZeG,Zbu (by omega),Zbu (by omega)];unfold ZB Ly.U Ly.P;simp only;rw [HU.o,HU6.o,HR8.o,<-HP3.o]
end
end Go.Proofs.YtcbdghojlbpomaaGreat
namespace Go.Proofs.YtcbdghojlbpomaaGreat
open Tryz
open HP (pt mapOf)
open Go.IntKind (i64 u64)
open Go.Value (int pointer slice)
open Go.Obj (cells)
open Go.RowKit
section
variable {W w : World} {I : Hp} {l : List HP}
set_option maxRecDepth 4000
set_option maxHeartbeats 8000000
theorem robjects_spec (l:Ly) (hl:l.ok) (size:Nat) (hsz:size<=512) (N:Nat) (hN:IsObjs l size N) (w:World):Calls prog 31 #[l.val,int i64 size] w fun e w'=>e=.returned (int i64 N)∧Below w.heap.size w w':=by
 have hs:=ZdS hl;have hbk:=fun x hx=>rplace_spec l hl x hx;have hsm:=fun x (hx:x<=512)=>ZmH hl hx;have hun:=fun k n (h:IsObjs l k n)=>h.succ;have hz:=IsObjs.zero l;have HELD:=Zh (fun (w:World)=>Zqd size hsz w);obtain ⟨L,hL⟩:∃ L,l=L:=⟨_,rfl⟩;obtain ⟨o,u,c⟩:=l;have hsp:=shape1_spec (o:Int) u c;rw [hs] at hsp;have HS:=Zh hsp;have h0:=(St.init w).alloc (cells #[int i64 o,int i64 u,int i64 c] 30);obtain ⟨g,hg⟩:∃ g,w.heap.size=g:=⟨_,rfl⟩;rw [hg] at h0;have HG:=Zh hg;have H0:=Zh h0;simp only [Ly.val] at *;rw [hL] at hbk hsm hun hz hN;have HBK:=Zh hbk;have HSM:=Zh hsm;have HUN:=Zh hun;have HZ:=Zh hz;have HN:=Zh hN;clear hsp hs hl h0 hbk hL hsm hun hz hg hN;go_enter func31,ntmps31;go_upto_region 1 with fail;rw [HG.o];have h1:=H0.o;generalize (World.alloc _ _:World)=w1 at h1 |-;obtain ⟨x0,x1,x2⟩:=Zbw h1;have H1:=Zh h1;clear H0 HG h1;go_wp2_with fail;refine (HS.o _).mono ?_;rintro e w2 ⟨rfl,hb2⟩;have H2:=Zh (H1.o.keep hb2);clear hb2 HS x0 x1 x2 H1;go_wp2;go_loopw [5,6] (fun a5 a6 wr=>∃ i n:Nat,a6=int i64 i∧a5=int i64 n∧i<=size∧n<=513∧IsObjs L i n∧St w w.hp wr [pt g (cells #[int i64 o,int i64 u,int i64 c] 30)]) (fun _ a6 _=>(size - (intOf a6).toNat:Nat));case atStart=>exact ⟨0,0,rfl,rfl,by omega,by omega,HZ.o,H2.o⟩
 case round =>
  obtain ⟨i,n,rfl,rfl,hi,hn,hob,hst⟩:=hrel;clear H2;have HE:=Zh (HELD.o wr);by_cases hlt:i<size
  ·have d0:decide ((i:Int)<(size:Int))=true:=by rw [Ze];omega
   obtain ⟨x0,x1,x2⟩:=Zbw hst;have hp:=HBK.o i (by omega) wr;have hsm:=HSM.o i (by omega);have hob2:=HUN.o i n hob;obtain ⟨B,hB⟩:∃ B,(ZB L i).1=B:=⟨_,rfl⟩;rw [hB] at hp hsm hob2;obtain ⟨B2,hB2⟩:∃ B,(ZB L i).2=B:=⟨_,rfl⟩;rw [hB2] at hp;have HPL:=Zh hp;have HST:=Zh hst;have HOB:=Zh hob2;clear hp hst hob hob2 hB hB2;by_cases hmm:n<B+1;all_goals
    go_wp2_with fail;refine HE.o.mono ?_;rintro e w3 ⟨rfl,rfl⟩;go_wp2_with fail;refine HPL.o.mono ?_;rintro e w3 ⟨rfl,hb3⟩;have H3:=Zh (HST.o.keep hb3);clear x0 x1 x2 hb3;go_wp2;go_roundw;case rel=>exact ⟨i+1,max n (B+1),by go_num,by exact congrArg _ (by omega),by omega,by omega,HOB.o,H3.o⟩
    case measure=>simp [intOf]<;>omega
  ·obtain rfl:i=size:=by omega
   have d0:decide ((i:Int)<(i:Int))=false:=by rw [Zk];omega
   have HB:=Zh hst.below;obtain rfl:n=N:=hob.same HN.o;clear hst hob;go_wp2_with fail;refine HE.o.mono ?_;rintro e w3 ⟨rfl,rfl⟩;go_wp2;go_ret;exact ⟨rfl,HB.o⟩
theorem rbytes_spec (l:Ly) (hl:l.ok) (size:Nat) (hsz:size<=512) (b:Nat) (w:World):Calls prog 33 #[l.val,int i64 size,int i64 b] w fun e w'=>e=.returned (int i64 (ZI l size b))∧Below w.heap.size w w':=by
 have hs:=ZdS hl;have hbk:=fun x hx=>rplace_spec l hl x hx;have hsm:=fun x=>ZQ (Nat.le_of_lt (ZkG hl x)) (Zlg hl.o1 hl.o2).2;have hun:=fun k n (h:IsBytes l k b n)=>h.succ;have hz:IsBytes l 0 b 0:=⟨fun x hx=>by omega,.inl rfl⟩;have hN:=ZqH hl size b;have HELD:=Zh (fun (w:World)=>Zqd size hsz w);obtain ⟨L,hL⟩:∃ L,l=L:=⟨_,rfl⟩;obtain ⟨o,u,c⟩:=l;have hsp:=shape1_spec (o:Int) u c;rw [hs] at hsp;have HS:=Zh hsp;have h0:=(St.init w).alloc (cells #[int i64 o,int i64 u,int i64 c] 30);obtain ⟨g,hg⟩:∃ g,w.heap.size=g:=⟨_,rfl⟩;rw [hg] at h0;have HG:=Zh hg;have H0:=Zh h0;simp only [Ly.val] at *;rw [hL] at hbk hsm hun hz hN |-;obtain ⟨N,hNN⟩:∃ N,ZI L size b=N:=⟨_,rfl⟩;rw [hNN] at hN |-;have HBK:=Zh hbk;have HSM:=Zh hsm;have HUN:=Zh hun;have HZ:=Zh hz;have HN:=Zh hN;clear hsp hs hl h0 hbk hL hsm hun hz hg hN hNN;go_enter func33,ntmps33;go_upto_region 1 with fail;rw [HG.o];have h1:=H0.o;generalize (World.alloc _ _:World)=w1 at h1 |-;obtain ⟨x0,x1,x2⟩:=Zbw h1;have H1:=Zh h1;clear H0 HG h1;go_wp2_with fail;refine (HS.o _).mono ?_;rintro e w2 ⟨rfl,hb2⟩;have H2:=Zh (H1.o.keep hb2);clear hb2 HS x0 x1 x2 H1;go_wp2;go_loopw [7,8] (fun a7 a8 wr=>∃ i n:Nat,a8=int i64 i∧a7=int i64 n∧i<=size∧n<=65∧IsBytes L i b n∧St w w.hp wr [pt g (cells #[int i64 o,int i64 u,int i64 c] 30)]) (fun _ a8 _=>(size - (intOf a8).toNat:Nat));case atStart=>exact ⟨0,0,rfl,rfl,by omega,by omega,HZ.o,H2.o⟩
 case round =>
  obtain ⟨i,n,rfl,rfl,hi,hn,hob,hst⟩:=hrel;clear H2;have HE:=Zh (HELD.o wr);by_cases hlt:i<size
  ·have d0:decide ((i:Int)<(size:Int))=true:=by rw [Ze];omega
   obtain ⟨x0,x1,x2⟩:=Zbw hst;have hp:=HBK.o i (by omega) wr;have hsm:=HSM.o i;have hob2:=HUN.o i n hob;obtain ⟨B,hB⟩:∃ B,(ZB L i).1=B:=⟨_,rfl⟩;obtain ⟨B2,hB2⟩:∃ B,(ZB L i).2=B:=⟨_,rfl⟩;rw [hB,hB2] at hp hob2;rw [hB2] at hsm;have HPL:=Zh hp;have HST:=Zh hst;clear hp hst hob hB hB2;by_cases hbb:B=b
   ·subst hbb;rw [Zb rfl] at hob2;have HOB:=Zh hob2;have d1:((B:Int)==(B:Int))=true:=by simp
    clear hob2;by_cases hmm:n<B2+1;all_goals
     go_wp2_with fail;refine HE.o.mono ?_;rintro e w3 ⟨rfl,rfl⟩;go_wp2_with fail;refine HPL.o.mono ?_;rintro e w3 ⟨rfl,hb3⟩;have H3:=Zh (HST.o.keep hb3);clear x0 x1 x2 hb3;go_wp2;go_roundw;case rel=>exact ⟨i+1,max n (B2+1),by go_num,by exact congrArg _ (by omega),by omega,by omega,HOB.o,H3.o⟩
     case measure=>simp [intOf]<;>omega
   ·rw [Za hbb] at hob2;have HOB:=Zh hob2;have d1:((B:Int)==(b:Int))=false:=by
     rw [Zfk];omega
    clear hob2;go_wp2_with fail;refine HE.o.mono ?_;rintro e w3 ⟨rfl,rfl⟩;go_wp2_with fail;refine HPL.o.mono ?_;rintro e w3 ⟨rfl,hb3⟩;have H3:=Zh (HST.o.keep hb3);clear x0 x1 x2 hb3;go_wp2;go_roundw;case rel=>exact ⟨i+1,n,by go_num,rfl,by omega,by omega,HOB.o,H3.o⟩
    case measure=>simp [intOf]<;>omega
  ·obtain rfl:i=size:=by omega
   have d0:decide ((i:Int)<(i:Int))=false:=by rw [Zk];omega
   have HB:=Zh hst.below;obtain rfl:n=N:=hob.same HN.o;clear hst hob;go_wp2_with fail;refine HE.o.mono ?_;rintro e w3 ⟨rfl,rfl⟩;go_wp2;go_ret;exact ⟨rfl,HB.o⟩
end
end Go.Proofs.YtcbdghojlbpomaaGreat
namespace Go.Proofs.YtcbdghojlbpomaaGreat
open Tryz
open HP (pt mapOf)
open Go.IntKind (i64 u64)
open Go.Value (int pointer slice)
open Go.Obj (cells)
open Go.RowKit
def tilde (nm:ByteArray):ByteArray:=⟨#[126]⟩++nm
theorem tilde_size (nm:ByteArray):(tilde nm).size=nm.size+1:=by
 unfold tilde;rw [ByteArray.size_append];show 1+nm.size=_;omega
theorem tilde_hold (nm:ByteArray):holdN (tilde nm)=true:=by
 have h:=ZnH (s:=tilde nm) (by rw [tilde_size];omega);rw [<-h];have e:(tilde nm).extract 0 1=⟨#[126]⟩:=by
  unfold tilde;refine ByteArray.ext ?_;simp [ByteArray.data_extract,ByteArray.data_append]
 rw [e,<-show ([126]:List UInt8)=(⟨#[126]⟩:ByteArray).toList from (by first|rfl|decide|simp)];simp
theorem tilde_rest (nm:ByteArray):(tilde nm).extract 1 (tilde nm).size=nm:=by
 rw [tilde_size];unfold tilde;refine ByteArray.ext ?_;simp [ByteArray.data_extract,ByteArray.data_append];try rfl
section
variable {W w : World} {I : Hp} {l : List HP} {p q : Nat} {S : Str}
set_option maxRecDepth 4000
set_option maxHeartbeats 8000000
theorem ihold_spec (h:Hd) (R:List RO) (nm:ByteArray) {m:Nat} (hs:St W I w (Zd p S::imgHP q p h::l)) (J:IJ S h R) (hk:Keeps S (m+2)) (hn:nameB nm=true) (h0:heldM h.marks=none) (hnx:h.next<1073741824) :
  Calls prog 26 #[pointer (some ⟨q,0,none⟩),.string nm] w fun x w'=>∃ I',I.sub I'∧x=.returned (int i64 0)∧∃ S',St W I' w' (Zd p S'::imgHP q p (snapH h (tilde nm))::l)∧IJ S' (snapH h (tilde nm)) R∧Keeps S' 98000:=by
 have HM:=Zh (ZbK hs J.st.live.on);have HN:=Zh (ZeP nm w);rw [hn] at HN;have hnm:∀ x ∈ h.marks,1<=x.name.size:=fun x hx=>(Mk.named_size (J.ok.names x hx)).1;have hns:1<=nm.size∧nm.size<=12:=by
  have:=hn;unfold nameB at this;rw [Ze] at this;exact ⟨this.1,this.2.1⟩
 have h17:h.marks.length<=1000:=ZQ J.ok.many (by decide);have HG:=J.hd.hold (nm:=tilde nm) (tilde_hold nm) (by rw [tilde_size];omega) (by rw [tilde_rest];exact hn) hnx h0;obtain ⟨b1,B⟩:=J.st.bar J.hd.mid.uok;have hr1:=J.recd.seen (S':=(Zr S).2) (by rw [B.seen]);have hkb:Keeps (Zr S).2 (m+2):=ZbS hk;obtain ⟨h2,hh2⟩:∃ x:Hd,snapH h (tilde nm)=x:=⟨_,rfl⟩;rw [hh2] at HG |-;have hok2:=HG.ok;have sv:=B.st.save J.hd.mid hr1 hok2 (roll:=0) HG.mid;have sv1:=sv.1;obtain ⟨S2,hS2⟩:∃ x,(saveH (Zr S).2 h2 0).2=x:=⟨_,rfl⟩;rw [hS2] at sv;have hk2:Keeps S2 98000:=sv.2.1.fresh HG.mid.uok sv.2.2.2 (m:=m) (by rw [<-hS2];exact Zed hkb);have FIN:=Zh (And.intro (HG.ij sv.2.1 sv.2.2.1) hk2);obtain ⟨r,hr0,LEFT⟩:∃ r:Int,2500<=r∧Hid (∀ (wx:World) (I':Hp) (l':List HP),St W I' wx (Zd p S::l')->Calls prog 74 #[pointer (some ⟨p,0,none⟩)] wx fun e w'=>e=.returned (int i64 r)∧Below wx.heap.size wx w'):=by
  have hf:=J.st.live.inv.few J.hd.mid.uok;have hu:=J.st.room;refine ⟨max 0 (wrap64 (S.room - S.used)),?_,Zh (fun wx I' l' hst=>ZcJ hst)⟩;unfold wrap64;omega
 have d6:decide (r<2500)=false:=by rw [Zk];omega
 obtain ⟨v,hv,hi⟩:=(hs.pull 1 _ rfl).img_open;have hh:=Zjs h hnm v w (ZbW hi hv) h17;rw [h0] at hh;obtain ⟨c0,c1,c2,c3,c4,c5,c6,c7,c8,c9⟩:=Zz hi;have HH:=Zh hh;have HS:=Zh hs;have COP:=Zh (fun (v:Value) (wx:World) (l':List HP) (hst:St W I wx l') (hv:SliceSrc wx 4 v h.marks.length (h.marks.flatMap Mk.vals))=>ZeM h v wx hst hv h17)
 have MK:Hid (∀ (v:Value) (wx:World) (l':List HP),St W I wx (HP.win 66 4 v h.marks.length (h.marks.flatMap Mk.vals)::Zd p S::imgHP q p h::l')->Calls prog 87 #[pointer (some ⟨q,0,none⟩),.agg (h.cells v),.string (tilde nm)] wx fun e w'=>∃ I'',I.sub I''∧e=.returned (int i64 0)∧St W I'' w' (Zd p S2::imgHP q p h2::l')):=Zh (fun v wx l' hst=>by
  have:=ZnY h h (tilde nm) (by rw [hh2];exact hok2) v hst hk b1 (by rw [hh2];exact sv1);rw [hh2,hS2] at this
  exact this)
 have OPEN:=Zh (fun (wx:World) (l':List HP) (hst:St W I wx (imgHP q p h::l'))=>hst.img_open);obtain ⟨F1,hF1⟩:∃ x,imgHP q p h=x:=⟨_,rfl⟩;simp only [hF1] at MK HS OPEN;unfold tilde at MK;clear hs J hn hi hv hh hnm hk hnx HG B b1 hr1 hkb hok2 sv sv1 hk2 hS2 hr0 h17 h0 hF1 hh2;obtain ⟨sz,⟨o,u,cn⟩,nx,sq,ms⟩:=h;simp only [Hd.cells,mkVal] at *;go_enter func26,ntmps26;go_wp2_with fail;refine HM.o.mono ?_;rintro x w2 ⟨rfl,rfl⟩;go_wp2_with fail;refine HN.o.mono ?_;rintro x w2 ⟨rfl,rfl⟩;go_wp2_with fail;refine HH.o.mono ?_;rintro e w2 ⟨rfl,hb2⟩;have h3:=(HS.o.keep hb2).alloc (cells #[int i64 0,.string ⟨#[]⟩,int i64 0,.bool false] 66);have H3:=Zh h3;clear hb2 h3 c0 c1 c2 c3 c4 c5 c6 c7 c8 c9 HH HM HN HS;go_upto_region 7 with fail;have h3:=H3.o;generalize (World.alloc _ _:World)=w3 at h3 |-;have LF:=Zh (LEFT.o _ _ _ (h3.pull 1 _ rfl));obtain ⟨v3,hv3,hi3⟩:=OPEN.o _ _ (h3.pull 2 _ rfl);obtain ⟨c0,c1,c2,c3,c4,c5,c6,c7,c8,c9⟩:=Zz hi3;have H4:=Zh h3;clear h3 H3 LEFT hv3 hi3;go_wp2_with fail;refine LF.o.mono ?_;rintro e w4 ⟨rfl,hb4⟩;have h4:=H4.o.keep hb4;clear c0 c1 c2 c3 c4 c5 c6 c7 c8 c9;obtain ⟨v4,hv4,hi4⟩:=OPEN.o _ _ (h4.pull 2 _ rfl);obtain ⟨c0,c1,c2,c3,c4,c5,c6,c7,c8,c9⟩:=Zz hi4;have HCO:=Zh (COP.o v4 _ _ h4 (ZbW hi4 hv4));clear hb4 hi4 hv4 h4 H4 LF OPEN COP;go_wp2_with fail;refine HCO.o.mono ?_;rintro e w5 ⟨A5,rfl,h5⟩;have HMK:=Zh (MK.o _ _ _ ((h5.pull 3 _ rfl).pull 3 _ rfl |>.pull 2 _ rfl));simp only [Zx,Zy] at HMK;clear h5 MK HCO c0 c1 c2 c3 c4 c5 c6 c7 c8 c9;go_wp2_with fail;refine HMK.o.mono ?_;rintro e w9 ⟨I9,hs9,rfl,h9⟩;have HS9:=Zh hs9;have H9:=Zh h9;clear h9 hs9;go_wp2;go_ret;exact ⟨I9,HS9.o,rfl,S2,((H9.o.pull 2 _ rfl).drop),FIN.o.1,FIN.o.2⟩
end
end Go.Proofs.YtcbdghojlbpomaaGreat
namespace Go.Proofs.YtcbdghojlbpomaaGreat
open Tryz
open HP (pt mapOf)
open Go.IntKind (i64 u64)
open Go.Value (int pointer slice)
open Go.Obj (cells)
open Go.RowKit
section
variable {W w : World} {I : Hp} {l : List HP}
set_option maxRecDepth 4000
set_option maxHeartbeats 8000000
theorem kafter_spec (es:List (Ev × Value)) (n:Nat) (hn:n<=512) (vl:Value) (hs:St W I w l) (he:EvsI I vl es) (hnm:∀ x ∈ es,x.1.name.size<=1000) :
  Calls prog 25 #[int i64 n,vl] w fun x w'=>∃ I',I.sub I'∧∃ v',x=.returned v'∧VwI I' v' (foldV ⟨List.replicate n 0,[]⟩ (es.map (·.1)))∧St W I' w' l:=by
 have h1:=hs.alloc (cells #[slice none 0 0,slice none 0 0] 35);obtain ⟨g,hg⟩:∃ g,w.heap.size=g:=⟨_,rfl⟩;rw [hg] at h1;have HG:=Zh hg;have H1:=Zh h1;have HE:=Zh he;have HNM:=Zh hnm;obtain ⟨AE,cE,rfl,_⟩:=RowI.cap he.1;clear hs h1 hg he hnm;go_enter func25,ntmps25;go_upto_region 1 with fail;rw [HG.o];have h1:=H1.o;generalize (World.alloc _ _:World)=w1 at h1 |-;have HN:=Zh (ZmX n hn h1);clear H1 HG h1;go_wp2_with fail;refine HN.o.mono ?_;rintro x w2 ⟨I2,A2,c2,hs2,rfl,hb2,h2⟩;have HV:=Zh (show VwI I2 (.agg #[slice A2 n c2,slice none 0 0]) ⟨List.replicate n 0,[]⟩ from ⟨_,_,[],rfl,hb2,Zkl _ _,OldsI.nil _⟩);have HF:=Zh (ZnX es ⟨List.replicate n 0,[]⟩ _ _ h2 HV.o ⟨by rw [Za7];exact hn,by simp,fun x hx=>by cases hx⟩ (HE.o.mono hs2) HNM.o);have HS2:=Zh hs2;clear hb2 h2 hs2 HN;go_wp2_with fail;refine HF.o.mono ?_;rintro x w3 ⟨I3,hs3,v3,rfl,hv3,h3⟩;obtain ⟨A3,n3,c3,B3,m3,d3,rfl,hn3⟩:=ZhL hv3;obtain ⟨y0,y1⟩:=Zq h3;have fz:=frozen_of_row h3.heap;have H4:=Zh (h3.set2 (slice A3 n3 c3) (slice B3 m3 d3));have HV3:=Zh hv3;have HS3:=Zh (HS2.o.trans hs3);clear h3 hv3 hs3 hn3 HF;go_wp2_with fail;have h4:=H4.o;generalize (World.setCell _ _ _:World)=w9 at h4 |-;clear y0 y1;obtain ⟨y0,y1⟩:=Zq h4;refine ZaK (v:=.agg #[slice A3 n3 c3,slice B3 m3 d3]) (by simp [results,results25,go_sem,y0,y1]) rfl ?_;exact ⟨I3,HS3.o,_,rfl,HV3.o,h4.drop⟩
end
end Go.Proofs.YtcbdghojlbpomaaGreat
