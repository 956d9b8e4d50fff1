import Derived.Test.YtcbdghojlbpomaaGreatIF30
set_option linter.all false
set_option maxRecDepth 4000
set_option maxHeartbeats 8000000
open Go.RowKit
open Go.IntKind (i64 u64)
open Go.Value (int pointer slice)
open Go.Obj (cells)
namespace Go.Proofs.YtcbdghojlbpomaaGreat
open Tryz
open HP (pt mapOf)
variable {W w w':World} {I:Hp} {l:List HP}
def OldsI (I:Hp) (M:List (ByteArray × Value)) (V:List (ByteArray × List Int)):Prop:=M.map (·.1)=V.map (·.1)∧∀ (i:Nat) (x:ByteArray × Value) (y:ByteArray × List Int),M[i]?=some x->V[i]?=some y->Zw I x.2 y.2
theorem OldsI.len {I:Hp} {M:List (ByteArray × Value)} {V:List (ByteArray × List Int)} (h:OldsI I M V):M.length=V.length:=by
 have:=congrArg List.length h.1;rw [ZE,ZE] at this;exact this
theorem OldsI.mono {I I':Hp} {M:List (ByteArray × Value)} {V:List (ByteArray × List Int)} (s:I.sub I') (h:OldsI I M V):OldsI I' M V:=⟨h.1,fun i x y hx hy=>(Zbv _ _).mono s (h.2 i x y hx hy)⟩
theorem OldsI.nil (I:Hp):OldsI I [] []:=⟨rfl,fun i x y hx=>by simp at hx⟩
theorem OldsI.push {I:Hp} {M:List (ByteArray × Value)} {V:List (ByteArray × List Int)} (h:OldsI I M V) {nm:ByteArray} {v:Value} {d:List Int} (hv:Zw I v d):OldsI I (M++[(nm,v)]) (V++[(nm,d)]):=by
 refine ⟨by rw [Z4,Z4,h.1];rfl,fun i x y hx hy=>?_⟩;have hl:=h.len;by_cases hi:i<M.length
 ·rw [Zda hi] at hx;rw [Zda (by omega)] at hy;exact h.2 i x y hx hy
 ·rw [ZdF (by omega)] at hx hy;rw [<-hl] at hy;by_cases h0:i - M.length=0
  ·rw [h0] at hx hy;simp at hx hy;subst hx hy;exact hv
  ·rw [Zb1 (by simp;omega)] at hx;cases hx
theorem OldsI.sl {I:Hp} {M:List (ByteArray × Value)} {V:List (ByteArray × List Int)} (h:OldsI I M V):∀ x ∈ M,IsSl x.2:=fun x hx=>by
 obtain ⟨i,hi⟩:=Zc8 hx;have hl:=h.len;have:i<V.length:=by
  have:=(ZS.1 hi).1;omega
 obtain ⟨A,c,e,_⟩:=h.2 i x _ hi (ZL this);exact ⟨_,_,_,e⟩
def VwI (I:Hp) (v:Value) (V:Vw):Prop:=∃ vd vs M,v=.agg #[vd,vs]∧Zw I vd V.data∧RowI I 2 vs M.length (M.flatMap ocell)∧OldsI I M V.snaps
theorem VwI.mono {I I':Hp} {v:Value} {V:Vw} (s:I.sub I') (h:VwI I v V):VwI I' v V:=by
 obtain ⟨vd,vs,M,e,h1,h2,h3⟩:=h;exact ⟨vd,vs,M,e,(Zbv _ _).mono s h1,h2.mono s,h3.mono s⟩
theorem Zgb:(prog.info? 58).map (fun i=>(i.zero,i.size,i.bytes))=some (some (.agg #[.string ⟨#[]⟩,slice none 0 0]),2,40):=by kernel_rfl
theorem ZbA {M:List (ByteArray × Value)} (h:∀ x ∈ M,IsSl x.2):∀ u ∈ M.flatMap ocell,u.oneCell'=true:=fun u hu=>by
 obtain ⟨x,hx,hu⟩:=Zcz.1 hu;obtain ⟨A,n,c,e⟩:=h x hx;simp only [ocell,ZO,ZdE,ZcQ] at hu;rcases hu with rfl|rfl
 ·rfl
 ·rw [e];rfl
section
variable {p q : Nat} {S : Str}
theorem Zhd (h:Hd) (R:List RO) {m:Nat} (hs:St W I w (Zd p S::imgHP q p h::l)) (hk:Inv S m) (hok:h.Ok) (hon:S.on=true) (hrd:∀ snap:Int,0<=snap->snap<=1073741824->ZhZ S R snap) :
  Calls prog 20 #[pointer (some ⟨q,0,none⟩)] w fun e w'=>∃ I' v,I.sub I'∧e=.returned (.tuple #[v,int i64 0])∧VwI I' v (viewI h R)∧St W I' w' (Zd p S::imgHP q p h::l):=by
 have hl:=hok.shape;have h17:h.marks.length<=17:=hok.many;have hsz:=hok.size;have hsn:∀ mk ∈ h.seen,mk.size<=512∧0<=mk.id∧mk.id<=1073741824:=fun mk hm=>by
  have h1:=hok.sizes mk (ZcH hm);have h2:=hok.ids mk (ZcH hm);have h3:=hok.next;omega
 have hbt:∀ snap:Int,0<=snap->snap<=1073741824->∀ size:Nat,size<=512->∀ (wx:World) (I':Hp) (l':List HP),St W I' wx (Zd p S::imgHP q p h::l')->Calls prog 82 #[pointer (some ⟨q,0,none⟩),int i64 snap,int i64 size] wx fun e w'=>∃ I'' v,I'.sub I''∧e=.returned (.tuple #[v,int i64 0])∧Zw I'' v (Zag h.l R snap size)∧St W I'' w' (Zd p S::imgHP q p h::l') :=
  fun snap h0 h1 size hz wx I' l' hst=>ZmL h hl R snap size hz hst hk (hrd snap h0 h1)
 have ha:=hs.alloc (cells #[slice none 0 0,slice none 0 0] 35);have HMY:=Zh (ZbK ha.drop hon);have hb:=ha.alloc (cells #[slice none 0 0,slice none 0 0] 35);obtain ⟨v,hv,h1⟩:=(hs.pull 1 _ rfl).img_open;obtain ⟨c0,c1,c2,c3,c4,c5,c6,c7,c8,c9⟩:=Zz h1;have lt0:q<w.heap.size:=h1.lt;have hseen:=Zkf h v _ (ZbW hb hv) (by omega);obtain ⟨sn,hsn2⟩:∃ x,h.seen=x:=⟨_,rfl⟩;have hsl:sn.length<=17:=by
  rw [<-hsn2];exact ZQ (Zbi _ _) h17
 rw [hsn2] at hseen hsn;obtain ⟨g2,hg2⟩:∃ g,w.heap.size=g:=⟨_,rfl⟩;obtain ⟨g5,hg5⟩:∃ g,(w.alloc (cells #[slice none 0 0,slice none 0 0] 35)).heap.size=g:=⟨_,rfl⟩;have hg25:w.heap.size+1=g5:=by rw [<-hg5,Zb2]
 rw [hg2,hg5] at hb;have HG2:=Zh hg2;have HG5:=Zh hg5;have HG25:=Zh hg25;have HB:=Zh hb;have HBT:=Zh hbt;have HSN:=Zh hsn;have HSN2:=Zh hsn2;have HSE:=Zh hseen;obtain ⟨A,c,rfl,_⟩:=hv.cap;clear hs hk hok hon hrd hl ha hb h1 hv hseen hg2 hg5 hg25 hbt hsn hsn2;obtain ⟨sz,⟨o,u,cn⟩,nx,sq,ms⟩:=h;simp only [Hd.cells] at HSE c2 c3 c4 c5 c6 c7 c8 hsz h17;go_enter func20,ntmps20;go_wp2_with fail;refine HMY.o.mono ?_;rintro e w2 ⟨rfl,rfl⟩;go_wp2_with fail;refine HSE.o.mono ?_;rintro e w3 ⟨A3,cc,rfl,h3⟩;obtain ⟨I3,hs3,hr3,h3⟩:=(HB.o.row_fresh h3.below h3.row_new).freeze_row;rw [HG25.o,HG2.o];have HR3:=Zh hr3;have H3:=Zh (h3.row_nil 58 2);have HS3:=Zh hs3;clear h3 hr3 hs3 HB HSE c0 c1 c2 c3 c4 c5 c6 c7 c8 c9 lt0;go_wp2;go_loopw [24] (fun a24 wr=>∃ (i:Nat) (I':Hp) (M:List (ByteArray × Value)) (A:Option Addr) (c:Nat),a24=int i64 i∧i<=sn.length∧I3.sub I'∧OldsI I' M ((sn.take i).map fun m=>(m.name,Zag ⟨o,u,cn⟩ R m.id m.size))∧St W I' wr (HP.row 58 2 (slice A M.length c) M.length (M.flatMap ocell)::pt g5 (cells #[slice none 0 0,slice A M.length c] 35)::pt g2 (cells #[slice none 0 0,slice none 0 0] 35)::Zd p S::imgHP q p ⟨sz,⟨o,u,cn⟩,nx,sq,ms⟩::l)) (fun a24 _=>sn.length - (intOf a24).toNat);case atStart=>exact ⟨0,I3,[],none,0,rfl,by omega,Hp.sub.refl _,OldsI.nil _,H3.o⟩
 case round =>
  obtain ⟨i,I',M,A1,c1,rfl,hi,hsub,hol,hst⟩:=hrel;clear H3;by_cases hlt:i<sn.length
  ·have d0:decide ((i:Int)<(sn.length:Int))=true:=by rw [Ze];omega
   obtain ⟨e,he⟩:∃ e,sn[i]?=some e:=⟨_,ZL hlt⟩;obtain ⟨k1,k2,k3⟩:=HSN.o e (Zay he);obtain ⟨b,bo,e1,hc⟩:=ZbJ (i:=i) (mk:=Mk.vals) (k:=4) (RowI.mono hsub HR3.o) (Hp.sub.refl _) hst (fun _=>rfl) he;simp only [ZF,Zae,ZK] at e1;subst e1;have htk:(sn.take (i+1)).map (fun m=>(m.name,Zag ⟨o,u,cn⟩ R m.id m.size))=(sn.take i).map (fun m=>(m.name,Zag ⟨o,u,cn⟩ R m.id m.size))++[(e.name,Zag ⟨o,u,cn⟩ R e.id e.size)]:=by
    obtain ⟨hil,hee⟩:=ZS.1 he;rw [ZbG hil,hee,Z4];rfl
   obtain ⟨xi,xn,xs,xg⟩:=e;simp only at k1 k2 k3 htk;have y0:=hc 0 (by omega);have y1:=hc 1 (by omega);have y2:=hc 2 (by omega);have y3:=hc 3 (by omega);simp only [Mk.vals,Zg,Zi,Zbg] at y0 y1 y2 y3;have h4:=hst.alloc (cells #[int i64 xi,.string xn,int i64 xs,.bool xg] 66);obtain ⟨g7,hg7⟩:∃ g,wr.heap.size=g:=⟨_,rfl⟩;rw [hg7] at h4;have hbb:=HBT.o xi k2 k3 xs k1 _ _ _ ((h4.pull 5 _ rfl).pull 5 _ rfl);simp only [Zx,Zy] at hbb;have hin2:(i:Int)<(sn.length:Int):=by omega
   have HBB:=Zh hbb;have HSUB:=Zh hsub;have HOL:=Zh hol;have HTK:=Zh htk;have hml:M.length<=1000:=by
    have:=hol.len;rw [ZE,ZN] at this;omega
   have HG7:=Zh hg7;clear hc he hst h4 hbb hol htk hsub k1 k2 k3 hg7;go_wp2_with fail;rw [HG7.o];refine HBB.o.mono ?_;rintro e w7 ⟨I7,v7,hs7,rfl,hb7,h7⟩;obtain ⟨A7,c7,rfl,hc7⟩:=RowI.cap hb7;obtain ⟨x0,x1⟩:=Zq (h7.pull 4 _ rfl);obtain ⟨y0,y1,y2,y3⟩:=ZX (h7.pull 2 _ rfl);have hol2:=(HOL.o.mono hs7).push (nm:=xn) hb7;rw [<-HTK.o] at hol2;obtain ⟨A8,c8,w8,hr8,h8⟩:=St.row_push (ty:=33) underlying33 Zgb rfl (by decide) (by decide) (mk:=ocell) (fun _=>rfl) (h7.pull 3 _ rfl) (xn,slice A7 (Zag ⟨o,u,cn⟩ R xi xs).length c7) (fun u hu=>by simp only [ocell,ZO,ZdE,ZcQ] at hu;rcases hu with rfl|rfl <;> rfl) (by omega) #[.string xn,slice A7 (Zag ⟨o,u,cn⟩ R xi xs).length c7] rfl;obtain ⟨M2,hM2⟩:∃ x,M++[(xn,slice A7 (Zag ⟨o,u,cn⟩ R xi xs).length c7)]=x:=⟨_,rfl⟩;rw [hM2] at hol2 hr8 h8;simp only [Zx,Zy] at h8;obtain ⟨z0,z1⟩:=Zq (h8.pull 4 _ rfl);have f:=frozen_of_row (h8.pull 4 _ rfl).heap;have h9:=(((((((h8.pull 4 _ rfl).setCell 1 (slice A8 M2.length c8)).pull 4 _ rfl).drop).pull 1 _ rfl).pull 4 _ rfl).pull 2 _ rfl).pull 2 _ rfl;simp only [Zx,Zy] at h9;have H9:=Zh h9;have HR8:=Zh hr8;have HOL2:=Zh hol2;have HS7:=Zh (HSUB.o.trans hs7);have l5:g5<w7.heap.size:=(h7.pull 4 _ rfl).lt;have l7:g7<w7.heap.size:=(h7.pull 2 _ rfl).lt;clear hb7 h7 hol2 hr8 h8 h9 hs7 hM2;go_wp2_with (at_builtin;refine Zax _ rfl (.tmp 42) (.tmp 47) 33 33 rfl _ _ rfl rfl _ _ HR8.o ?_);go_roundw;case rel=>exact ⟨i+1,I7,M2,A8,c8,by go_num,by omega,HS7.o,HOL2.o,H9.o⟩
   case measure=>simp [intOf]<;>omega
  ·obtain rfl:i=sn.length:=by omega
   have d0:decide (((sn.length:Nat):Int)<(sn.length:Int))=false:=by rw [Zk];omega
   rw [Zbk] at hol;obtain ⟨I4,hs4,hr4,h4⟩:=hst.freeze_row;have hbb:=HBT.o 0 (by decide) (by decide) sz hsz _ _ _ ((h4.pull 3 _ rfl).pull 3 _ rfl);simp only [Zx,Zy] at hbb;obtain ⟨v4,_,h4i⟩:=(h4.pull 3 _ rfl).img_open;have c2:=(Zz h4i).c2;have HBB:=Zh hbb;have HOL:=Zh (hol.mono hs4);have HR4:=Zh hr4;have HS4:=Zh (HS3.o.trans (hsub.trans hs4));clear hst h4 hbb h4i hr4 hs4 hol hsub;go_wp2_with fail;refine HBB.o.mono ?_;rintro e w5 ⟨I5,v5,hs5,rfl,hb5,h5⟩;obtain ⟨A5,c5,rfl,hc5⟩:=RowI.cap hb5;have hbl:(Zag ⟨o,u,cn⟩ R 0 sz).length=sz:=ZaO ..;rw [hbl];have hb5:Zw I5 (slice A5 sz c5) (Zag ⟨o,u,cn⟩ R 0 sz):=by
    have h':=hb5;rw [hbl] at h';exact h'
   have h6:=h5.pull 2 _ rfl;obtain ⟨x0,x1⟩:=Zq h6;have f:=frozen_of_row h6.heap;have h7:St W I5 (w5.setCell ⟨g5,0,none⟩ (slice A5 sz c5)) (pt g5 (cells #[slice A5 sz c5,slice A1 M.length c1] 35)::_):=h6.setCell 0 (slice A5 sz c5);simp only [Zx,Zy] at h7;have h8:=h7.pull 3 _ rfl;simp only [Zx,Zy] at h8;have H7:=Zh h8;have HB5:=Zh hb5;have HS5:=Zh (HS4.o.trans hs5);have HOL5:=Zh (HOL.o.mono hs5);have HR5:=Zh (HR4.o.mono hs5);clear h5 h6 h7 h8 hb5 hs5 c2 HBB;go_upto_region 17 with fail;have h9:=H7.o;generalize (World.setCell _ _ _:World)=w9 at h9 |-;clear H7 x0 x1 f;obtain ⟨x0,x1⟩:=Zq (h9.pull 1 _ rfl);obtain ⟨z0,z1⟩:=Zq h9;have f:=frozen_of_row h9.heap;have H10:=Zh (h9.set2 (slice A5 sz c5) (slice A1 M.length c1));clear h9;go_wp2_with fail;have h10:=H10.o;generalize (World.setCell _ _ _:World)=w10 at h10 |-;clear x0 x1 z0 z1 f H10;obtain ⟨x0,x1⟩:=Zq h10;refine ZaK (v:=.tuple #[.agg #[slice A5 sz c5,slice A1 M.length c1],int i64 0]) (by simp [results,results20,go_sem,x0,x1]) rfl ?_;refine ⟨I5,_,HS5.o,rfl,⟨_,_,M,rfl,HB5.o,HR5.o,?_⟩,h10.drop.drop⟩;have hv:=HOL5.o;rw [<-HSN2.o] at hv;exact hv
end
section
variable {p q : Nat} {S : Str}
set_option maxRecDepth 8000
theorem ZnS {m:Nat} (hs:St W I w (Zd p S::l)) (hk:Inv S m) (hon:S.on=true) (ha:(attrS S recK nmH).2=4) :
  Calls prog 19 #[pointer (some ⟨p,0,none⟩),int i64 0] w fun e w'=>e=.returned (.tuple #[pointer none,int i64 4])∧St W I w' (Zd p S::l):=by
 have hlo:=Zjo hs hk (by rw [ha];decide);rw [ha] at hlo;have HRD:=Zh (ZgU hs hon);have HLO:=Zh hlo;clear hs hk hon ha hlo;go_enter func19,ntmps19;go_wp2_with fail;refine HRD.o.mono ?_;rintro e w2 ⟨rfl,rfl⟩;go_wp2_with fail;refine HLO.o.mono ?_;rintro e w3 ⟨rfl,h3⟩;have H4:=Zh (h3.alloc (cells #[int i64 0,int i64 0,int i64 0,int i64 0,int i64 0,int i64 0,slice none 0 0] 51)).drop;clear h3;go_wp2;go_ret2;exact ⟨rfl,H4.o⟩
theorem ZjB (hs:St W I w l):Calls prog 12 #[] w fun e w'=>∃ I',I.sub I'∧e=.returned (.bool true)∧St W I' w' l:=by
 have hL:Ly.ok ⟨3,2,1⟩:=⟨by decide,by decide,by decide,by decide,by decide,by decide⟩;obtain ⟨S,F,hl,hno⟩:=Zkm 10000 (by decide) (by decide) (size:=4) hL (by decide);have hok:(newH 4 ⟨3,2,1⟩).Ok:=(HdI.new hL (by decide)).ok;have NEW:=Zh (Zky 10000 hs);have OPN:=Zh (fun (wx:World) (p:Nat) (hst:St W I wx (Zd p (newS 10000)::l))=>ZnS hst (Zhj 10000).inv rfl F.attr);have FRE:=Zh (fun (wx:World) (l':List HP) (hst:St W I wx l')=>Zjz 10000 4 ⟨3,2,1⟩ hL (by decide) hst F)
 have VIE:=Zh (fun (wx:World) (p q:Nat) (I':Hp) (l':List HP) (hk:Keeps S 99000) (hst:St W I' wx (Zd p S::imgHP q p (newH 4 ⟨3,2,1⟩)::l'))=>by
  have:=Zhd (newH 4 ⟨3,2,1⟩) newR hst hk.inv hok F.on (fun snap h0 h1 o off n ho hn=>by
   have ht:=(ZhD Zgi hl (i:=(o:Int)) (o:=noRO) (Zhu fun n=>hno _ ZhW) (by unfold every at ho;omega) ⟨h0,h1⟩).2.2 off n (by unfold ZG;rw [Ze];omega);rw [ht,Zep,Zju]
   rfl)
  rw [ZkL] at this
  exact this)
 have HEL:=Zh (fun (wx:World) (p q:Nat) (I':Hp) (l':List HP) (hst:St W I' wx (imgHP q p (newH 4 ⟨3,2,1⟩)::l'))=>ZnR (newH 4 ⟨3,2,1⟩) (fun m hm=>by cases hm) rfl (ZaY _) hst);clear hL F hl hno hok hs;obtain ⟨h,hh⟩:∃ h,newH 4 ⟨3,2,1⟩=h:=⟨_,rfl⟩;rw [hh] at FRE VIE HEL;clear hh;simp only [Ly.val] at *;go_enter func12,ntmps12;go_wp2_with fail;refine NEW.o.mono ?_;rintro e w2 ⟨p,rfl,h2⟩;have HO:=Zh (OPN.o _ _ h2);clear h2 NEW OPN;go_wp2_with fail;refine HO.o.mono ?_;rintro e w3 ⟨rfl,h3⟩;have HF:=Zh (FRE.o _ _ h3);clear h3 HO FRE;go_wp2_with fail;refine HF.o.mono ?_;rintro e w4 ⟨I4,hs4,p4,q4,rfl,h4,hk4⟩;have HVW:=Zh (VIE.o _ _ _ _ _ hk4 h4);have HS4:=Zh hs4;clear h4 hs4 hk4 HF VIE;go_wp2_with fail;refine HVW.o.mono ?_;rintro e w5 ⟨I5,v5,hs5,rfl,hv5,h5⟩;obtain ⟨vd,vs,M,rfl,hd,hr,ho⟩:=hv5;have hml:=ho.len;simp only [ZaH] at hml;rw [hml] at hr;obtain ⟨A,c,rfl,_⟩:=hd.cap;obtain ⟨B,d,rfl,_⟩:=hr.cap;simp only [Za7] at hd |-;have h6:=h5.alloc (cells #[slice A 4 c,slice B 0 d] 35);obtain ⟨g6,hg6⟩:∃ g,w5.heap.size=g:=⟨_,rfl⟩;rw [hg6] at h6;have HG:=Zh hg6;have H6:=Zh h6;have HD:=Zh hd;have HS5:=Zh (HS4.o.trans hs5);clear h5 h6 hg6 hd hr ho hml hs5 HVW;go_upto_region 7 with fail;rw [HG.o];have h6:=H6.o;generalize (World.alloc _ _:World)=w6 at h6 |-;clear H6 HG;obtain ⟨x0,x1⟩:=Zq h6;have hcv:=Zdk (xs:=List.replicate 4 0) (v:=slice A 4 c) (n:=4) (RowI.src (show RowI I5 1 (slice A 4 c) 4 ((List.replicate 4 (0:Int)).map byteV) from HD.o) h6.imm (Zac _) (by decide));have dz:((strOfNums (List.replicate 4 (0:Int))).toList==[0,0,0,0])=true:=by rw [Lib.strOfNums_toList];rfl
 obtain ⟨z,hz⟩:∃ z,strOfNums (List.replicate 4 (0:Int))=z:=⟨_,rfl⟩;rw [hz] at hcv dz;have HH:=Zh (HEL.o _ _ _ _ _ (h6.pull 2 _ rfl));have H6:=Zh h6;clear hz h6 HEL;go_wp2_with fail;refine HH.o.mono ?_;rintro e w7 ⟨rfl,hb7⟩;have H7:=Zh (H6.o.keep hb7).drop.drop.drop.drop;clear hb7 HH H6;go_wp2;go_ret;exact ⟨I5,HS5.o,rfl,H7.o⟩
end
open Go.ChangeShapes Go.WideShapes Go.ChangeAt Go.Deep Go.Joins
set_option maxRecDepth 100000
section
variable {H : Type} {enc : TypeId × Value -> H} {P : Program} {base : Nat} {spare : Nat -> Bool} {held : Bool}
theorem ZqO {α:Type} (mk:α->List Value) (ok:α->Prop) {k:Nat} (hmk:∀ a,(mk a).length=k) (h0:0<k) {t e:TypeId} (ht:P.underlying t=some (.slice e)) (hk:P.cellsOf e=k)
  (hel:∀ fuel cs x,cs.length=k->DataW.trod enc P w base spare held fuel e cs=some x->∃ a,cs=mk a∧ok a) [Nonempty α]
  {v:Value} {d:DataW H} {p:List MemPlace} (h:DataW.Trod enc P w base spare held t v d p) (hs:∃ A n c,v=slice A n c) :
  ∃ l:List α,RowI w.hp k v l.length (l.flatMap mk)∧(∀ a ∈ l,ok a)∧l.length<=maxLen:=by
 obtain ⟨A,n,c,rfl,hnc,hcm,hA,hcells⟩:=ZkM ht hk h0 h hs;rcases Zbf n with rfl|hn
 ·exact ⟨[],⟨A,c,rfl,by simp,by simp,hcm,fun e=>(hA e).2,fun h=>absurd h (by simp)⟩,fun a ha=>by (cases ha),by simp⟩
 ·obtain ⟨b,off,rfl,hb,hc⟩:=hcells hn;have key:∀ i,∃ a,i<n->ok a∧∀ j,j<k->w.cell? ⟨b,off+(i*k+j),none⟩=(mk a)[j]?:=fun i=>by
   by_cases hin:i<n
   ·obtain ⟨cs,fuel,x,h1,h2,h3⟩:=hc i hin;obtain ⟨a,rfl,ha⟩:=hel fuel cs x h2 h1;exact ⟨a,fun _=>⟨ha,h3⟩⟩
   ·exact ⟨Classical.choice inferInstance,fun h=>absurd h hin⟩
  obtain ⟨f,key⟩:∃ f:Nat->α,∀ i,i<n->ok (f i)∧∀ j,j<k->w.cell? ⟨b,off+(i*k+j),none⟩=(mk (f i))[j]?:=⟨fun i=>Classical.choose (key i),fun i=>Classical.choose_spec (key i)⟩;have hfirst:∃ u,w.cell? ⟨b,off+(0*k+0),none⟩=some u:=by
   rw [(key 0 hn).2 0 h0];exact ⟨_,ZL (by rw [hmk];exact h0)⟩
  obtain ⟨u,hu⟩:=hfirst;obtain ⟨cs,t',f',hblk,_⟩:=Zji hu;refine ⟨(List.range n).map f,⟨_,c,by simp,by rw [ZeY hmk],by simpa using hnc,hcm,(fun e=>by cases e),fun _=>⟨b,off,cs,t',f',rfl,hblk,fun q x hq=>?_⟩⟩,fun a ha=>?_,by simp;omega⟩
  ·have hql:q<((List.range n).map f).length*k:=by
    rw [<-ZeY hmk];exact (ZS.1 hq).1
   simp only [ZE,ZeE] at hql;have hqd:q=q / k*k+q % k:=by rw [Zcc];exact (Zcl q k).symm
   have hi:q / k<n:=Nat.div_lt_of_lt_mul (by rw [Zcc];exact hql);have hj:q % k<k:=ZaU _ h0;have hai:((List.range n).map f)[q / k]?=some (f (q / k)):=by simp [hi]
   have h4:=ZeX hmk _ (q / k) (q % k) _ hai hj;rw [<-hqd,hq] at h4;have h5:=(key (q / k) hi).2 (q % k) hj;rw [<-h4,<-hqd] at h5;unfold World.cell? at h5;simpa [hblk] using h5
  ·obtain ⟨i,hi,rfl⟩:=ZH.1 ha;exact (key i (Za8.1 hi)).1
end
section
variable {H : Type} {enc : TypeId × Value -> H} {P : Program} {base : Nat} {spare : Nat -> Bool} {held : Bool}
theorem Zp9 {t:TypeId} {fs:Array Field} {fuel:Nat} {cs:List Value} {x:DataW H × List MemPlace} (ht:P.underlying t=some (.struct fs)) (h:DataW.trod enc P w base spare held fuel t cs=some x)
  (j:Nat) (f:Field) (hj:fs[j]?=some f):∃ n y,DataW.trod enc P w base spare held n f.type ((cs.drop f.offset).take (P.cellsOf f.type))=some y:=by
 obtain ⟨ys,n,hn,hy,hlen,hyl,hf⟩:=DataW.trod_struct ht h;have hjl:j<ys.length:=by rw [hyl];exact (Zby.1 hj).1
 exact ⟨n,ys[j],by rw [hf j f hj,ZL hjl]⟩
end
section
variable {H : Type} {enc : TypeId × Value -> H} {P : Program} {base : Nat} {spare : Nat -> Bool} {held : Bool}
theorem Zhv {t:TypeId} {fs:Array Field} {fuel:Nat} {cs:List Value} {x:DataW H × List MemPlace} (ht:P.underlying t=some (.struct fs)) (h:DataW.trod enc P w base spare held fuel t cs=some x)
  (j:Nat) (f:Field) (hj:fs[j]?=some f) (h1:P.cellsOf f.type=1) {c:Value} (hc:cs[f.offset]?=some c):∃ n y,DataW.trod enc P w base spare held n f.type [c]=some y:=by
 obtain ⟨n,y,hy⟩:=Zp9 ht h j f hj;have hd:(cs.drop f.offset).take 1=[c]:=by
  obtain ⟨hlt,he⟩:=ZS.1 hc;rw [ZdI hlt,he];rfl
 rw [h1,hd] at hy;exact ⟨n,y,hy⟩
theorem Zhw {t k:TypeId} {kd:IntKind} {fs:Array Field} {fuel:Nat} {cs:List Value} {x:DataW H × List MemPlace} (ht:P.underlying t=some (.struct fs)) (h:DataW.trod enc P w base spare held fuel t cs=some x)
  (j:Nat) (f:Field) (hj:fs[j]?=some f) (hk:f.type=k) (hu:P.underlying k=some (.int kd)) (h1:P.cellsOf k=1) {c:Value} (hc:cs[f.offset]?=some c):∃ m:Int,c=int kd m∧(Lit.int kd m).wf=true:=by
 subst hk;obtain ⟨n,y,hy⟩:=Zhv ht h j f hj h1 hc;obtain ⟨m,hm,_,hw⟩:=DataW.trod_int hu hy;exact ⟨m,by simpa using hm,hw⟩
end
section
variable {H : Type} {enc : TypeId × Value -> H} {P : Program} {base : Nat} {spare : Nat -> Bool} {held : Bool}
end
set_option maxRecDepth 100000
def ecell (x:Ev × Value):List Value:=[int i64 x.1.kind,int i64 x.1.off,int i64 x.1.len,x.2,.string x.1.name]
def evOk (I:Hp) (x:Ev × Value):Prop:=Zw I x.2 x.1.data∧(∀ b ∈ x.1.data,isByte b)∧x.1.data.length<=maxLen
def EvsI (I:Hp) (v:Value) (l:List (Ev × Value)):Prop:=RowI I 5 v l.length (l.flatMap ecell)∧∀ x ∈ l,evOk I x
theorem EvsI.mono {I I':Hp} {v:Value} {l:List (Ev × Value)} (s:I.sub I') (h:EvsI I v l):EvsI I' v l:=⟨h.1.mono s,fun x hx=>⟨(Zbv _ _).mono s (h.2 x hx).1,(h.2 x hx).2⟩⟩
section
variable {H : Type} {enc : TypeId × Value -> H} {base : Nat} {spare : Nat -> Bool} {held : Bool}
theorem Zpf:prog.cellsOf 40=5:=by kernel_rfl
theorem ZnT:prog.cellsOf 9=1:=by kernel_rfl
instance:Nonempty (Ev × Value):=⟨(⟨0,0,0,[],⟨#[]⟩⟩,slice none 0 0)⟩
theorem ZqY (fuel:Nat) (cs:List Value) (x:DataW H × List MemPlace) (hl:cs.length=5) (h:DataW.trod enc prog w base spare held fuel 40 cs=some x):∃ a:Ev × Value,cs=ecell a∧evOk w.hp a:=by
 match cs,hl with
 | [c0,c1,c2,c3,c4],_ =>
  obtain ⟨m0,rfl,i0⟩:=Zhw underlying40 h 0 _ rfl rfl underlying3 Zhp (c:=c0) rfl;obtain ⟨m1,rfl,i1⟩:=Zhw underlying40 h 1 _ rfl rfl underlying3 Zhp (c:=c1) rfl;obtain ⟨m2,rfl,i2⟩:=Zhw underlying40 h 2 _ rfl rfl underlying3 Zhp (c:=c2) rfl;obtain ⟨n3,y3,hy3⟩:=Zhv underlying40 h 3 _ rfl ZmF (c:=c3) rfl;obtain ⟨⟨v,q⟩,hv,h1,h2,h3⟩:=ZpU n3 c3 y3 hy3;simp only at hv;subst hv;obtain ⟨n4,y4,hy4⟩:=Zhv underlying40 h 4 _ rfl ZnT (c:=c4) rfl;obtain ⟨nm,hnm,_,_⟩:=DataW.trod_string underlying9 hy4;obtain rfl:c4=.string nm:=by simpa using hnm
  exact ⟨(⟨m0,m1,m2,q,nm⟩,c3),rfl,h1,h2,h3⟩
theorem open_evs {r:Reach} {b0:Nat} {v:Value} {d:DataW H} {p:List MemPlace} (hv:Value.okWide prog w r b0 22 v) (h:DataW.Trod enc prog w base spare held 22 v d p):∃ l:List (Ev × Value),EvsI w.hp v l∧l.length<=maxLen:=by
 obtain ⟨A,n,c,e⟩:=okWide_slice underlying22 hv;obtain ⟨l,h1,h2,h3⟩:=ZqO (P:=prog) ecell (evOk w.hp) (fun _=>rfl) (by decide) underlying22 Zpf ZqY h ⟨A,n,c,e⟩;exact ⟨l,⟨h1,h2⟩,h3⟩
end
section
variable {p q : Nat} {S : Str}
set_option maxRecDepth 8000
theorem ZmP (n:Int):bits .and i64 n 1023=n % 1024:=by
 show IntKind.i64.wrap ((BitVec.ofInt 64 n &&& BitVec.ofInt 64 ((1023:Nat):Int)).toNat:Nat)=n % 1024;rw [ZgD n 1023 10 (by decide),Z2];omega
theorem Zmb (a b c:Int) (w:World):Calls prog 14 #[int i64 a,int i64 b,int i64 c] w fun e w'=>∃ L:Ly,e=.returned L.val∧L.ok∧Below w.heap.size w w':=by
 obtain ⟨oA,hoA⟩:∃ x:Nat,a % 4=x:=⟨(a % 4).toNat,by omega⟩;obtain ⟨cA,hcA⟩:∃ x:Nat,c % 4=x:=⟨(c % 4).toNat,by omega⟩;obtain ⟨bA,hbA⟩:∃ x:Nat,b % 256=x:=⟨(b % 256).toNat,by omega⟩;have k1:bits .and i64 a 3=(oA:Int):=(Zkr a).trans hoA;have k2:bits .and i64 c 3=(cA:Int):=(Zkr c).trans hcA;have k3:bits .and i64 b 255=(bA:Int):=(Zm0 b).trans hbA;have b1:oA<4:=by omega
 have b2:cA<4:=by omega
 have b3:bA<256:=by omega
 clear hoA hcA hbA;obtain ⟨o,ho⟩:∃ o,3+oA=o:=⟨_,rfl⟩;obtain ⟨m,hm⟩:∃ m,o - 1=m:=⟨_,rfl⟩;obtain ⟨r,hr⟩:∃ r,bA % m=r:=⟨_,rfl⟩;have hrm:r<m:=by rw [<-hr];exact ZaU _ (by omega)
 have s1:(3:Int)+(oA:Int)=(o:Int):=by omega
 obtain ⟨cc,hcc⟩:∃ x,1+cA=x:=⟨_,rfl⟩;have s2:(1:Int)+(cA:Int)=(cc:Int):=by omega
 have s3:(o:Int) - 1=(m:Int):=by omega
 have s4:(bA:Int).tmod (m:Int)=(r:Int):=by
  rw [Int.tmod_eq_emod_of_nonneg (by omega),<-hr,Zii]
 obtain ⟨u,hu⟩:∃ x,2+r=x:=⟨_,rfl⟩;have s5:(2:Int)+(r:Int)=(u:Int):=by omega
 have d1:((m:Int)==0)=false:=by simp;omega
 have d2:¬ (m:Int)=0:=by omega
 have hok:Ly.ok ⟨o,u,cc⟩:=⟨by show 3<=o;omega,by show o<=6;omega,by show 2<=u;omega,by show u<=o;omega,by show 1<=cc;omega,by show cc<=4;omega⟩;have bo:o<=6:=by omega
 have bm:m<=5:=by omega
 have br:r<=5:=by omega
 have HOK:=Zh hok;have h1:=(St.init w).alloc (cells #[int i64 0,int i64 0,int i64 0] 30);obtain ⟨g6,hg6⟩:∃ g,w.heap.size=g:=⟨_,rfl⟩;rw [hg6] at h1;have h2:=h1.alloc (cells #[int i64 o,int i64 0,int i64 cc] 30);have H1:=Zh h1;have HG6:=Zh hg6;clear ho hm hr hcc hu hok h1 h2 hrm hg6;go_enter func14,ntmps14;go_upto_region 1 with fail;rw [HG6.o];have h1:=H1.o;generalize (World.alloc _ _:World)=w1 at h1 |-;have h2:=h1.alloc (cells #[int i64 o,int i64 0,int i64 cc] 30);obtain ⟨g7,hg7⟩:∃ g,w1.heap.size=g:=⟨_,rfl⟩;rw [hg7] at h2;have H2:=Zh h2;have HG7:=Zh hg7;clear h1 h2 H1 HG6 hg7;go_upto_region 2 with fail;rw [HG7.o];have h2:=H2.o;generalize (World.alloc _ _:World)=w2 at h2 |-;clear H2 HG7;obtain ⟨x0,x1,x2⟩:=Zbw h2;have fz:=frozen_of_row h2.heap;have h3:St w w.hp _ (pt g7 (cells #[int i64 o,int i64 u,int i64 cc] 30)::_):=h2.setCell 1 (int i64 (u:Int));have H3:=Zh h3;clear h2 h3;go_upto_region 3 with fail;have h3:=H3.o;generalize (World.setCell _ _ _:World)=w3 at h3 |-;clear H3 x0 x1 x2 fz;obtain ⟨x0,x1,x2⟩:=Zbw h3;have h4:=h3.pull 1 _ rfl;obtain ⟨y0,y1,y2⟩:=Zbw h4;have fz:=frozen_of_row h4.heap;have H5:=Zh (h4.set3 (int i64 (o:Int)) (int i64 (u:Int)) (int i64 (cc:Int)));clear h3 h4;go_wp2_with fail;have h5:=H5.o;generalize (World.setCell _ _ _:World)=w5 at h5 |-;clear x0 x1 x2 y0 y1 y2 fz H5;obtain ⟨y0,y1,y2⟩:=Zbw h5;refine ZaK (v:=.agg #[int i64 o,int i64 u,int i64 cc]) (by simp [results,results14,go_sem,y0,y1,y2]) rfl ?_;exact ⟨⟨o,u,cc⟩,rfl,HOK.o,h5.below⟩
def fewB (e:Ev):Bool:=decide (e.data.length<=100)&&decide (e.name.size<=40)
theorem Zpg (e:Ev) (A:Option Addr) (c:Nat) (w:World):Calls prog 61 #[e.val (slice A e.data.length c)] w fun r w'=>r=.returned (.bool (fewB e))∧Below w.heap.size w w':=by
 have hb:=ZM w (cells #[int i64 e.kind,int i64 e.off,int i64 e.len,slice A e.data.length c,.string e.name] 40);have HB:=Zh hb;clear hb;unfold fewB;obtain ⟨k,eo,el,d,nm⟩:=e;simp only [Ev.val] at *;by_cases h1:d.length<=100
 ·have e1:decide ((d.length:Int)<=100)=true:=by rw [Ze];omega
  rw [Zcb h1,ZbR];by_cases h2:nm.size<=40
  ·have e2:decide ((nm.size:Int)<=40)=true:=by rw [Ze];omega
   rw [Zcb h2];go_enter func61,ntmps61;go_wp2;go_ret;exact ⟨rfl,HB.o⟩
  ·have e2:decide ((nm.size:Int)<=40)=false:=by rw [Zk];omega
   rw [ZbH h2];go_enter func61,ntmps61;go_wp2;go_ret;exact ⟨rfl,HB.o⟩
 ·have e1:decide ((d.length:Int)<=100)=false:=by rw [Zk];omega
  rw [ZbH h1,Bool.false_and];go_enter func61,ntmps61;go_wp2;go_ret;exact ⟨rfl,HB.o⟩
def ZdB (es:List (Ev × Value)) (most:Nat):Bool:=(es.all fun x=>fewB x.1)&&decide (es.length<=most)
theorem ZmQ (es:List (Ev × Value)) (vl:Value) (most:Nat) (hm:most<=1000) (hs:St W I w l) (he:EvsI I vl es) :
  Calls prog 11 #[vl,int i64 most] w fun r w'=>r=.returned (.bool (ZdB es most))∧Below w.heap.size w w':=by
 obtain ⟨AE,cE,rfl,_⟩:=RowI.cap he.1;have hel:es.length<=maxLen:=by
  obtain ⟨_,_,e1,_,_,h4,_⟩:=he.1;simp only [ZF] at e1;omega
 unfold maxLen at hel;have HE:=Zh he;have HS:=Zh hs;clear hs he;go_enter func11,ntmps11;go_wp2;go_loopw [5] (fun a5 wr=>∃ i:Nat,a5=int i64 i∧i<=es.length∧((es.take i).all fun x=>fewB x.1)=true∧Below w.heap.size w wr) (fun a5 _=>es.length - (intOf a5).toNat);case atStart=>exact ⟨0,rfl,by omega,rfl,ZR _ _⟩
 case round =>
  obtain ⟨i,rfl,hi,hall,hbw⟩:=hrel;by_cases hlt:i<es.length
  ·have d0':decide ((i:Int)<(es.length:Int))=true:=by rw [Ze];omega
   obtain ⟨⟨e,ev⟩,hee⟩:∃ y,es[i]?=some y:=⟨_,ZL hlt⟩;have hev:=(HE.o.2 _ (Zay hee));simp only [evOk] at hev;obtain ⟨b,bo,e1,hc⟩:=ZbJ (i:=i) (mk:=ecell) (k:=5) HE.o.1 (Hp.sub.refl _) (HS.o.keep hbw) (fun _=>rfl) hee;simp only [ZF,Zae,ZK] at e1;subst e1;have htk:((es.take (i+1)).all fun x=>fewB x.1)=fewB e:=by
    obtain ⟨hil,hq⟩:=ZS.1 hee;rw [ZbG hil,hq,List.all_append,hall];simp
   have hno:fewB e=false->ZdB es most=false:=fun q=>by
    unfold ZdB;have:(es.all fun x=>fewB x.1)=false:=by
     rw [List.all_eq_false];exact ⟨(e,ev),Zay hee,by simp [q]⟩
    rw [this,Bool.false_and]
   have y0:=hc 0 (by decide);have y1:=hc 1 (by decide);have y2:=hc 2 (by decide);have y3:=hc 3 (by decide);have y4:=hc 4 (by decide);simp only [ecell,Zg,Zi,Zbg] at y0 y1 y2 y3 y4;obtain ⟨Ae,ce,rfl,_⟩:=hev.1.cap;have FEW:=Zh (Zpg e Ae ce wr);obtain ⟨fb,hfb⟩:∃ x,fewB e=x:=⟨_,rfl⟩;rw [hfb] at FEW htk hno;have HTK:=Zh htk;have HNO:=Zh hno;have HBW:=Zh hbw;clear hc hee hev htk hno hfb hall hbw;obtain ⟨k,eo,el,dt,nm⟩:=e;simp only [Ev.val] at *;go_wp2_with fail;refine FEW.o.mono ?_;rintro x w3 ⟨rfl,hb3⟩;have HB3:=Zh (HBW.o.trans (hb3.mono HBW.o.size));clear hb3 y0 y1 y2 y3 y4;cases fb with
   | true =>
    go_wp2;go_roundw;case rel=>exact ⟨i+1,by go_num,by omega,HTK.o,HB3.o⟩
    case measure=>simp [intOf]<;>omega
   | false =>
    go_wp2;go_ret;rw [HNO.o (by simp)];exact ⟨rfl,HB3.o⟩
  ·obtain rfl:i=es.length:=by omega
   have d0':decide (((es.length:Nat):Int)<(es.length:Int))=false:=by rw [Zk];omega
   rw [Zbk] at hall;have hsm:ZdB es most=decide (es.length<=most):=by unfold ZdB;rw [hall,ZbR]
   have hde:decide ((es.length:Int)<=(most:Int))=decide (es.length<=most):=by rw [decide_eq_decide];omega
   have HSM:=Zh hsm;have HBW:=Zh hbw;clear hall hsm hbw;go_wp2;go_ret;rw [HSM.o];exact ⟨rfl,HBW.o⟩
end
section
variable {p q : Nat} {S : Str}
theorem Zej (z:List Int):(z.flatMap fun x=>[byteV x])=z.map byteV:=by
 induction z with
 | nil=>rfl
 | cons a z ih=>rw [ZaJ,ih];rfl
theorem St.row_empty (h:St W I w l) (e:TypeId) (k:Nat):St W I (w.alloc (cells #[] e)) (HP.row e k (slice (some ⟨w.heap.size,0,none⟩) 0 0) 0 []::l):=(h.alloc (cells #[] e)).row_shut (by simp) (Z9 _) (by unfold maxLen;omega) (by simp) (by simp)
theorem ZmR (b:List Int) (n:Nat) (v:Value) (hs:St W I w l) (hv:Zw I v b) (hb:b.length<=1000) (hn:n<=1000) :
  Calls prog 154 #[v,int i64 n] w fun e w'=>∃ I' v',I.sub I'∧e=.returned v'∧Zw I' v' (b.take n++List.replicate (n - b.length) 0)∧St W I' w' l:=by
 obtain ⟨A,c,rfl,hc⟩:=hv.cap;obtain ⟨k,hk⟩:∃ k,min n b.length=k:=⟨_,rfl⟩;have hmin:min (n:Int) (b.length:Int)=(k:Int):=by omega
 have hkc:(k:Int)<=(c:Int):=by omega
 have hpre:=RowI.pre hv (k:=k) (by omega);rw [ZaT,<-ZcR] at hpre;have h1:=hs.row_empty 5 1;obtain ⟨v2,w2,hr2,h2⟩:=St.bytes_append 32 h1 (hpre.src h1.imm (Zac _) (by decide)) (by omega);rw [Zar,ZP] at h2;obtain ⟨B2,c2,rfl⟩:=ZD h2.row_owns;have hkl:k=(b.take n).length:=by rw [ZN];omega
 have e1:b.take k=b.take n:=by
  rw [<-hk];by_cases q:n<=b.length
  ·rw [Zex q]
  ·rw [Nat.min_eq_right (by omega),Zew (Z9 _),Zew (by omega)]
 rw [e1] at h2;obtain ⟨z0,hz0⟩:∃ z0,b.take n=z0:=⟨_,rfl⟩;rw [hz0] at hkl h2 |-;rw [<-Zej] at h2;obtain ⟨L,hL⟩:∃ L,b.length=L:=⟨_,rfl⟩;have hzl:z0.length<=n∧(L<n->z0.length=L)∧(n<=L->z0.length=n):=by omega
 have HR2:=Zh hr2;have H2:=Zh h2;have HKL:=Zh hkl;have HZL:=Zh hzl;rw [hL] at hmin |-;clear hs hv hpre h1 hr2 h2 e1 hk hz0 hkl hzl hb hc hL;go_enter func154,ntmps154;go_wp2_with (at_builtin;refine Zax _ rfl (.tmp 6) (.tmp 12) 32 32 rfl _ _ rfl rfl _ _ HR2.o ?_);rw [HKL.o];clear hmin hkc HR2;go_loopw [5] (fun a5 wr=>∃ (z:List Int) (B:Option Addr) (d:Nat),a5=slice B z.length d∧z=z0++List.replicate (z.length - z0.length) 0∧z.length<=n∧St W I wr (HP.row 5 1 (slice B z.length d) z.length (z.flatMap fun x=>[byteV x])::l)) (fun a5 _=>n - (match a5 with|slice _ m _=>m|_=>0));case atStart =>
  refine ⟨z0,B2,c2,rfl,by simp,HZL.o.1,?_⟩;have:=H2.o;rw [HKL.o] at this;exact this
 case round =>
  obtain ⟨z,B,d,rfl,hz,hzn,hst⟩:=hrel;by_cases hlt:z.length<n
  ·have d0:decide ((z.length:Int)<(n:Int))=true:=by rw [Ze];omega
   obtain ⟨A8,c8,w8,hr8,h8⟩:=St.row_push (ty:=32) underlying32 Zfu rfl (by decide) (by decide) (mk:=fun x=>[byteV x]) (fun _=>rfl) hst 0 (fun u hu=>by simp at hu;rw [hu];rfl) (by omega) #[int .u8 0] rfl;have hz2:z++[0]=z0++List.replicate ((z++[0]).length - z0.length) 0:=by
    have hl:z0.length<=z.length:=by rw [hz,ZA];omega
    rw [ZA,Zie,show z.length+1 - z0.length=(z.length - z0.length)+1 by omega,List.replicate_succ',<-Zam,<-hz]
   have hl2:(z++[(0:Int)]).length=z.length+1:=by simp
   obtain ⟨z2,hzz⟩:∃ x,z++[(0:Int)]=x:=⟨_,rfl⟩;rw [hzz] at hr8 h8 hz2 hl2;have HZ2:=Zh hz2;have HL2:=Zh hl2;have HR8:=Zh hr8;have H8:=Zh h8;clear hz hst hr8 h8 hz2 hl2 hzz H2;go_wp2_with (at_builtin;refine Zax _ rfl (.tmp 18) (.tmp 19) 32 32 rfl _ _ rfl rfl _ _ HR8.o ?_);go_roundw;case rel=>exact ⟨z2,A8,c8,rfl,HZ2.o,by have:=HL2.o;omega,H8.o⟩
   case measure=>have:=HL2.o;simp only;omega
  ·have d0:decide ((z.length:Int)<(n:Int))=false:=by rw [Zk];omega
   rw [Zej] at hst;obtain ⟨I9,hs9,hr9,h9⟩:=hst.freeze_row
   have HZ:=Zh (show z=z0++List.replicate (n - L) 0 by
    have:=HZL.o;rw [hz];congr 2
    omega)
   have HR9:=Zh hr9;have H9:=Zh h9;have HS9:=Zh hs9;clear hz hst hr9 h9 hs9 H2;go_wp2;go_ret;refine ⟨I9,_,HS9.o,rfl,?_,H9.o⟩;rw [<-HZ.o];exact HR9.o
end
end Go.Proofs.YtcbdghojlbpomaaGreat
