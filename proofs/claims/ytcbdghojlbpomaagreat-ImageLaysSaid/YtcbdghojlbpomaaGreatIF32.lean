import Derived.Test.YtcbdghojlbpomaaGreatIF31
set_option linter.all false
set_option maxRecDepth 4000
set_option maxHeartbeats 8000000
open Go.RowKit
open Go.IntKind (i64 u64)
open Go.Value (int pointer slice)
open Go.Obj (cells)
namespace Go.Proofs.YtcbdghojlbpomaaGreat
open Tryz
open HP (pt mapOf)
variable {W w w':World} {I:Hp} {l:List HP}
section
variable {p q : Nat} {S : Str}
theorem OldsI.at {I:Hp} {M:List (ByteArray × Value)} {V:List (ByteArray × List Int)} (h:OldsI I M V) {i:Nat} {y:ByteArray × List Int} (hy:V[i]?=some y):∃ v,M[i]?=some (y.1,v)∧Zw I v y.2:=by
 have hl:=h.len;have hi:=(ZS.1 hy).1;have hx:M[i]?=some (M[i]'(by omega)):=ZL (by omega);have h1:=h.2 i _ y hx hy;have h2:(M.map (·.1))[i]?=(V.map (·.1))[i]?:=by rw [h.1]
 rw [ZaN,ZaN,hx,hy] at h2;simp only [Zbb,Zah] at h2;refine ⟨(M[i]'(by omega)).2,?_,h1⟩;rw [hx,<-h2]
theorem Zkn (V:Vw) (va vb:Value) (hs:St W I w l) (ha:VwI I va V) (hb:VwI I vb V) (hsl:V.snaps.length<=1000) :
  Calls prog 21 #[va,vb] w fun e w'=>e=.returned (.bool true)∧Below w.heap.size w w':=by
 obtain ⟨vd,vs,M,rfl,hd,hr,ho⟩:=ha;obtain ⟨vd2,vs2,M2,rfl,hd2,hr2,ho2⟩:=hb;obtain ⟨A,c,rfl,_⟩:=hd.cap;obtain ⟨A2,c2,rfl,_⟩:=hd2.cap;obtain ⟨B,d,rfl,_⟩:=hr.cap;obtain ⟨B2,d2,rfl,_⟩:=hr2.cap;have hml:=ho.len;have hml2:=ho2.len;have HR:=Zh hr;have HR2:=Zh hr2;obtain ⟨n,hn⟩:∃ n,V.snaps.length=n:=⟨_,rfl⟩;rw [hn] at hml hml2 hsl;rw [hml] at |-;rw [hml2] at |-;obtain ⟨D,hD⟩:∃ D,V.data=D:=⟨_,rfl⟩;rw [hD] at hd hd2 |-;have hcv:=fun (wx:World) (hst:I.sub wx.hp)=>Zdk (hd.src hst (Zac D) (by decide));have hcv2:=fun (wx:World) (hst:I.sub wx.hp)=>Zdk (hd2.src hst (Zac D) (by decide));have h1:=(hs.alloc (cells #[slice A D.length c,slice B n d] 35));have h2:=h1.alloc (cells #[slice A2 D.length c2,slice B2 n d2] 35);rw [Zb2] at h2;obtain ⟨g,hg⟩:∃ g,w.heap.size=g:=⟨_,rfl⟩;rw [hg] at h2;have hbel:Below w.heap.size w ((w.alloc (cells #[slice A D.length c,slice B n d] 35)).alloc (cells #[slice A2 D.length c2,slice B2 n d2] 35)):=(ZM w _).trans ((ZM _ _).mono (by simp));have HB:=Zh hbel;have HCV:=Zh hcv;have HCV2:=Zh hcv2;have H2:=Zh h2;have HG:=Zh hg;have HO:=Zh ho;have HO2:=Zh ho2;have HN:=Zh hn;clear hs hd hd2 hr hr2 ho ho2 hml hml2 hn hD hcv hcv2 h1 h2 hbel hg;go_enter func21,ntmps21;go_upto_region 1 with fail;rw [HG.o];have h2:=H2.o;have hb:=HB.o;generalize (World.alloc _ _:World)=w2 at h2 hb |-;clear H2 HB HG;have q1:=HCV.o w2 h2.imm;have q2:=HCV2.o w2 h2.imm;have d1:((strOfNums D).toList==(strOfNums D).toList)=true:=by simp
 obtain ⟨x0,x1⟩:=Zq (h2.pull 1 _ rfl);obtain ⟨y0,y1⟩:=Zq h2;have H2:=Zh h2;have HB:=Zh hb;clear h2 hb;go_wp2;go_loopw [5] (fun a5 wr=>∃ i:Nat,a5=int i64 i∧i<=n∧Below w.heap.size w wr∧St W I wr (pt (g+1) (cells #[slice A2 D.length c2,slice B2 n d2] 35)::pt g (cells #[slice A D.length c,slice B n d] 35)::l)) (fun a5 _=>n - (intOf a5).toNat);case atStart=>exact ⟨0,rfl,by omega,HB.o,H2.o⟩
 case round =>
  obtain ⟨i,rfl,hi,hbw,hst⟩:=hrel;clear q1 q2 x0 x1 y0 y1 H2 HB;obtain ⟨x0,x1⟩:=Zq (hst.pull 1 _ rfl);obtain ⟨y0,y1⟩:=Zq hst;by_cases hlt:i<n
  ·have d0:decide ((i:Int)<(n:Int))=true:=by rw [Ze];omega
   obtain ⟨⟨nm,dt⟩,he⟩:∃ y,V.snaps[i]?=some y:=⟨_,ZL (by rw [HN.o];exact hlt)⟩;obtain ⟨u,hu,hub⟩:=HO.o.at he;obtain ⟨u2,hu2,hub2⟩:=HO2.o.at he;simp only at hu hu2 hub hub2;obtain ⟨b,bo,e1,hc⟩:=ZbJ (i:=i) (mk:=ocell) (k:=2) HR.o (Hp.sub.refl _) hst (fun _=>rfl) hu;obtain ⟨b2,bo2,e2,hc2⟩:=ZbJ (i:=i) (mk:=ocell) (k:=2) HR2.o (Hp.sub.refl _) hst (fun _=>rfl) hu2;simp only [ZF,Zae,ZK] at e1 e2;obtain ⟨Au,cu,rfl,_⟩:=hub.cap;obtain ⟨Au2,cu2,rfl,_⟩:=hub2.cap;subst e1;subst e2;have k0:=hc 0 (by omega);have k1:=hc 1 (by omega);have m0:=hc2 0 (by omega);have m1:=hc2 1 (by omega);simp only [ocell,Zg,Zi,Zbg] at k0 k1 m0 m1;have q1:=fun (nq:Nat)=>Zdk (hub.src (hst.drewN nq).imm (Zac dt) (by decide));have q2:=fun (nq:Nat)=>Zdk (hub2.src (hst.drewN nq).imm (Zac dt) (by decide));have d2:((strOfNums dt).toList==(strOfNums dt).toList)=true:=by simp
   have d3:(nm.toList==nm.toList)=true:=by simp
   have HST:=Zh hst;have HBW:=Zh hbw;clear hst hbw hc hc2 hu hu2 hub hub2 he;go_upto_region 6 with fail;go_quiet (fail);have H9:=Zh (HST.o.drewN nq);have hdn:Below w.heap.size wr (wr.drewN nq):=(St.init wr).drewN nq |>.below.mono HBW.o.size;have HB9:=Zh (HBW.o.trans hdn);clear hdn;go_wp2;go_roundw;case rel=>exact ⟨i+1,by go_num,by omega,HB9.o,H9.o⟩
   case measure=>simp [intOf]<;>omega
  ·obtain rfl:i=n:=by omega
   have d0:decide ((i:Int)<(i:Int))=false:=by rw [Zk];omega
   have HBW:=Zh hbw;clear hst hbw;go_wp2;go_ret;exact ⟨rfl,HBW.o⟩
end
theorem Zk4 {ns:List ByteArray} {nm:ByteArray} {i:Nat} (h:findI ns nm=some i):i<ns.length:=by
 unfold findI at h;rw [List.findIdx?_eq_some_iff_getElem] at h;exact h.1
theorem ZfN {e:Ev} (h:ZU e=true):e.kind=1∨e.kind=2∨e.kind=3∨e.kind=4∨e.kind=5∨e.kind=6∨e.kind=7∨e.kind=8:=by
 rw [Zbl] at h
 grind
section
theorem ZcC (M:List (ByteArray × Value)) (vd vs:Value) (nd:Nat) (hvd:∃ A c,vd=slice A nd c) (e:Ev) (w:World) (hS:SliceSrc w 2 vs M.length (M.flatMap ocell)) (hM:∀ x ∈ M,IsSl x.2) (hml:M.length<=1000000) (hnd:nd<=1000000) (v:Value) (hs:SliceSrc w 1 v e.data.length (e.data.map byteV)) (hb:∀ x ∈ e.data,isByte x) :
  Calls prog 67 #[.agg #[vd,vs],e.val v] w fun r w'=>r=.returned (int i64 (Zbs (M.map (·.1)) nd e))∧Below w.heap.size w w':=by
 have HR:=Zh (fun w' (h:Below w.heap.size w w')=>ZbI e v w' (hs.below h) hb);have HSP:=Zh (fun w' (h:Below w.heap.size w w')=>Zi0 e v w' (hs.below h) hb);have HF:=Zh (fun w' (h:Below w.heap.size w w')=>ZnM M vd vs e.name (by obtain ⟨A,c,q⟩:=hvd;exact ⟨A,nd,c,q⟩) w' (hS.below h) hM hml);obtain ⟨B,d,rfl,_⟩:=hs;obtain ⟨Ad,cd,rfl⟩:=hvd;obtain ⟨A,c,rfl,_⟩:=hS;have h1:=((St.init w).alloc (cells #[slice Ad nd cd,slice A M.length c] 35)).alloc (cells #[int i64 e.kind,int i64 e.off,int i64 e.len,slice B e.data.length d,.string e.name] 40);rw [show (w.alloc (cells #[slice Ad nd cd,slice A M.length c] 35)).heap.size=w.heap.size+1 from Zb2 ..] at h1;obtain ⟨o,ho⟩:∃ o,findI (M.map (·.1)) e.name=o:=⟨_,rfl⟩;rw [ho] at HF;have hoi:∀ i,o=some i->0<=(i:Int):=fun i _=>by omega
 obtain ⟨r,hr⟩:∃ r,ZU e=r:=⟨_,rfl⟩;rw [hr] at HR;have HCK:=Zh (show Zbs (M.map (·.1)) nd e=_ by unfold Zbs;rw [hr,ho,ZE]);have hpl:(e.kind=1∨e.kind=2∨e.kind=3)->r=true->spanP e=spanE e:=fun q q2=>by unfold spanP ZaF;rw [hr,q2,Zcb q];rfl
 have hsm:(e.kind=1∨e.kind=2∨e.kind=3)->r=true->0<=(spanE e).1∧(spanE e).1<=512∧0<=(spanE e).2∧(spanE e).2<=512:=fun q q2=>Zjx (hr.trans q2) q;have hkd:r=true->_:=fun q=>ZfN (hr.trans q);rw [HCK.o];obtain ⟨k,off,len,data,s⟩:=e;simp only [Ev.val] at *;have H1:=Zh h1;have HM:=Zh hM;clear h1 hb hr ho HCK hM;cases r with
 | false =>
  go_enter func67,ntmps67;go_wp2_with fail;refine (HR.o _ H1.o.below).mono ?_;rintro e w2 ⟨rfl,hb2⟩;have h2:=H1.o.keep hb2;obtain ⟨x0,x1⟩:=Zq (h2.pull 1 _ rfl);obtain ⟨y0,y1,y2,y3,y4⟩:=Zf h2;have H2:=Zh h2;clear h2 hb2;go_wp2;go_ret;exact ⟨rfl,H2.o.below⟩
 | true =>
  rw [Za (show ¬ ((true:Bool)=false) by decide)];have hkd:=hkd rfl;by_cases k1:k=1
  ·subst k1;have hp:=hpl (by decide) rfl;have hs4:=hsm (by decide) rfl;rw [Zb (show ((1:Int)=1∨(1:Int)=2∨(1:Int)=3) by decide)];rw [hp] at HSP;obtain ⟨⟨sa,sb⟩,hsp⟩:∃ x,spanE (⟨1,off,len,data,s⟩:Ev)=x:=⟨_,rfl⟩;rw [hsp] at HSP hs4 |-;simp only at hs4 |-;clear hp hsp hpl hsm;have hwr:IntKind.i64.wrap (sa+sb)=sa+sb:=by rw [Z2];omega
   go_enter func67,ntmps67;go_wp2_with fail;refine (HR.o _ H1.o.below).mono ?_;rintro e w2 ⟨rfl,hb2⟩;have h2:=H1.o.keep hb2;obtain ⟨x0,x1⟩:=Zq (h2.pull 1 _ rfl);obtain ⟨y0,y1,y2,y3,y4⟩:=Zf h2;have H2:=Zh h2;clear h2 hb2;go_wp2_with fail;refine (HF.o _ H2.o.below).mono ?_;rintro e w3 ⟨rfl,hb3⟩;have h3:=H2.o.keep hb3;clear x0 x1 y0 y1 y2 y3 y4 hb3;obtain ⟨x0,x1⟩:=Zq (h3.pull 1 _ rfl);obtain ⟨y0,y1,y2,y3,y4⟩:=Zf h3;have H3:=Zh h3;clear h3;go_wp2_with fail;have H9:=Zh H3.o;refine (HSP.o _ H9.o.below).mono ?_;rintro e w4 ⟨rfl,hb4⟩;have h4:=H9.o.keep hb4;clear x0 x1 y0 y1 y2 y3 y4 hb4;obtain ⟨x0,x1⟩:=Zq (h4.pull 1 _ rfl);by_cases hlt:(nd:Int)<sa+sb
   ·have HLT:=Zh hlt;go_wp2;go_ret;exact ⟨rfl,h4.below⟩
   ·have HLT:=Zh hlt;go_wp2;go_ret;exact ⟨rfl,h4.below⟩
  by_cases k2:k=2
  ·subst k2;have hp:=hpl (by decide) rfl;have hs4:=hsm (by decide) rfl;rw [Zb (show ((2:Int)=1∨(2:Int)=2∨(2:Int)=3) by decide)];rw [hp] at HSP;obtain ⟨⟨sa,sb⟩,hsp⟩:∃ x,spanE (⟨2,off,len,data,s⟩:Ev)=x:=⟨_,rfl⟩;rw [hsp] at HSP hs4 |-;simp only at hs4 |-;clear hp hsp hpl hsm;have hwr:IntKind.i64.wrap (sa+sb)=sa+sb:=by rw [Z2];omega
   go_enter func67,ntmps67;go_wp2_with fail;refine (HR.o _ H1.o.below).mono ?_;rintro e w2 ⟨rfl,hb2⟩;have h2:=H1.o.keep hb2;obtain ⟨x0,x1⟩:=Zq (h2.pull 1 _ rfl);obtain ⟨y0,y1,y2,y3,y4⟩:=Zf h2;have H2:=Zh h2;clear h2 hb2;go_wp2_with fail;refine (HF.o _ H2.o.below).mono ?_;rintro e w3 ⟨rfl,hb3⟩;have h3:=H2.o.keep hb3;clear x0 x1 y0 y1 y2 y3 y4 hb3;obtain ⟨x0,x1⟩:=Zq (h3.pull 1 _ rfl);obtain ⟨y0,y1,y2,y3,y4⟩:=Zf h3;have H3:=Zh h3;clear h3;go_wp2_with fail;have H9:=Zh H3.o;refine (HSP.o _ H9.o.below).mono ?_;rintro e w4 ⟨rfl,hb4⟩;have h4:=H9.o.keep hb4;clear x0 x1 y0 y1 y2 y3 y4 hb4;obtain ⟨x0,x1⟩:=Zq (h4.pull 1 _ rfl);by_cases hlt:(nd:Int)<sa+sb
   ·have HLT:=Zh hlt;go_wp2;go_ret;exact ⟨rfl,h4.below⟩
   ·have HLT:=Zh hlt;go_wp2;go_ret;exact ⟨rfl,h4.below⟩
  by_cases k3:k=3
  ·subst k3;have hp:=hpl (by decide) rfl;have hs4:=hsm (by decide) rfl;rw [Zb (show ((3:Int)=1∨(3:Int)=2∨(3:Int)=3) by decide)];rw [hp] at HSP;obtain ⟨⟨sa,sb⟩,hsp⟩:∃ x,spanE (⟨3,off,len,data,s⟩:Ev)=x:=⟨_,rfl⟩;rw [hsp] at HSP hs4 |-;simp only at hs4 |-;clear hp hsp hpl hsm;have hwr:IntKind.i64.wrap (sa+sb)=sa+sb:=by rw [Z2];omega
   go_enter func67,ntmps67;go_wp2_with fail;refine (HR.o _ H1.o.below).mono ?_;rintro e w2 ⟨rfl,hb2⟩;have h2:=H1.o.keep hb2;obtain ⟨x0,x1⟩:=Zq (h2.pull 1 _ rfl);obtain ⟨y0,y1,y2,y3,y4⟩:=Zf h2;have H2:=Zh h2;clear h2 hb2;go_wp2_with fail;refine (HF.o _ H2.o.below).mono ?_;rintro e w3 ⟨rfl,hb3⟩;have h3:=H2.o.keep hb3;clear x0 x1 y0 y1 y2 y3 y4 hb3;obtain ⟨x0,x1⟩:=Zq (h3.pull 1 _ rfl);obtain ⟨y0,y1,y2,y3,y4⟩:=Zf h3;have H3:=Zh h3;clear h3;go_wp2_with fail;have H9:=Zh H3.o;refine (HSP.o _ H9.o.below).mono ?_;rintro e w4 ⟨rfl,hb4⟩;have h4:=H9.o.keep hb4;clear x0 x1 y0 y1 y2 y3 y4 hb4;obtain ⟨x0,x1⟩:=Zq (h4.pull 1 _ rfl);by_cases hlt:(nd:Int)<sa+sb
   ·have HLT:=Zh hlt;go_wp2;go_ret;exact ⟨rfl,h4.below⟩
   ·have HLT:=Zh hlt;go_wp2;go_ret;exact ⟨rfl,h4.below⟩
  rw [Za (by omega)];by_cases k5:k=5
  ·subst k5;rw [Zb rfl];go_enter func67,ntmps67;go_wp2_with fail;refine (HR.o _ H1.o.below).mono ?_;rintro e w2 ⟨rfl,hb2⟩;have h2:=H1.o.keep hb2;obtain ⟨x0,x1⟩:=Zq (h2.pull 1 _ rfl);obtain ⟨y0,y1,y2,y3,y4⟩:=Zf h2;have H2:=Zh h2;clear h2 hb2;go_wp2_with fail;refine (HF.o _ H2.o.below).mono ?_;rintro e w3 ⟨rfl,hb3⟩;have h3:=H2.o.keep hb3;clear x0 x1 y0 y1 y2 y3 y4 hb3;obtain ⟨x0,x1⟩:=Zq (h3.pull 1 _ rfl);obtain ⟨y0,y1,y2,y3,y4⟩:=Zf h3;have H3:=Zh h3;clear h3;cases o with
   | some i =>
    have d1:decide ((0:Int)<=(i:Int))=true:=by rw [Ze];omega
    simp only [fnI,Zdc,Zaw];go_wp2;go_ret;exact ⟨rfl,H3.o.below⟩
   | none =>
    simp only [fnI,ZdJ,ZaS,Zau];by_cases h8:8<=M.length
    ·have d1:decide ((8:Int)<=(M.length:Int))=true:=by rw [Ze];omega
     go_wp2;go_ret;exact ⟨rfl,H3.o.below⟩
    ·have d1:decide ((8:Int)<=(M.length:Int))=false:=by rw [Zk];omega
     have H8:=Zh h8;go_wp2;go_ret;exact ⟨rfl,H3.o.below⟩
  rw [Za k5];by_cases k6:k=6
  ·subst k6;rw [Zb (by decide)];go_enter func67,ntmps67;go_wp2_with fail;refine (HR.o _ H1.o.below).mono ?_;rintro e w2 ⟨rfl,hb2⟩;have h2:=H1.o.keep hb2;obtain ⟨x0,x1⟩:=Zq (h2.pull 1 _ rfl);obtain ⟨y0,y1,y2,y3,y4⟩:=Zf h2;have H2:=Zh h2;clear h2 hb2;go_wp2_with fail;refine (HF.o _ H2.o.below).mono ?_;rintro e w3 ⟨rfl,hb3⟩;have h3:=H2.o.keep hb3;clear x0 x1 y0 y1 y2 y3 y4 hb3;obtain ⟨x0,x1⟩:=Zq (h3.pull 1 _ rfl);obtain ⟨y0,y1,y2,y3,y4⟩:=Zf h3;have H3:=Zh h3;clear h3;cases o with
   | some i =>
    have d1:decide ((i:Int)<0)=false:=by rw [Zk];omega
    simp only [fnI,Zdc,Zaw];go_wp2;go_ret;exact ⟨rfl,H3.o.below⟩
   | none =>
    simp only [fnI,ZdJ,ZaS,Zau];go_wp2;go_ret;exact ⟨rfl,H3.o.below⟩
  by_cases k7:k=7
  ·subst k7;rw [Zb (by decide)];go_enter func67,ntmps67;go_wp2_with fail;refine (HR.o _ H1.o.below).mono ?_;rintro e w2 ⟨rfl,hb2⟩;have h2:=H1.o.keep hb2;obtain ⟨x0,x1⟩:=Zq (h2.pull 1 _ rfl);obtain ⟨y0,y1,y2,y3,y4⟩:=Zf h2;have H2:=Zh h2;clear h2 hb2;go_wp2_with fail;refine (HF.o _ H2.o.below).mono ?_;rintro e w3 ⟨rfl,hb3⟩;have h3:=H2.o.keep hb3;clear x0 x1 y0 y1 y2 y3 y4 hb3;obtain ⟨x0,x1⟩:=Zq (h3.pull 1 _ rfl);obtain ⟨y0,y1,y2,y3,y4⟩:=Zf h3;have H3:=Zh h3;clear h3;cases o with
   | some i =>
    have d1:decide ((i:Int)<0)=false:=by rw [Zk];omega
    simp only [fnI,Zdc,Zaw];go_wp2;go_ret;exact ⟨rfl,H3.o.below⟩
   | none =>
    simp only [fnI,ZdJ,ZaS,Zau];go_wp2;go_ret;exact ⟨rfl,H3.o.below⟩
  rw [Za (by omega)];have e1:(k==1)=false:=by simpa using k1
  have e2:(k==2)=false:=by simpa using k2
  have e3:(k==3)=false:=by simpa using k3
  have e5:(k==5)=false:=by simpa using k5
  have e6:(k==6)=false:=by simpa using k6
  have e7:(k==7)=false:=by simpa using k7
  go_enter func67,ntmps67;go_wp2_with fail;refine (HR.o _ H1.o.below).mono ?_;rintro e w2 ⟨rfl,hb2⟩;have h2:=H1.o.keep hb2;obtain ⟨x0,x1⟩:=Zq (h2.pull 1 _ rfl);obtain ⟨y0,y1,y2,y3,y4⟩:=Zf h2;have H2:=Zh h2;clear h2 hb2;go_wp2_with fail;refine (HF.o _ H2.o.below).mono ?_;rintro e w3 ⟨rfl,hb3⟩;have h3:=H2.o.keep hb3;clear x0 x1 y0 y1 y2 y3 y4 hb3;obtain ⟨x0,x1⟩:=Zq (h3.pull 1 _ rfl);obtain ⟨y0,y1,y2,y3,y4⟩:=Zf h3;have H3:=Zh h3;clear h3;go_wp2;go_ret;exact ⟨rfl,H3.o.below⟩
theorem Ziu (M:List (ByteArray × Value)) (vd vs:Value) (nd:Nat) (hvd:∃ A c,vd=slice A nd c) (e:Ev) (w:World) (hS:SliceSrc w 2 vs M.length (M.flatMap ocell)) (hM:∀ x ∈ M,IsSl x.2) (hml:M.length<=1000000) (hnd:nd<=1000000) (B:Option Addr) (d:Nat) (hl:e.name.size<=1000) :
  Calls prog 16 #[.agg #[vd,vs],e.val (slice B e.data.length d)] w fun r w'=>r=.returned (int i64 (Zbs (M.map (·.1)) nd e))∧Below w.heap.size w w':=by
 have HR:=Zh (fun w'=>ZiZ e B d hl w');have HSP:=Zh (fun w'=>ZnL e B d hl w');have HF:=Zh (fun w' (h:Below w.heap.size w w')=>ZgK M vd vs e.name (by obtain ⟨A,c,q⟩:=hvd;exact ⟨A,nd,c,q⟩) w' (hS.below h) hM hml);obtain ⟨Ad,cd,rfl⟩:=hvd;obtain ⟨A,c,rfl,_⟩:=hS;have h1:=((St.init w).alloc (cells #[slice Ad nd cd,slice A M.length c] 35)).alloc (cells #[int i64 e.kind,int i64 e.off,int i64 e.len,slice B e.data.length d,.string e.name] 40);rw [show (w.alloc (cells #[slice Ad nd cd,slice A M.length c] 35)).heap.size=w.heap.size+1 from Zb2 ..] at h1;obtain ⟨o,ho⟩:∃ o,findI (M.map (·.1)) e.name=o:=⟨_,rfl⟩;rw [ho] at HF;have hoi:∀ i,o=some i->0<=(i:Int):=fun i _=>by omega
 obtain ⟨r,hr⟩:∃ r,ZU e=r:=⟨_,rfl⟩;rw [hr] at HR;have HCK:=Zh (show Zbs (M.map (·.1)) nd e=_ by unfold Zbs;rw [hr,ho,ZE]);have hpl:(e.kind=1∨e.kind=2∨e.kind=3)->r=true->spanP e=spanE e:=fun q q2=>by unfold spanP ZaF;rw [hr,q2,Zcb q];rfl
 have hsm:(e.kind=1∨e.kind=2∨e.kind=3)->r=true->0<=(spanE e).1∧(spanE e).1<=512∧0<=(spanE e).2∧(spanE e).2<=512:=fun q q2=>Zjx (hr.trans q2) q;have hkd:r=true->_:=fun q=>ZfN (hr.trans q);rw [HCK.o];obtain ⟨k,off,len,data,s⟩:=e;simp only [Ev.val] at *;have H1:=Zh h1;have HM:=Zh hM;clear h1 hl hr ho HCK hM;cases r with
 | false =>
  go_enter func16,ntmps16;go_wp2_with fail;refine (HR.o _).mono ?_;rintro e w2 ⟨rfl,hb2⟩;have h2:=H1.o.keep hb2;obtain ⟨x0,x1⟩:=Zq (h2.pull 1 _ rfl);obtain ⟨y0,y1,y2,y3,y4⟩:=Zf h2;have H2:=Zh h2;clear h2 hb2;go_wp2;go_ret;exact ⟨rfl,H2.o.below⟩
 | true =>
  rw [Za (show ¬ ((true:Bool)=false) by decide)];have hkd:=hkd rfl;by_cases k1:k=1
  ·subst k1;have hp:=hpl (by decide) rfl;have hs4:=hsm (by decide) rfl;rw [Zb (show ((1:Int)=1∨(1:Int)=2∨(1:Int)=3) by decide)];rw [hp] at HSP;obtain ⟨⟨sa,sb⟩,hsp⟩:∃ x,spanE (⟨1,off,len,data,s⟩:Ev)=x:=⟨_,rfl⟩;rw [hsp] at HSP hs4 |-;simp only at hs4 |-;clear hp hsp hpl hsm;have hwr:IntKind.i64.wrap (sa+sb)=sa+sb:=by rw [Z2];omega
   go_enter func16,ntmps16;go_wp2_with fail;refine (HR.o _).mono ?_;rintro e w2 ⟨rfl,hb2⟩;have h2:=H1.o.keep hb2;obtain ⟨x0,x1⟩:=Zq (h2.pull 1 _ rfl);obtain ⟨y0,y1,y2,y3,y4⟩:=Zf h2;have H2:=Zh h2;clear h2 hb2;go_wp2_with fail;have H9:=Zh H2.o;refine (HSP.o _).mono ?_;rintro e w4 ⟨rfl,hb4⟩;have h4:=H9.o.keep hb4;clear x0 x1 y0 y1 y2 y3 y4 hb4;obtain ⟨x0,x1⟩:=Zq (h4.pull 1 _ rfl);by_cases hlt:(nd:Int)<sa+sb
   ·have HLT:=Zh hlt;go_wp2;go_ret;exact ⟨rfl,h4.below⟩
   ·have HLT:=Zh hlt;go_wp2;go_ret;exact ⟨rfl,h4.below⟩
  by_cases k2:k=2
  ·subst k2;have hp:=hpl (by decide) rfl;have hs4:=hsm (by decide) rfl;rw [Zb (show ((2:Int)=1∨(2:Int)=2∨(2:Int)=3) by decide)];rw [hp] at HSP;obtain ⟨⟨sa,sb⟩,hsp⟩:∃ x,spanE (⟨2,off,len,data,s⟩:Ev)=x:=⟨_,rfl⟩;rw [hsp] at HSP hs4 |-;simp only at hs4 |-;clear hp hsp hpl hsm;have hwr:IntKind.i64.wrap (sa+sb)=sa+sb:=by rw [Z2];omega
   go_enter func16,ntmps16;go_wp2_with fail;refine (HR.o _).mono ?_;rintro e w2 ⟨rfl,hb2⟩;have h2:=H1.o.keep hb2;obtain ⟨x0,x1⟩:=Zq (h2.pull 1 _ rfl);obtain ⟨y0,y1,y2,y3,y4⟩:=Zf h2;have H2:=Zh h2;clear h2 hb2;go_wp2_with fail;have H9:=Zh H2.o;refine (HSP.o _).mono ?_;rintro e w4 ⟨rfl,hb4⟩;have h4:=H9.o.keep hb4;clear x0 x1 y0 y1 y2 y3 y4 hb4;obtain ⟨x0,x1⟩:=Zq (h4.pull 1 _ rfl);by_cases hlt:(nd:Int)<sa+sb
   ·have HLT:=Zh hlt;go_wp2;go_ret;exact ⟨rfl,h4.below⟩
   ·have HLT:=Zh hlt;go_wp2;go_ret;exact ⟨rfl,h4.below⟩
  by_cases k3:k=3
  ·subst k3;have hp:=hpl (by decide) rfl;have hs4:=hsm (by decide) rfl;rw [Zb (show ((3:Int)=1∨(3:Int)=2∨(3:Int)=3) by decide)];rw [hp] at HSP;obtain ⟨⟨sa,sb⟩,hsp⟩:∃ x,spanE (⟨3,off,len,data,s⟩:Ev)=x:=⟨_,rfl⟩;rw [hsp] at HSP hs4 |-;simp only at hs4 |-;clear hp hsp hpl hsm;have hwr:IntKind.i64.wrap (sa+sb)=sa+sb:=by rw [Z2];omega
   go_enter func16,ntmps16;go_wp2_with fail;refine (HR.o _).mono ?_;rintro e w2 ⟨rfl,hb2⟩;have h2:=H1.o.keep hb2;obtain ⟨x0,x1⟩:=Zq (h2.pull 1 _ rfl);obtain ⟨y0,y1,y2,y3,y4⟩:=Zf h2;have H2:=Zh h2;clear h2 hb2;go_wp2_with fail;have H9:=Zh H2.o;refine (HSP.o _).mono ?_;rintro e w4 ⟨rfl,hb4⟩;have h4:=H9.o.keep hb4;clear x0 x1 y0 y1 y2 y3 y4 hb4;obtain ⟨x0,x1⟩:=Zq (h4.pull 1 _ rfl);by_cases hlt:(nd:Int)<sa+sb
   ·have HLT:=Zh hlt;go_wp2;go_ret;exact ⟨rfl,h4.below⟩
   ·have HLT:=Zh hlt;go_wp2;go_ret;exact ⟨rfl,h4.below⟩
  rw [Za (by omega)];by_cases k5:k=5
  ·subst k5;rw [Zb rfl];go_enter func16,ntmps16;go_wp2_with fail;refine (HR.o _).mono ?_;rintro e w2 ⟨rfl,hb2⟩;have h2:=H1.o.keep hb2;obtain ⟨x0,x1⟩:=Zq (h2.pull 1 _ rfl);obtain ⟨y0,y1,y2,y3,y4⟩:=Zf h2;have H2:=Zh h2;clear h2 hb2;go_wp2_with fail;refine (HF.o _ H2.o.below).mono ?_;rintro e w3 ⟨rfl,hb3⟩;have h3:=H2.o.keep hb3;clear x0 x1 y0 y1 y2 y3 y4 hb3;obtain ⟨x0,x1⟩:=Zq (h3.pull 1 _ rfl);obtain ⟨y0,y1,y2,y3,y4⟩:=Zf h3;have H3:=Zh h3;clear h3;cases o with
   | some i =>
    have d1:decide ((0:Int)<=(i:Int))=true:=by rw [Ze];omega
    simp only [fnI,Zdc,Zaw];go_wp2;go_ret;exact ⟨rfl,H3.o.below⟩
   | none =>
    simp only [fnI,ZdJ,ZaS,Zau];by_cases h8:8<=M.length
    ·have d1:decide ((8:Int)<=(M.length:Int))=true:=by rw [Ze];omega
     go_wp2;go_ret;exact ⟨rfl,H3.o.below⟩
    ·have d1:decide ((8:Int)<=(M.length:Int))=false:=by rw [Zk];omega
     have H8:=Zh h8;go_wp2;go_ret;exact ⟨rfl,H3.o.below⟩
  rw [Za k5];by_cases k6:k=6
  ·subst k6;rw [Zb (by decide)];go_enter func16,ntmps16;go_wp2_with fail;refine (HR.o _).mono ?_;rintro e w2 ⟨rfl,hb2⟩;have h2:=H1.o.keep hb2;obtain ⟨x0,x1⟩:=Zq (h2.pull 1 _ rfl);obtain ⟨y0,y1,y2,y3,y4⟩:=Zf h2;have H2:=Zh h2;clear h2 hb2;go_wp2_with fail;refine (HF.o _ H2.o.below).mono ?_;rintro e w3 ⟨rfl,hb3⟩;have h3:=H2.o.keep hb3;clear x0 x1 y0 y1 y2 y3 y4 hb3;obtain ⟨x0,x1⟩:=Zq (h3.pull 1 _ rfl);obtain ⟨y0,y1,y2,y3,y4⟩:=Zf h3;have H3:=Zh h3;clear h3;cases o with
   | some i =>
    have d1:decide ((i:Int)<0)=false:=by rw [Zk];omega
    simp only [fnI,Zdc,Zaw];go_wp2;go_ret;exact ⟨rfl,H3.o.below⟩
   | none =>
    simp only [fnI,ZdJ,ZaS,Zau];go_wp2;go_ret;exact ⟨rfl,H3.o.below⟩
  by_cases k7:k=7
  ·subst k7;rw [Zb (by decide)];go_enter func16,ntmps16;go_wp2_with fail;refine (HR.o _).mono ?_;rintro e w2 ⟨rfl,hb2⟩;have h2:=H1.o.keep hb2;obtain ⟨x0,x1⟩:=Zq (h2.pull 1 _ rfl);obtain ⟨y0,y1,y2,y3,y4⟩:=Zf h2;have H2:=Zh h2;clear h2 hb2;go_wp2_with fail;refine (HF.o _ H2.o.below).mono ?_;rintro e w3 ⟨rfl,hb3⟩;have h3:=H2.o.keep hb3;clear x0 x1 y0 y1 y2 y3 y4 hb3;obtain ⟨x0,x1⟩:=Zq (h3.pull 1 _ rfl);obtain ⟨y0,y1,y2,y3,y4⟩:=Zf h3;have H3:=Zh h3;clear h3;cases o with
   | some i =>
    have d1:decide ((i:Int)<0)=false:=by rw [Zk];omega
    simp only [fnI,Zdc,Zaw];go_wp2;go_ret;exact ⟨rfl,H3.o.below⟩
   | none =>
    simp only [fnI,ZdJ,ZaS,Zau];go_wp2;go_ret;exact ⟨rfl,H3.o.below⟩
  rw [Za (by omega)];have e1:(k==1)=false:=by simpa using k1
  have e2:(k==2)=false:=by simpa using k2
  have e3:(k==3)=false:=by simpa using k3
  have e5:(k==5)=false:=by simpa using k5
  have e6:(k==6)=false:=by simpa using k6
  have e7:(k==7)=false:=by simpa using k7
  go_enter func16,ntmps16;go_wp2_with fail;refine (HR.o _).mono ?_;rintro e w2 ⟨rfl,hb2⟩;have h2:=H1.o.keep hb2;obtain ⟨x0,x1⟩:=Zq (h2.pull 1 _ rfl);obtain ⟨y0,y1,y2,y3,y4⟩:=Zf h2;have H2:=Zh h2;clear h2 hb2;go_wp2;go_ret;exact ⟨rfl,H2.o.below⟩
end
def depsL (md:Region.Mode) (o:Oper):List Nat:=(o.after.toList.filter fun e=>Region.binds md e).map (·.on)
def depsB (md:Region.Mode) (l:List Oper) (D:List (List Nat)):Bool :=
 Region.noSelect l.toArray&&decide (D.length=l.length)&&(List.range l.length).all fun i=>(match l[i]? with|some o=>decide (depsL md o=D.getD i [])|none=>false)&&(D.getD i []).all fun d=>decide (d<i)
def upd (f:Nat->Bool) (i:Nat):Nat->Bool:=fun j=>if j=i then true else f j
def Zbc (listed:Array Bool):Nat->Bool:=fun i=>listed.getD i false
theorem Zhx {listed:Array Bool} {i:Nat} (hi:i<listed.size):Zbc (listed.setIfInBounds i true)=upd (Zbc listed) i:=by
 funext j;unfold Zbc upd;by_cases h:j=i
 ·subst h;rw [Zb rfl];simp [Array.getD,hi]
 ·rw [Za h];simp only [Zij];rw [Array.getElem?_setIfInBounds_ne (by omega)]
section
variable {P : Program} {Q : Exit -> Act -> World -> Prop}
def unl (n:Nat) (f:Nat->Bool):Nat:=((List.range n).filter fun i=>!f i).length
theorem Zlj {n i:Nat} {f:Nat->Bool} (hi:i<n) (hf:f i=false):unl n (upd f i)+1<=unl n f:=by
 unfold unl;have h1:((List.range n).filter fun j=>!upd f i j)=((List.range n).filter fun j=>!f j).filter fun j=>decide (j≠i):=by
  rw [ZdY];refine Zd6 fun j _=>?_;unfold upd;by_cases h:j=i
  ·subst h;simp
  ·simp [h]
 rw [h1];have hm:i ∈ (List.range n).filter fun j=>!f j:=Z1.2 ⟨Za8.2 hi,by simp [hf]⟩;have h2:=(List.length_filter_lt_length_iff_exists (p:=fun j=>decide (j≠i))).2 ⟨i,hm,by simp⟩;omega
theorem Zph {md:Region.Mode} {l:List Oper} {D:List (List Nat)} (hD:depsB md l D=true) (J:(Nat->Bool)->Act->World->Prop)
  (hstep:∀ (f:Nat->Bool) (a:Act) (w:World),(∀ i,f i=true->∀ d ∈ D.getD i [],f d=true)->J f a w->∀ i o,i<l.length->l[i]?=some o->f i=false->(∀ d ∈ D.getD i [],f d=true)->wpList P l.toArray (Zcg (fun _=>True) Q (fun a' w'=>J (upd f i) a' w')) [o] a w)
  (hend:∀ (f:Nat->Bool) (a:Act) (w:World),J f a w->(∀ i,i<l.length->f i=true)->Q .normal a w) :
  ∀ (n:Nat) (listed:Array Bool) (a:Act) (w:World),listed.size=l.length->unl l.length (Zbc listed)<=n->(∀ i,Zbc listed i=true->∀ d ∈ D.getD i [],Zbc listed d=true)->J (Zbc listed) a w->wpAny P md l.toArray Q n listed a w:=by
 simp only [depsB,Zak,Ze,Zcw,Za8] at hD;obtain ⟨⟨hsel,hlen⟩,hD⟩:=hD;have hdep:∀ i o,l[i]?=some o->depsL md o=D.getD i []:=fun i o ho=>by
  have:=(hD i (ZS.1 ho).1).1;rw [ho] at this;exact of_decide_eq_true this
 have hlow:∀ i,i<l.length->∀ d ∈ D.getD i [],d<i:=fun i hi d hd=>(hD i hi).2 d hd;have hrd:∀ (listed:Array Bool) i,listed.size=l.length->(i ∈ Region.ready md l.toArray listed↔i<l.length∧Zbc listed i=false∧∀ d ∈ D.getD i [],Zbc listed d=true):=fun listed i hs=>by
  rw [mem_ready];constructor
  ·rintro ⟨h1,o,ho,h2⟩;have ho':l[i]?=some o:=by simpa using ho
   have hi:=(ZS.1 ho').1;refine ⟨hi,?_,fun d hd=>?_⟩
   ·unfold Zbc;simp only [Zij] at h1 |-;rw [Zfh (by omega)] at h1 |-;exact h1
   ·rw [<-hdep i o ho'] at hd;obtain ⟨e,he,rfl⟩:=ZH.1 hd;have:=Z1.1 he;exact h2 e (by simpa using this.1) (by simpa using this.2)
  ·rintro ⟨hi,h1,h2⟩;refine ⟨?_,l[i],by simp [ZL hi],fun e he hb=>?_⟩
   ·unfold Zbc at h1;simp only [Zij] at h1 |-;rw [Zfh (by omega)] at h1 |-;exact h1
   ·refine h2 e.on ?_;rw [<-hdep i l[i] (ZL hi)];exact ZH.2 ⟨e,Z1.2 ⟨by simpa using he,by simpa using hb⟩,rfl⟩
 have hall:∀ (listed:Array Bool),listed.size=l.length->Region.ready md l.toArray listed=[]->∀ i,i<l.length->Zbc listed i=true:=fun listed hs hr i=>by
  induction i using Nat.strongRecOn with
  | _ i ih =>
   intro hi;cases h:Zbc listed i with
   | true=>rfl
   | false =>
    have:i ∈ Region.ready md l.toArray listed:=(hrd listed i hs).2 ⟨hi,h,fun d hd=>ih d (hlow i hi d hd) (by have:=hlow i hi d hd;omega)⟩;rw [hr] at this;cases this
 have hclo:∀ (listed:Array Bool) i,listed.size=l.length->i ∈ Region.ready md l.toArray listed->(∀ j,Zbc listed j=true->∀ d ∈ D.getD j [],Zbc listed d=true)->∀ j,Zbc (listed.setIfInBounds i true) j=true->∀ d ∈ D.getD j [],Zbc (listed.setIfInBounds i true) d=true:=fun listed i hs hi hc j hj d hd=>by
  obtain ⟨h1,h2,h3⟩:=(hrd listed i hs).1 hi;rw [Zhx (by omega)] at hj |-;unfold upd at hj |-;by_cases hdi:d=i
  ·rw [Zb hdi]
  ·rw [Za hdi];by_cases hji:j=i
   ·subst hji;exact h3 d hd
   ·rw [Za hji] at hj;exact hc j hj d hd
 intro n;induction n with
 | zero =>
  intro listed a w hs hn hc hJ;have hre:Region.ready md l.toArray listed=[]:=by
   rw [List.eq_nil_iff_forall_not_mem];intro i hi;obtain ⟨h1,h2,_⟩:=(hrd listed i hs).1 hi;have:=Zlj (n:=l.length) h1 h2;omega
  exact ⟨hre,hend _ a w hJ (hall listed hs hre)⟩
 | succ n ih =>
  intro listed a w hs hn hc hJ;refine ⟨fun hre=>hend _ a w hJ (hall listed hs hre),fun i hi=>?_⟩;obtain ⟨h1,h2,h3⟩:=(hrd listed i hs).1 hi;have ho:l[i]?=some l[i]:=ZL h1;have h4:=hstep _ a w hc hJ i l[i] h1 ho h2 h3;refine Zcx (fun a' w' h'=>?_) (ZdL (i:=i) (by simp [ho]) h4);refine ih (listed.setIfInBounds i true) a' w' (by simp [hs]) ?_ (hclo listed i hs hi hc) ?_
  ·rw [Zhx (by omega)];have:=Zlj (n:=l.length) h1 h2;omega
  ·rw [Zhx (by omega)];exact h'.2
theorem ZlX {id:Nat} {a:Act} {l:List Oper} (J:(Nat->Bool)->Act->World->Prop) (D:List (List Nat)) (hm:P.follows .mixedOrders=true) (hD:depsB .any l D=true) (h0:J (fun _=>false) a w.drew)
  (hstep:∀ (f:Nat->Bool) (a:Act) (w:World),(∀ i,f i=true->∀ d ∈ D.getD i [],f d=true)->J f a w->∀ i o,i<l.length->l[i]?=some o->f i=false->(∀ d ∈ D.getD i [],f d=true)->wpList P l.toArray (Zcg (fun _=>True) (NoPanic Q) (fun a' w'=>J (upd f i) a' w')) [o] a w)
  (hend:∀ (f:Nat->Bool) (a:Act) (w:World),J f a w->(∀ i,i<l.length->f i=true)->Q .normal a w):(Code.region id l.toArray true).wp P Q a w:=by
 refine wp_region_noPanic ?_;refine wp_region_any hm ?_;change wpAny P .any l.toArray _ l.toArray.size _ a w.drew;have hf:Zbc (Array.replicate l.toArray.size false)=fun _=>false:=by
  funext i;unfold Zbc;simp only [Zij,Array.getElem?_replicate];split <;> rfl
 refine Zph (Q:=NoPanic Q) hD J hstep (fun f a w hJ hall=>?_) _ _ a _ (by simp) ?_ ?_ ?_
 ·exact Zu (hend f a w hJ hall)
 ·rw [hf];unfold unl;refine ZQ (Zbi ..) ?_;simp
 ·rw [hf];intro i hi;cases hi
 ·rw [hf];exact h0
end
end Go.Proofs.YtcbdghojlbpomaaGreat
