import Derived.Test.YtcbdghojlbpomaaGreatIF31
set_option linter.all false
set_option maxRecDepth 4000
set_option maxHeartbeats 8000000
open Go.RowKit
open Go.IntKind (i64 u64)
open Go.Value (int pointer slice)
open Go.Obj (cells)
namespace Go.Proofs.YtcbdghojlbpomaaGreat
open Tryz
open HP (pt mapOf)
variable {W w w':World} {I:Hp} {l:List HP}
section
variable {p q : Nat} {S : Str}
theorem Zqd (n:Nat) (hn:n<=512) (w:World):Calls prog 62 #[int i64 n,int i64 0,int i64 512] w fun e w'=>e=.returned (int i64 n)∧w=w':=by
 have d1:decide ((n:Int)<0)=false:=by rw [Zk];omega
 have d2:decide ((512:Int)<(n:Int))=false:=by rw [Zk];omega
 go_enter func62,ntmps62;go_wp2;go_ret;exact ⟨rfl,rfl⟩
theorem Zpq (n:Nat) (hn:n<=512) (hs:St W I w l):Calls prog 145 #[int i64 n] w fun e w'=>∃ I' A c,I.sub I'∧e=.returned (.agg #[slice A n c,slice none 0 0])∧Zw I' (slice A n c) (List.replicate n 0)∧St W I' w' l:=by
 have hmn:min (n:Int) 512=n:=by omega
 have hmx:max (0:Int) n=n:=by omega
 have H1:=Zh (hs.alloc (cells #[slice none 0 0,slice none 0 0] 35));obtain ⟨g,hg⟩:∃ g,w.heap.size=g:=⟨_,rfl⟩;rw [hg] at H1;have HG:=Zh hg;clear hs hg;go_enter func145,ntmps145;go_upto_region 1 with fail;rw [HG.o];have h1:=H1.o;generalize (World.alloc _ _:World)=w1 at h1 |-;clear H1 HG;obtain ⟨x0,x1⟩:=Zq h1;have lt0:g<w1.heap.size:=h1.lt;have f:=frozen_of_row h1.heap;have hmk:=Ze4 n (by omega) w1;have h2:=(h1.set2 (slice (some ⟨w1.heap.size,0,none⟩) n n) (slice none 0 0)).alloc (cells (zeroA n) 5);simp only [World.size_setCell] at h2;have e0:zeroA n=((List.replicate n (0:Int)).map byteV).toArray:=by
  unfold zeroA;simp [byteV]
 rw [e0] at h2 hmk;obtain ⟨Z,hZ⟩:∃ Z,((List.replicate n (0:Int)).map byteV).toArray=Z:=⟨_,rfl⟩;rw [hZ] at h2 hmk;have HZ:=Zh hZ;have H2:=Zh h2;clear h1 h2 e0 hZ;go_wp2_with fail;have h3:=H2.o;obtain ⟨g3,hg3⟩:∃ x,w1.heap.size=x:=⟨_,rfl⟩;simp only [hg3] at h3 |-;generalize (World.alloc _ _:World)=w9 at h3 |-;clear x0 x1 H2;obtain ⟨x0,x1⟩:=Zq (h3.pull 1 _ rfl);rw [<-HZ.o] at h3;obtain ⟨I4,hs4,hb4,h4⟩:=Zc2 (Za7 ..) (by omega) h3;refine ZaK (v:=.agg #[slice (some ⟨g3,0,none⟩) n n,slice none 0 0]) (by simp [results,results145,go_sem,x0,x1]) rfl ?_;exact ⟨I4,_,_,hs4,rfl,hb4,h4.drop⟩
theorem ZmX (n:Nat) (hn:n<=512) (hs:St W I w l):Calls prog 15 #[int i64 n] w fun e w'=>∃ I' A c,I.sub I'∧e=.returned (.agg #[slice A n c,slice none 0 0])∧Zw I' (slice A n c) (List.replicate n 0)∧St W I' w' l:=by
 have hmn:min (n:Int) 512=n:=by omega
 have hmx:max (0:Int) n=n:=by omega
 have H1:=Zh (hs.alloc (cells #[slice none 0 0,slice none 0 0] 35));obtain ⟨g,hg⟩:∃ g,w.heap.size=g:=⟨_,rfl⟩;rw [hg] at H1;have HG:=Zh hg;clear hs hg;go_enter func15,ntmps15;go_upto_region 1 with fail;rw [HG.o];have h1:=H1.o;generalize (World.alloc _ _:World)=w1 at h1 |-;clear H1 HG;obtain ⟨x0,x1⟩:=Zq h1;have lt0:g<w1.heap.size:=h1.lt;have f:=frozen_of_row h1.heap;have hmk:=Ze4 n (by omega) w1;have h2:=(h1.set2 (slice (some ⟨w1.heap.size,0,none⟩) n n) (slice none 0 0)).alloc (cells (zeroA n) 5);simp only [World.size_setCell] at h2;have e0:zeroA n=((List.replicate n (0:Int)).map byteV).toArray:=by
  unfold zeroA;simp [byteV]
 rw [e0] at h2 hmk;obtain ⟨Z,hZ⟩:∃ Z,((List.replicate n (0:Int)).map byteV).toArray=Z:=⟨_,rfl⟩;rw [hZ] at h2 hmk;have HZ:=Zh hZ;have H2:=Zh h2;clear h1 h2 e0 hZ;go_wp2_with fail;refine (Zqd n hn _).mono ?_;rintro e w2 ⟨rfl,rfl⟩;go_wp2_with fail;have h3:=H2.o;obtain ⟨g3,hg3⟩:∃ x,w1.heap.size=x:=⟨_,rfl⟩;simp only [hg3] at h3 |-;generalize (World.alloc _ _:World)=w9 at h3 |-;clear x0 x1 H2;obtain ⟨x0,x1⟩:=Zq (h3.pull 1 _ rfl);rw [<-HZ.o] at h3;obtain ⟨I4,hs4,hb4,h4⟩:=Zc2 (Za7 ..) (by omega) h3;refine ZaK (v:=.agg #[slice (some ⟨g3,0,none⟩) n n,slice none 0 0]) (by simp [results,results15,go_sem,x0,x1]) rfl ?_;exact ⟨I4,_,_,hs4,rfl,hb4,h4.drop⟩
end
theorem ZcE (h:Hd) (R:List RO):(h.seen.map fun m=>(m.name,slice none 0 0)).map (·.1)=(viewI h R).snaps.map (·.1):=by
 show (h.seen.map _).map _=(h.seen.map _).map _;rw [ZdD,ZdD];rfl
section
variable {p q : Nat} {S : Str}
theorem ZcD (h:Hd) (hz:h.size<=512) (h17:h.marks.length<=1000) (hs:St W I w (imgHP q p h::l)) :
  Calls prog 68 #[pointer (some ⟨q,0,none⟩)] w fun e w'=>∃ I' vd vs,I.sub I'∧e=.returned (.agg #[vd,vs])∧(∃ A c,vd=slice A h.size c)∧RowI I' 2 vs h.seen.length ((h.seen.map fun m=>(m.name,slice none 0 0)).flatMap ocell)∧St W I' w' (imgHP q p h::l):=by
 have ha:=(hs.alloc (cells #[slice none 0 0,slice none 0 0] 35));obtain ⟨g2,hg2⟩:∃ g,w.heap.size=g:=⟨_,rfl⟩;rw [hg2] at ha;have HNW:=Zh (Zpq h.size hz ha);obtain ⟨v,hv,h1⟩:=(ha.pull 1 _ rfl).img_open;have c2:=(Zz h1).c2;have HSE:=Zh (fun (v:Value) (wx:World) (hv:SliceSrc wx 4 v h.marks.length (h.marks.flatMap Mk.vals))=>Zkf h v wx hv h17);have HG2:=Zh hg2;obtain ⟨sn,hsn⟩:∃ x,h.seen=x:=⟨_,rfl⟩;have hsl:sn.length<=1000:=by
  rw [<-hsn];exact ZQ (Zbi _ _) h17
 rw [hsn] at HSE;rw [hsn];clear hs ha hv h1 hg2 hsn;obtain ⟨sz,⟨o,u,cn⟩,nx,sq,ms⟩:=h;simp only [Hd.cells] at HSE HNW c2;go_enter func68,ntmps68;go_wp2_with fail;refine HNW.o.mono ?_;rintro e w2 ⟨I2,A2,d2,hs2,rfl,hb2,h2⟩;have h3:=h2.alloc (cells #[slice A2 sz d2,slice none 0 0] 35);obtain ⟨g3,hg3⟩:∃ g,w2.heap.size=g:=⟨_,rfl⟩;rw [hg3] at h3;have H3:=Zh h3;have HG3:=Zh hg3;have HS2:=Zh hs2;clear h2 h3 hg3 hb2 hs2 c2;go_upto_region 2 with fail;rw [HG3.o,HG2.o];have h3:=H3.o;generalize (World.alloc _ _:World)=w3 at h3 |-;have HW3:=Zh h3;obtain ⟨v,hv,h1⟩:=(h3.pull 2 _ rfl).img_open;have hsr:=ZbW h1 hv;obtain ⟨c0,c1,c2,c3,c4,c5,c6,c7,c8,c9⟩:=Zz h1;simp only at c2 c3 c4 c5 c6 c7 c8;have HSS:=Zh (HSE.o v w3 hsr);clear H3 HG3 HG2 h3 hv h1 hsr;go_wp2_with fail;refine HSS.o.mono ?_;rintro e w4 ⟨A4,c4',rfl,h4⟩;obtain ⟨I5,hs5,hr5,h5⟩:=(HW3.o.row_fresh h4.below h4.row_new).freeze_row;have HR5:=Zh hr5;have HS5:=Zh (HS2.o.trans hs5);have H5:=Zh (h5.row_nil 58 2);clear h4 h5 hr5 hs5 HSS HSE c0 c1 c2 c3 c4 c5 c6 c7 c8 c9 HW3;go_wp2;go_loopw [18] (fun a18 wr=>∃ (i:Nat) (M:List (ByteArray × Value)) (A:Option Addr) (c:Nat),a18=int i64 i∧i<=sn.length∧M=(sn.take i).map (fun m=>(m.name,slice none 0 0))∧St W I5 wr (HP.row 58 2 (slice A M.length c) M.length (M.flatMap ocell)::pt g3 (cells #[slice A2 sz d2,slice A M.length c] 35)::pt g2 (cells #[slice none 0 0,slice none 0 0] 35)::imgHP q p ⟨sz,⟨o,u,cn⟩,nx,sq,ms⟩::l)) (fun a18 _=>sn.length - (intOf a18).toNat);case atStart=>exact ⟨0,[],none,0,rfl,by omega,rfl,H5.o⟩
 case round =>
  obtain ⟨i,M,A1,c1,rfl,hi,hM,hst⟩:=hrel;clear H5;by_cases hlt:i<sn.length
  ·have d0:decide ((i:Int)<(sn.length:Int))=true:=by rw [Ze];omega
   obtain ⟨e,he⟩:∃ e,sn[i]?=some e:=⟨_,ZL hlt⟩;obtain ⟨b,bo,e1,hc⟩:=ZbJ (i:=i) (mk:=Mk.vals) (k:=4) HR5.o (Hp.sub.refl _) hst (fun _=>rfl) he;simp only [ZF,Zae,ZK] at e1;subst e1;have htk:(sn.take (i+1)).map (fun m=>(m.name,slice none 0 0))=M++[(e.name,slice none 0 0)]:=by
    obtain ⟨hil,hee⟩:=ZS.1 he;rw [ZbG hil,hee,Z4,<-hM];rfl
   have hml:M.length<=1000:=by rw [hM,ZE,ZN];omega
   obtain ⟨xi,xn,xs,xg⟩:=e;simp only at htk;have y0:=hc 0 (by omega);have y1:=hc 1 (by omega);have y2:=hc 2 (by omega);have y3:=hc 3 (by omega);simp only [Mk.vals,Zg,Zi,Zbg] at y0 y1 y2 y3;have H4:=Zh (hst.alloc (cells #[int i64 xi,.string xn,int i64 xs,.bool xg] 66));obtain ⟨g5,hg5⟩:∃ g,wr.heap.size=g:=⟨_,rfl⟩;rw [hg5] at H4;have HG5:=Zh hg5;have HTK:=Zh htk;clear hc he hst htk hg5 hM;go_upto_region 5 with fail;rw [HG5.o];have h5:=H4.o;generalize (World.alloc _ _:World)=w5 at h5 |-;clear y0 y1 y2 y3 H4 HG5;obtain ⟨y0,y1,y2,y3⟩:=ZX h5;obtain ⟨x0,x1⟩:=Zq (h5.pull 2 _ rfl);obtain ⟨A8,c8,w8,hr8,h8⟩:=St.row_push (ty:=33) underlying33 Zgb rfl (by decide) (by decide) (mk:=ocell) (fun _=>rfl) (h5.pull 1 _ rfl) (xn,slice none 0 0) (fun u hu=>by simp only [ocell,ZO,ZdE,ZcQ] at hu;rcases hu with rfl|rfl <;> rfl) (by omega) #[.string xn,slice none 0 0] rfl;obtain ⟨M2,hM2⟩:∃ x,M++[(xn,slice none 0 0)]=x:=⟨_,rfl⟩;rw [hM2] at hr8 h8;have HTK2:=Zh (HTK.o.trans hM2);simp only [Zx,Zy] at h8;have h8b:=h8.pull 2 _ rfl;obtain ⟨z0,z1⟩:=Zq h8b;have f:=frozen_of_row h8b.heap;have h9:=((h8b.setCell 1 (slice A8 M2.length c8)).pull 2 _ rfl).drop.pull 1 _ rfl;simp only [Zx,Zy] at h9;have H9:=Zh h9;have HR8:=Zh hr8;have l3:g3<w5.heap.size:=(h5.pull 2 _ rfl).lt;have l5:g5<w5.heap.size:=h5.lt;clear h5 hr8 h8 h8b h9 hM2;go_wp2_with (at_builtin;refine Zax _ rfl (.tmp 23) (.tmp 27) 33 33 rfl _ _ rfl rfl _ _ HR8.o ?_);go_roundw;case rel=>exact ⟨i+1,M2,A8,c8,by go_num,by omega,HTK2.o.symm,H9.o⟩
   case measure=>simp [intOf]<;>omega
  ·obtain rfl:i=sn.length:=by omega
   have d0:decide (((sn.length:Nat):Int)<(sn.length:Int))=false:=by rw [Zk];omega
   rw [Zbk] at hM;obtain ⟨I6,hs6,hr6,h6⟩:=hst.freeze_row;obtain ⟨x0,x1⟩:=Zq h6;have h7:=h6.pull 1 _ rfl;obtain ⟨z0,z1⟩:=Zq h7;have f:=frozen_of_row h7.heap;have H8:=Zh (h7.set2 (slice A2 sz d2) (slice A1 M.length c1));have HR6:=Zh hr6;have HS6:=Zh (HS5.o.trans hs6);have HM:=Zh hM;have hml:M.length=sn.length:=by rw [hM,ZE]
   have HML:=Zh hml;clear hst h6 h7 hr6 hs6 hM hml;go_wp2_with fail;have h8:=H8.o;generalize (World.setCell _ _ _:World)=w9 at h8 |-;clear x0 x1 z0 z1 f H8;obtain ⟨x0,x1⟩:=Zq h8;refine ZaK (v:=.agg #[slice A2 sz d2,slice A1 M.length c1]) (by simp [results,results68,go_sem,x0,x1]) rfl ?_;refine ⟨I6,_,_,HS6.o,rfl,⟨A2,d2,rfl⟩,?_,h8.drop.drop⟩;rw [<-HML.o,<-HM.o];exact HR6.o
end
end Go.Proofs.YtcbdghojlbpomaaGreat
