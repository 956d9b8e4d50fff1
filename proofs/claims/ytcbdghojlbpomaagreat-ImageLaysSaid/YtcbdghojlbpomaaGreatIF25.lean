import Derived.Test.YtcbdghojlbpomaaGreatIF24
set_option linter.all false
set_option maxRecDepth 4000
set_option maxHeartbeats 8000000
open Go.RowKit
open Go.IntKind (i64 u64)
open Go.Value (int pointer slice)
open Go.Obj (cells)
namespace Go.Proofs.YtcbdghojlbpomaaGreat
theorem ZnH {s:ByteArray} (h:1<=s.size):((s.extract 0 1).toList==[126])=holdN s:=by
 rw [show ([126]:List UInt8)=(⟨#[126]⟩:ByteArray).toList from (by first|rfl|decide|simp),Zh1];unfold holdN;rw [decide_eq_decide];have hz:0<s.size:=h;have hb:bt s 0=((s[0]'hz).toNat:Int):=(Zgk s 0 hz).symm;have he:(s.extract 0 1).data=#[s[0]'hz]:=by
  rw [ByteArray.data_extract];refine Array.ext (by simp;have:s.data.size=s.size:=rfl;omega) fun i h1 h2=>?_;have hi:i=0:=by simp at h2;omega
  subst hi;simp;rfl
 constructor
 ·intro e;have:=congrArg ByteArray.data e;rw [he] at this;have h2:s[0]'hz=126:=by simpa using this
  rw [hb,h2];rfl
 ·intro e;have h2:(s[0]'hz).toNat=126:=by rw [hb] at e;omega
  have h3:s[0]'hz=126:=UInt8.toNat_inj.1 h2;refine ByteArray.ext ?_;rw [he,h3]
theorem Zio (b:Bool) (id:Int):∀ (l:List Mk) (m:Mk),ZaV b id (l++[m])=ZaV b id l++(if m.id=id then (if b=true then [{ m with gone:=true }] else []) else [m])
 | [],m=>by
  show ZaV b id [m]=_;unfold ZaV ZaV;cases b <;> by_cases h:m.id=id <;> simp [h]
 | x::l,m=>by
  have ih:=Zio b id l m;rw [ZZ];unfold ZaV;by_cases h:x.id=id
  ·rw [Zb h,Zb h,ih];cases b <;> rfl
  ·rw [Za h,Za h,ih];rfl
theorem Zp6 (ms:List Mk) (id:Int):∃ (xi:Int) (xn:ByteArray) (xs:Int) (xg inn:Bool),mkVal (heldM ms)=.tuple #[.agg #[int i64 xi,.string xn,int i64 xs,.bool xg],.bool inn]∧Zcv ms id=(inn&&decide (id<=xi)):=by
 unfold Zcv;cases h:heldM ms with
 | none=>exact ⟨0,⟨#[]⟩,0,false,false,rfl,rfl⟩
 | some x=>exact ⟨x.id,x.name,x.size,x.gone,true,rfl,rfl⟩
section
variable {W w : World} {I : Hp} {l : List HP} {p q : Nat} {S : Str}
theorem Zjs (h:Hd) (hnm:∀ m ∈ h.marks,1<=m.name.size) (v:Value) (w:World) (hs:SliceSrc w 4 v h.marks.length (h.marks.flatMap Mk.vals)) (h17:h.marks.length<=1000) :
  Calls Tryz.prog 86 #[.agg (h.cells v)] w fun e w'=>e=.returned (mkVal (heldM h.marks))∧Below w.heap.size w w':=by
 have HS:=Zh hs;have HN:=Zh hnm;obtain ⟨A,c,rfl,_⟩:=hs;have h0:=(St.init w).alloc (cells (h.cells (slice A h.marks.length c)) 51);obtain ⟨sz,⟨o,u,cn⟩,nx,sq,ms⟩:=h;simp only [Hd.cells] at *;have H0:=Zh (h0.alloc (cells #[int i64 0,.string ⟨#[]⟩,int i64 0,.bool false] 66));unfold heldM;clear h0 hnm;go_enter Tryz.func86,Tryz.ntmps86;go_wp2_with fail;have hg0:(w.alloc (cells #[int i64 sz,int i64 o,int i64 u,int i64 cn,int i64 nx,int i64 sq,slice A ms.length c] 51)).heap.size=w.heap.size+1:=Zb2 ..;rw [hg0] at H0;go_loopw [9] (fun a9 wr=>∃ (i:Nat),a9=int i64 i∧i<=ms.length∧(ms.take i).find? (fun m=>holdN m.name)=none∧St w w.hp wr [HP.pt (w.heap.size+1) (cells #[int i64 0,.string ⟨#[]⟩,int i64 0,.bool false] 66),HP.pt w.heap.size (cells #[int i64 sz,int i64 o,int i64 u,int i64 cn,int i64 nx,int i64 sq,slice A ms.length c] 51)]) (fun a9 _=>ms.length - (intOf a9).toNat);case atStart=>exact ⟨0,rfl,by omega,rfl,H0.o⟩
 case round =>
  obtain ⟨i,rfl,hi,hnone,hst⟩:=hrel;by_cases hlt:i<ms.length
  ·have d0:decide ((i:Int)<(ms.length:Int))=true:=by rw [Ze];omega
   obtain ⟨m,hm⟩:∃ m,ms[i]?=some m:=⟨_,ZL hlt⟩;obtain ⟨G,off,c2,e1,hG,hc⟩:=Zco (mk:=Mk.vals) (HS.o.below hst.below) (fun _=>rfl) (by decide) hm;simp only [ZF,ZK] at e1;obtain ⟨rfl,rfl⟩:=e1;have hft:=Zke (fun m:Mk=>holdN m.name) hnone hm;have hsz:=HN.o m (Zay hm);obtain ⟨id,s,n,b⟩:=m;simp only at hsz;have d1:=ZnH hsz;have d2:(1:Int)<=(s.size:Int):=by omega
   have y0:wr.cell? ⟨G,off+i*4,none⟩=some (int i64 id):=hc 0 (by decide);have y1:wr.cell? ⟨G,off+i*4+1,none⟩=some (.string s):=hc 1 (by decide);have y2:wr.cell? ⟨G,off+i*4+2,none⟩=some (int i64 (n:Int)):=hc 2 (by decide);have y3:wr.cell? ⟨G,off+i*4+3,none⟩=some (.bool b):=hc 3 (by decide);have lt0:G<wr.heap.size:=hG;have hst2:=hst.alloc (cells #[int i64 id,.string s,int i64 n,.bool b] 66);have HST:=Zh hst2;have HFT:=Zh hft;clear hc hm hst hst2 hft hnone hsz;cases hb:holdN s with
   | false =>
    rw [hb] at d1;go_wp2;go_roundw;case rel=>exact ⟨i+1,by go_num,by omega,HFT.o.2 hb,HST.o.drop⟩
    case measure=>simp [intOf]<;>omega
   | true =>
    rw [hb] at d1;go_upto_region 5 with fail;have h5:=HST.o;generalize (World.alloc _ _:World)=w5 at h5 |-;clear y0 y1 y2 y3 lt0 HST;obtain ⟨y0,y1,y2,y3⟩:=ZX h5;have h6:=h5.pull 1 _ rfl;obtain ⟨z0,z1,z2,z3⟩:=ZX h6;have f:=frozen_of_row h6.heap;have H7:=Zh (h6.set4 (int i64 id) (.string s) (int i64 n) (.bool b));clear h5 h6;go_wp2_with fail;have h7:=H7.o;generalize (World.setCell _ _ _:World)=w9 at h7 |-;clear y0 y1 y2 y3 z0 z1 z2 z3;obtain ⟨z0,z1,z2,z3⟩:=ZX h7;refine ZaK (v:=.tuple #[.agg #[int i64 id,.string s,int i64 n,.bool b],.bool true]) (by simp [results,Tryz.results86,go_sem,z0,z1,z2,z3]) rfl ?_;rw [HFT.o.1 hb];exact ⟨rfl,h7.below⟩
  ·obtain rfl:i=ms.length:=by omega
   have d0:decide (((ms.length:Nat):Int)<(ms.length:Int))=false:=by rw [Zk];omega
   rw [Zbk] at hnone;have HZ:=Zh hnone;obtain ⟨z0,z1,z2,z3⟩:=ZX hst;have f:=frozen_of_row hst.heap;have H7:=Zh (hst.set4 (int i64 0) (.string ⟨#[]⟩) (int i64 0) (.bool false));clear hnone hst;go_wp2_with fail;have h7:=H7.o;generalize (World.setCell _ _ _:World)=w9 at h7 |-;clear z0 z1 z2 z3;obtain ⟨z0,z1,z2,z3⟩:=ZX h7;refine ZaK (v:=.tuple #[.agg #[int i64 0,.string ⟨#[]⟩,int i64 0,.bool false],.bool false]) (by simp [results,Tryz.results86,go_sem,z0,z1,z2,z3]) rfl ?_;rw [HZ.o];exact ⟨rfl,h7.below⟩
theorem ZlW (h:Hd) (hnm:∀ m ∈ h.marks,1<=m.name.size) (id:Int) (v:Value) (w:World) (hs:SliceSrc w 4 v h.marks.length (h.marks.flatMap Mk.vals)) (h17:h.marks.length<=1000) :
  Calls Tryz.prog 153 #[.agg (h.cells v),int i64 id] w fun e w'=>∃ A c,e=.returned (slice A (ZaC h.marks id).length c)∧St w w.hp w' [HP.row 66 4 (slice A (ZaC h.marks id).length c) (ZaC h.marks id).length ((ZaC h.marks id).flatMap Mk.vals)]:=by
 have HS:=Zh hs;have h0:=(St.init w).alloc (cells (h.cells v) 51);have HHE:=Zh (Zjs h hnm v _ (hs.below h0.below) h17);obtain ⟨A,c,rfl,_⟩:=hs;obtain ⟨xi,xn,xs,xg,inn,hval,hstay⟩:=Zp6 h.marks id;rw [hval] at HHE;unfold ZaC;obtain ⟨stay,hst0⟩:∃ x,Zcv h.marks id=x:=⟨_,rfl⟩;rw [hst0] at hstay |-;obtain ⟨sz,⟨o,u,cn⟩,nx,sq,ms⟩:=h;simp only [Hd.cells] at *;obtain ⟨g0,hg0⟩:∃ g,w.heap.size=g:=⟨_,rfl⟩;rw [hg0] at h0;have HG0:=Zh hg0;have H0:=Zh h0;have HSTAY:=Zh hstay;clear h0 hnm hval hg0 hstay hst0;go_enter Tryz.func153,Tryz.ntmps153;go_wp2_with fail;refine HHE.o.mono ?_;rintro e w2 ⟨rfl,hb2⟩;rw [HG0.o];have h2:=H0.o.keep hb2;obtain ⟨x0,x1,x2,x3,x4,x5,x6⟩:=ZW h2;have h3:=h2.alloc (cells #[int i64 xi,.string xn,int i64 xs,.bool xg] 66);obtain ⟨g5,hg5⟩:∃ g,w2.heap.size=g:=⟨_,rfl⟩;rw [hg5] at h3;have HG5:=Zh hg5;have H3:=Zh (h3.row_nil 66 4);clear h2 h3 hb2 hg5;go_upto_region 3 with fail;rw [HG5.o];have h3:=H3.o;generalize (World.alloc _ _:World)=w3 at h3 |-;have H4:=Zh h3;clear x0 x1 x2 x3 x4 x5 x6 H3;obtain ⟨x0,x1,x2,x3,x4,x5,x6⟩:=ZW (h3.pull 2 _ rfl);clear h3;go_wp2;go_loopw [7,18] (fun a7 a18 wr=>∃ (i:Nat) (z:List Mk) (B:Option Addr) (d:Nat),a18=int i64 i∧i<=ms.length∧a7=slice B z.length d∧z=ZaV stay id (ms.take i)∧St w w.hp wr [HP.row 66 4 (slice B z.length d) z.length (z.flatMap Mk.vals),HP.pt g5 (cells #[int i64 xi,.string xn,int i64 xs,.bool xg] 66),HP.pt g0 (cells #[int i64 sz,int i64 o,int i64 u,int i64 cn,int i64 nx,int i64 sq,slice A ms.length c] 51)]) (fun _ a18 _=>ms.length - (intOf a18).toNat);case atStart=>exact ⟨0,[],none,0,rfl,by omega,rfl,rfl,H4.o⟩
 case round =>
  obtain ⟨i,z,B,d,rfl,hi,rfl,hz,hst⟩:=hrel;clear x0 x1 x2 x3 x4 x5 x6 H4;by_cases hlt:i<ms.length
  ·have hzl:z.length<=1000000:=by
    rw [hz];have:=((ZeK stay id (ms.take i)).1).length_le;rw [ZE,ZE,ZN] at this;omega
   have d0:decide ((i:Int)<(ms.length:Int))=true:=by rw [Ze];omega
   obtain ⟨m,hm⟩:∃ m,ms[i]?=some m:=⟨_,ZL hlt⟩;obtain ⟨G,off,c2,e1,hG,hc⟩:=Zco (mk:=Mk.vals) (HS.o.below hst.below) (fun _=>rfl) (by decide) hm;simp only [ZF,ZK] at e1;obtain ⟨rfl,rfl⟩:=e1;have hft:ZaV stay id (ms.take (i+1))=z++(if m.id=id then (if stay=true then [{ m with gone:=true }] else []) else [m]):=by
    obtain ⟨hk,he⟩:=ZS.1 hm;rw [ZbG hk,he,Zio,<-hz]
   obtain ⟨z0,z1,z2,z3⟩:=ZX (hst.pull 1 _ rfl);obtain ⟨id2,s,n,b⟩:=m;have y0:wr.cell? ⟨G,off+i*4,none⟩=some (int i64 id2):=hc 0 (by decide);have y1:wr.cell? ⟨G,off+i*4+1,none⟩=some (.string s):=hc 1 (by decide);have y2:wr.cell? ⟨G,off+i*4+2,none⟩=some (int i64 (n:Int)):=hc 2 (by decide);have y3:wr.cell? ⟨G,off+i*4+3,none⟩=some (.bool b):=hc 3 (by decide);have lt0:G<wr.heap.size:=hG;have lt5:g5<wr.heap.size:=(hst.pull 1 _ rfl).lt;have HST:=Zh (hst.alloc (cells #[int i64 id2,.string s,int i64 n,.bool b] 66));clear hc hm hst hz;simp only at hft;by_cases hid:id2=id
   ·subst hid;rw [Zb rfl] at hft;have d1:(id2==id2)=true:=by simp
    cases stay with
    | false =>
     rw [Za (by simp),ZdG] at hft;have HFT:=Zh hft;clear hft;cases inn with
     | false =>
      go_wp2;go_roundw;case rel=>exact ⟨i+1,z,B,d,by go_num,by omega,rfl,HFT.o.symm,HST.o.drop⟩
      case measure=>simp [intOf]<;>omega
     | true =>
      have d2:decide (xi<id2)=true:=by
       have:=HSTAY.o;rw [ZbR] at this;rw [Ze];have:=of_decide_eq_false this.symm;omega
      go_wp2;go_roundw;case rel=>exact ⟨i+1,z,B,d,by go_num,by omega,rfl,HFT.o.symm,HST.o.drop⟩
      case measure=>simp [intOf]<;>omega
    | true =>
     rw [Zb rfl] at hft;have HFT:=Zh hft;clear hft;obtain rfl:inn=true:=by
      have:=HSTAY.o;cases inn with
      | true=>rfl
      | false=>rw [Bool.false_and] at this;cases this
     have d2:decide (xi<id2)=false:=by
      have:=HSTAY.o;rw [ZbR] at this;rw [Zk];have:=of_decide_eq_true this.symm;omega
     go_upto_region 8 with fail;have h4:=HST.o;obtain ⟨g9,hg9⟩:∃ g,wr.heap.size=g:=⟨_,rfl⟩;rw [hg9] at h4;simp only [hg9];generalize (World.alloc _ _:World)=w4 at h4 |-;clear y0 y1 y2 y3 lt0 HST hg9 z0 z1 z2 z3 lt5;obtain ⟨y0,y1,y2,y3⟩:=ZX h4;have f:=frozen_of_row h4.heap;have HST:=Zh (h4.setCell 3 (.bool true));clear h4;go_upto_region 9 with fail;have h5:=HST.o;generalize (World.setCell _ _ _:World)=w5 at h5 |-;clear y0 y1 y2 y3 HST f;have h5:St w w.hp w5 (HP.pt g9 (cells #[int i64 id2,.string s,int i64 n,.bool true] 66)::_):=h5;obtain ⟨y0,y1,y2,y3⟩:=ZX h5;obtain ⟨B6,d6,w6,hr6,h6⟩:=St.row_push (ty:=49) Tryz.underlying49 Zei rfl (by decide) (by decide) (mk:=Mk.vals) (fun _=>rfl) h5.drop ⟨id2,s,n,true⟩ (fun u hu=>Zb6 [⟨id2,s,n,true⟩] u (by simpa using hu)) hzl #[int i64 id2,.string s,int i64 n,.bool true] rfl;obtain ⟨z2,hz2⟩:∃ x,z++[⟨id2,s,n,true⟩]=x:=⟨_,rfl⟩;rw [hz2] at hr6 h6;have HZ2:=Zh (HFT.o.trans hz2);have HR6:=Zh hr6;have H6:=Zh h6;clear h5 h6 hr6 hz2;go_wp2_with (at_builtin;refine Zax _ rfl (.tmp 35) (.tmp 37) 49 49 rfl _ _ rfl rfl _ _ HR6.o ?_);go_roundw;case rel=>exact ⟨i+1,z2,B6,d6,by go_num,by omega,rfl,HZ2.o.symm,H6.o⟩
     case measure=>simp [intOf]<;>omega
   ·rw [Za hid] at hft;have d1:(id2==id)=false:=by simpa using hid
    have HFT:=Zh hft;clear hft;go_upto_region 9 with fail;have h5:=HST.o;generalize (World.alloc _ _:World)=w5 at h5 |-;clear y0 y1 y2 y3 lt0 HST z0 z1 z2 z3 lt5;obtain ⟨y0,y1,y2,y3⟩:=ZX h5;obtain ⟨B6,d6,w6,hr6,h6⟩:=St.row_push (ty:=49) Tryz.underlying49 Zei rfl (by decide) (by decide) (mk:=Mk.vals) (fun _=>rfl) h5.drop ⟨id2,s,n,b⟩ (fun u hu=>Zb6 [⟨id2,s,n,b⟩] u (by simpa using hu)) hzl #[int i64 id2,.string s,int i64 n,.bool b] rfl;obtain ⟨z2,hz2⟩:∃ x,z++[⟨id2,s,n,b⟩]=x:=⟨_,rfl⟩;rw [hz2] at hr6 h6;have HZ2:=Zh (HFT.o.trans hz2);have HR6:=Zh hr6;have H6:=Zh h6;clear h5 h6 hr6 hz2;go_wp2_with (at_builtin;refine Zax _ rfl (.tmp 35) (.tmp 37) 49 49 rfl _ _ rfl rfl _ _ HR6.o ?_);go_roundw;case rel=>exact ⟨i+1,z2,B6,d6,by go_num,by omega,rfl,HZ2.o.symm,H6.o⟩
    case measure=>simp [intOf]<;>omega
  ·obtain rfl:i=ms.length:=by omega
   have d0:decide (((ms.length:Nat):Int)<(ms.length:Int))=false:=by rw [Zk];omega
   rw [Zbk] at hz;have HZ:=Zh hz;clear hz;go_wp2;go_ret;rw [<-HZ.o];exact ⟨B,d,rfl,((hst.pull 1 _ rfl).drop.pull 1 _ rfl).drop⟩
end
section
variable {W w : World} {I : Hp} {l : List HP} {p q : Nat} {S : Str}
theorem Zjt (h:Hd) {m:Nat} (hs:St W I w (Zd p S::imgHP q p h::l)) (hk:Keeps S (m+2*(ZaQ S ⟨4,0⟩).length)) (h17:h.marks.length<=1000) (ht:(tidyS S 0 h.ids).1=0) (hb:(Zr (tidyS S 0 h.ids).2).1=0) (hk2:Keeps (tidyS S 0 h.ids).2 m) :
  Calls Tryz.prog 73 #[pointer (some ⟨q,0,none⟩)] w fun e w'=>∃ I',I.sub I'∧e=.returned (int i64 0)∧St W I' w' (Zd p (Zr (tidyS S 0 h.ids).2).2::imgHP q p h::l):=by
 obtain ⟨v0,hv0,h1⟩:=(hs.pull 1 _ rfl).img_open;obtain ⟨z0,z1,z2,z3,z4,z5,z6,z7,z8,z9⟩:=Zz h1;have HID:=Zh (Zp4 h v0 w.drew (ZbW h1.drew hv0) h17);obtain ⟨S1,hS1⟩:∃ x,(tidyS S 0 h.ids).2=x:=⟨_,rfl⟩;obtain ⟨ms,hms⟩:∃ x,h.ids=x:=⟨_,rfl⟩;have TD:=Zh (fun (w:World) (I':Hp) (l':List HP) (mv:Value) (hst:St W I' w (Zd p S::l')) (hv:IntsI I' mv ms)=>Zo4 0 mv ms hst hk hv);rw [hS1] at hb hk2 |-;rw [hms] at HID hS1 ht;have hT:tidyS S 0 ms=(0,S1):=Prod.ext ht hS1;rw [hT] at TD;have BR:=Zh (fun (w:World) (I':Hp) (l':List HP) (hst:St W I' w (Zd p S1::l'))=>ZdN hst hk2);rw [hb] at BR;have HH:=Zh (hs.drew);have lt0:q<w.heap.size:=h1.lt;obtain ⟨A,c,rfl,_⟩:=hv0.cap;clear hs h1 hk hk2 hb ht hS1 hv0 hT;obtain ⟨sz,⟨o,u,cn⟩,nx,sq,mks⟩:=h;simp only [Hd.cells] at *;go_enter Tryz.func73,Tryz.ntmps73;go_upto_region 1 with fail;refine Z3 (fun w'=>w'.cell? ⟨q,0,none⟩=some (pointer (some ⟨p,0,none⟩))∧w'.cell? ⟨q,1,none⟩=some (int i64 0)∧w'.cell? ⟨q,2,none⟩=some (int i64 sz)∧w'.cell? ⟨q,3,none⟩=some (int i64 o)∧w'.cell? ⟨q,4,none⟩=some (int i64 u)∧w'.cell? ⟨q,5,none⟩=some (int i64 cn)∧w'.cell? ⟨q,6,none⟩=some (int i64 nx)∧w'.cell? ⟨q,7,none⟩=some (int i64 sq)∧w'.cell? ⟨q,8,none⟩=some (slice A mks.length c)) [0,1,2,3,4,5,6,7,8,9,10,11] [12] [13,14] (by kernel_rfl) (by kernel_rfl) (by (exact ⟨z0,z1,z2,z3,z4,z5,z6,z7,z8⟩)) ?_;simp only [pickL,Zg,Zi];repeat (refine Zs _ (Or.inl ⟨by rfl,by (intro w hSw;(try dsimp only at hSw);go_simp;try with_reducible rfl)⟩) ?_;(try go_frame))
 refine ZC ?_;unfold Zp;go_wp2_with fail;refine HID.o.mono ?_;rintro e w2 ⟨A2,c2,rfl,h2⟩;obtain ⟨I3,hs3,hr3,h3⟩:=(HH.o.row_fresh h2.below h2.row_new).freeze_row;have hint:IntsI I3 (slice A2 ms.length c2) ms:=by
  unfold IntsI;have e:(ms.flatMap fun n=>[intV n])=ms.map intV:=by rw [<-List.flatMap_singleton' (l:=ms.map intV),List.flatMap_map]
  rw [<-e];exact hr3
 have hcells:=fun (i:Nat) (x:Value) (hx:w.cell? ⟨q,i,none⟩=some x) (hlt:q<w.heap.size)=>(h2.below.cell (p:=⟨q,i,none⟩) hlt).trans hx;have y0:=hcells 0 _ z0 lt0;have y1:=hcells 1 _ z1 lt0;have y2:=hcells 2 _ z2 lt0;have y3:=hcells 3 _ z3 lt0;have y4:=hcells 4 _ z4 lt0;have y5:=hcells 5 _ z5 lt0;have y6:=hcells 6 _ z6 lt0;have y7:=hcells 7 _ z7 lt0;have y8:=hcells 8 _ z8 lt0;have HTD:=Zh (TD.o w2 I3 _ (slice A2 ms.length c2) h3 hint);have HS3:=Zh hs3;clear h2 h3 hr3 hint hs3 hcells z0 z1 z2 z3 z4 z5 z6 z7 z8 z9 lt0;go_wp2;refine Zt ⟨y0,y1,y2,y3,y4,y5,y6,y7,y8⟩ ?_;unfold Zp;go_wp2_with fail;refine HTD.o.mono ?_;rintro e w3 ⟨I4,hs4,rfl,h4⟩;have HBR:=Zh (BR.o w3 I4 _ h4);obtain ⟨v4,_,h4i⟩:=(h4.pull 1 _ rfl).img_open;have x0:=(Zz h4i).c0;have HS4:=Zh (HS3.o.trans hs4);clear h4 h4i hs4 y0 y1 y2 y3 y4 y5 y6 y7 y8;go_wp2;refine Zu ?_;go_wp2_with fail;refine HBR.o.mono ?_;rintro e w5 ⟨I5,hs5,rfl,h5⟩;have H5:=Zh h5;have HS5:=Zh (HS4.o.trans hs5);clear h5 hs5;go_wp2_with fail;refine (ZeQ q 0 (by decide) _).mono ?_;rintro e w6 ⟨rfl,rfl⟩;go_wp2;go_ret;exact ⟨I5,HS5.o,rfl,H5.o⟩
end
inductive Tp where
 | leaf:Tp
 | one:Nat->Tp->Tp
 | two:Nat->Tp->Nat->Tp->Tp
 | pull:List Nat->Tp->Tp
def Tp.size:Tp->Nat
 | .leaf=>0
 | .one _ t=>t.size+1
 | .two _ t _ _=>t.size+1
 | .pull ks t=>ks.length+t.size
section
variable {P : Program} {md : Region.Mode} {w : World}
variable {Q : Exit -> Act -> World -> Prop} {S : World -> Prop} {N : Nat -> Bool}
def wpTp (P:Program) (l:List Oper) (S:World->Prop) (Q:Exit->Act->World->Prop) (T:Act->World->Prop):Tp->Act->World->Prop
 | .leaf,a,w=>T a w
 | .one i t,a,w=>wpList P l.toArray (Zcg S Q (wpTp P l S Q T t)) (pickL l [i]) a w
 | .two i t j u,a,w=>wpList P l.toArray (Zcg S Q (wpTp P l S Q T t)) (pickL l [i]) a w∧wpList P l.toArray (Zcg S Q (wpTp P l S Q T u)) (pickL l [j]) a w
 | .pull ks t,a,w=>Zdw P l.toArray S (fun a1=>wpTp P l S Q T t a1 w) (pickL l ks) a
def Zlo (md:Region.Mode) (l:List Oper) (k t:Nat):Bool:=match l[t]? with
 | some o=>o.after.any fun e=>Region.binds md e&&e.on==k
 | none=>false
def pullB (md:Region.Mode) (l:List Oper) (N:Nat->Bool) (ks:List Nat):Bool:=(List.range l.length).all fun t=>N t||ks.all fun k=>Zlo md l k t||reaches md l.toArray k l.length t
def tpB (md:Region.Mode) (l:List Oper) (N:Nat->Bool) (tail:List Nat):Tp->Array Bool->Bool
 | .leaf,listed=>tailB md l.toArray tail listed
 | .one i t,listed=>decide (Region.ready md l.toArray listed=[i])&&tpB md l N tail t (listed.setIfInBounds i true)
 | .two i t j u,listed=>(decide (Region.ready md l.toArray listed=[i,j])&&decide (t.size=u.size))&&(tpB md l N tail t (listed.setIfInBounds i true)&&tpB md l N tail u (listed.setIfInBounds j true))
 | .pull ks t,listed=>(Zbd md l.toArray ks listed&&pullB md l N ks)&&tpB md l N tail t (Zal ks listed)
theorem Zo5 {l:List Oper} {ks:List Nat} (h:pullB md l N ks=true):∀ k ∈ ks,∀ listed,ShutDown md l.toArray listed->listed.getD k true=false->∀ j ∈ Region.ready md l.toArray listed,N j=true:=by
 intro k hk listed hsd hun j hj;simp only [pullB,Zcw,Za8] at h;obtain ⟨_,o,ho,hall⟩:=mem_ready.1 hj;have h2:=h j (by simpa using (Zby.1 ho).1);rw [Zfg] at h2;rcases h2 with h2|h2
 ·exact h2
 ·have h3:=Zcw.1 h2 k hk;rw [Zfg] at h3;have h4:listed.getD k false=true:=by
   rcases h3 with h3|h3
   ·unfold Zlo at h3;rw [show l[j]?=some o by simpa using ho] at h3;obtain ⟨e,he,hb⟩:=Array.any_eq_true'.1 h3;rw [Zak,beq_iff_eq] at hb;rw [<-hb.2];exact hall e he hb.1
   ·exact ZeH hsd _ j (fun o' ho' e he' hb=>by rw [ho] at ho';cases ho';exact hall e he' hb) h3
  rw [Zdg hun] at h4;cases h4
theorem Ze5 {l:List Oper} {tail:List Nat} (hsel:Region.noSelect l.toArray=true) (hQ:∀ c (a:Act) d v w,Q (.panic c) (a.put d v) w->Q (.panic c) a w):∀ (t:Tp) (listed:Array Bool) (a:Act) (w:World),(∀ k ∈ tail,N k=false)->ShutDown md l.toArray listed->S w->tpB md l N tail t listed=true ->
  wpTp P l S Q (wpList P l.toArray Q (pickL l tail)) t a w->ZbN P md l.toArray Q S N (t.size+tail.length) listed a w
 | .leaf,listed,a,w,hN,_,_,hB,h=>by
  rw [Tp.size,Zar];exact ZgM tail listed a w hN hB h
 | .one k t,listed,a,w,hN,hs,_,hB,h=>by
  simp only [tpB,Zak,Ze] at hB;rw [Tp.size,show t.size+1+tail.length=(t.size+tail.length)+1 by omega];refine ⟨fun h1=>(by rw [hB.1] at h1;cases h1),fun i hi=>?_⟩;have hi':=hi;rw [hB.1] at hi';obtain rfl:i=k:=by simpa using hi'
  obtain ⟨o,ho⟩:=ZcF hi;have ho':l[i]?=some o:=by simpa using ho
  have e:pickL l [i]=[o]:=by simp [pickL,ho']
  unfold wpTp at h;rw [e] at h;exact Zcx (fun a' w' h'=>⟨fun _=>h'.1,Ze5 hsel hQ t _ a' w' hN (hs.next hi) h'.1 hB.2 h'.2⟩) (ZdL ho h)
 | .two k t k2 u,listed,a,w,hN,hs,_,hB,h=>by
  simp only [tpB,Zak,Ze] at hB;obtain ⟨⟨hr,hsz⟩,hB1,hB2⟩:=hB;rw [Tp.size,show t.size+1+tail.length=(t.size+tail.length)+1 by omega];refine ⟨fun h1=>(by rw [hr] at h1;cases h1),fun i hi=>?_⟩;have hi':=hi;rw [hr] at hi';obtain ⟨o,ho⟩:=ZcF hi;have ho':l[i]?=some o:=by simpa using ho
  have e:pickL l [i]=[o]:=by simp [pickL,ho']
  unfold wpTp at h;rcases (by simpa using hi':i=k∨i=k2) with rfl|rfl
  ·have h1:=h.1;rw [e] at h1;exact Zcx (fun a' w' h'=>⟨fun _=>h'.1,Ze5 hsel hQ t _ a' w' hN (hs.next hi) h'.1 hB1 h'.2⟩) (ZdL ho h1)
  ·have h1:=h.2;rw [e] at h1;rw [hsz];exact Zcx (fun a' w' h'=>⟨fun _=>h'.1,Ze5 hsel hQ u _ a' w' hN (hs.next hi) h'.1 hB2 h'.2⟩) (ZdL ho h1)
 | .pull ks t,listed,a,w,hN,hs,hS,hB,h=>by
  simp only [tpB,Zak] at hB;obtain ⟨⟨he,hp⟩,hB⟩:=hB;rw [Tp.size,Zb3];exact Zfs hsel hQ hS ks listed a (Zo5 hp) hs he (fun a1 h1=>Ze5 hsel hQ t _ a1 w hN (ZgE ks _ he hs) hS hB h1) h
def Zlz (md:Region.Mode) (l:List Oper) (hold:List Nat) (t:Tp) (tail:List Nat):Bool :=
 Region.noSelect l.toArray&&tpB md l (fun t=>hold.contains t) tail t (Array.replicate l.length false)&&decide (t.size+tail.length=l.length)&&tail.all (fun t=>!hold.contains t)
theorem ZcY {id:Nat} {Q:Exit->Act->World->Prop} {a:Act} {l:List Oper} (S:World->Prop) (hold:List Nat) (t:Tp) (tail:List Nat) (hm:P.follows .mixedOrders=true) (hB:Zlz .any l hold t tail=true) (hS:S w.drew)
  (h:wpTp P l S (NoPanic Q) (wpList P l.toArray (NoPanic Q) (pickL l tail)) t a w.drew):(Code.region id l.toArray true).wp P Q a w:=by
 refine wp_region_noPanic ?_;simp only [Zlz,Zak,Ze] at hB;obtain ⟨⟨⟨hsel,ht⟩,hn⟩,htl⟩:=hB;refine wp_region_any hm (ZfA (S:=S) (N:=fun t=>hold.contains t) _ _ _ _ ?_);change ZbN P .any l.toArray _ _ _ l.toArray.size _ a w.drew;have hsz:l.toArray.size=t.size+tail.length:=by rw [hn];simp
 have hrep:Array.replicate l.toArray.size false=Array.replicate l.length false:=by simp
 rw [hrep,hsz]
 exact Ze5 hsel (fun _ _ _ _ _ h=>h) t _ a _ (fun k hk=>by
  have:=Zcw.1 htl k hk
  simpa using this) (ShutDown.start _) hS ht h
end
end Go.Proofs.YtcbdghojlbpomaaGreat
