import Derived.Test.YtcbdghojlbpomaaGreatIF14
import Derived.Test.YtcbdghojlbpomaaGreatIF07
set_option linter.all false
set_option maxRecDepth 4000
set_option maxHeartbeats 8000000
open Go.RowKit
open Go.IntKind (i64 u64)
open Go.Value (int pointer slice)
open Go.Obj (cells)
namespace Go.Proofs.YtcbdghojlbpomaaGreat
open Tryz
open HP (pt mapOf)
variable {W w w':World} {I:Hp} {l:List HP}
section
variable {p : Nat} {S : Str}
theorem Zdp (b:Bool) (h:St W I w (Zd p S::l)):Calls prog 166 #[pointer (some ⟨p,0,none⟩),.bool b] w fun e w'=>e=.returned (int i64 (cmayS S b))∧w=w':=by
 have hon:=Zgf h;have HON:=Zh hon;unfold cmayS;clear h hon;cases ho:S.on with
 | false =>
  rw [ho] at HON;go_enter func166,ntmps166;go_wp2_with fail;refine HON.o.mono ?_;rintro e w2 ⟨rfl,rfl⟩;go_wp2;go_ret;exact ⟨rfl,rfl⟩
 | true =>
  rw [ho] at HON;cases b with
  | false =>
   go_enter func166,ntmps166;go_wp2_with fail;refine HON.o.mono ?_;rintro e w2 ⟨rfl,rfl⟩;go_wp2;go_ret;exact ⟨rfl,rfl⟩
  | true =>
   go_enter func166,ntmps166;go_wp2_with fail;refine HON.o.mono ?_;rintro e w2 ⟨rfl,rfl⟩;go_wp2;go_ret;exact ⟨rfl,rfl⟩
theorem ZaE (img num:Int) (w:World):Calls prog 167 #[int i64 img,int i64 num] w fun e w'=>e=.returned (.bool (objB img num))∧w=w':=by
 have he:objB img num=(((decide (0<=img)&&decide (img<=255))&&decide (0<=num))&&decide (num<=512)):=by
  unfold objB;rw [Zai];simp only [Ze,Zak,and_assoc]
 have HE:=Zh he;clear he;cases h0:decide (0<=img) with
 | false =>
  go_enter func167,ntmps167;go_wp2;go_ret;exact ⟨by rw [HE.o,h0];rfl,rfl⟩
 | true =>
  cases h1:decide (img<=255) with
  | false =>
   go_enter func167,ntmps167;go_wp2;go_ret;exact ⟨by rw [HE.o,h0,h1];rfl,rfl⟩
  | true =>
   cases h2:decide (0<=num) with
   | false =>
    go_enter func167,ntmps167;go_wp2;go_ret;exact ⟨by rw [HE.o,h0,h1,h2];rfl,rfl⟩
   | true =>
    go_enter func167,ntmps167;go_wp2;go_ret;exact ⟨by rw [HE.o,h0,h1,h2];rfl,rfl⟩
theorem Za5 (n:Int) (w:World):Calls prog 168 #[int i64 n] w fun e w'=>e=.returned (.bool (snapB n))∧w=w':=by
 have he:snapB n=(decide (0<=n)&&decide (n<=1073741824)):=by
  unfold snapB;rw [Zai];simp only [Ze,Zak,and_assoc]
 have HE:=Zh he;clear he;cases h0:decide (0<=n) with
 | false =>
  go_enter func168,ntmps168;go_wp2;go_ret;exact ⟨by rw [HE.o,h0];rfl,rfl⟩
 | true =>
  go_enter func168,ntmps168;go_wp2;go_ret;exact ⟨by rw [HE.o,h0];rfl,rfl⟩
theorem Zdi (off n:Int) (w:World):Calls prog 170 #[int i64 off,int i64 n] w fun e w'=>e=.returned (.bool (ZG off n))∧w=w':=by
 have he:ZG off n=(((decide (0<=off)&&decide (off<=64))&&decide (0<=n))&&decide (n<=64 - off)):=by
  unfold ZG;rw [Zai];simp only [Ze,Zak,and_assoc]
 have HE:=Zh he;clear he;cases h0:decide (0<=off) with
 | false =>
  go_enter func170,ntmps170;go_wp2;go_ret;exact ⟨by rw [HE.o,h0];rfl,rfl⟩
 | true =>
  cases h1:decide (off<=64) with
  | false =>
   go_enter func170,ntmps170;go_wp2;go_ret;exact ⟨by rw [HE.o,h0,h1];rfl,rfl⟩
  | true =>
   cases h2:decide (0<=n) with
   | false =>
    go_enter func170,ntmps170;go_wp2;go_ret;exact ⟨by rw [HE.o,h0,h1,h2];rfl,rfl⟩
   | true =>
    have hw:IntKind.i64.wrap (64 - off)=64 - off:=by
     rw [Ze] at h0 h1;rw [Z2];omega
    go_enter func170,ntmps170;go_wp2;go_ret;exact ⟨by rw [HE.o,h0,h1,h2];rfl,rfl⟩
theorem Zb5 (img num snap:Int) (w:World):Calls prog 176 #[int i64 img,int i64 num,int i64 snap] w fun e w'=>e=.returned (.agg #[int i64 4,int i64 img,int i64 num,int i64 snap])∧Below w.heap.size w w':=by
 go_enter func176,ntmps176;go_wp2;refine ZaK (v:=.agg #[int i64 4,int i64 img,int i64 num,int i64 snap]) (by simp [results,results176,go_sem]) rfl ?_;exact ⟨rfl,(ZR _ _).alloc (Z9 _) _⟩
theorem Zma {S:Str} {num:Int} {ks:List K4} {j:Nat} {k:K4} (hk:ks[j]?=some k):ZaP S num (ks.take (j+1))=ZaP S num (ks.take j)++(if copyB S num k then [k.snap] else []):=by
 rw [List.take_add_one,hk];unfold ZaP;rw [Zca,Z4];simp only [Option.toList_some,ZaM,List.filter_nil];split <;> simp
theorem ZmJ (S:Str) (num:Int) (ks:List K4) (j:Nat):(ZaP S num (ks.take j)).length<=ks.length:=by
 unfold ZaP;rw [ZE];refine ZQ (Zbi _ _) ?_;rw [ZN];omega
theorem ZiW (img num:Int) {m:Nat} (h:St W I w (Zd p S::l)) (hk:Inv S m) :
  Calls prog 214 #[pointer (some ⟨p,0,none⟩),int i64 img,int i64 num] w fun e w'=>∃ v I',I.sub I'∧e=.returned v∧IntsI I' v (ZcK S img num)∧St W I' w' (Zd p S::l):=by
 have hkl:(ZaQ S ⟨4,img⟩).length<=100000:=by
  have:=hk.many ⟨4,img⟩;unfold ZaQ;split
  ·omega
  ·simp
 have hks:=ZhP 4 img h (by have:=hk.many ⟨4,img⟩;omega);have HKS:=Zh hks;have H:=Zh h;have HK:=Zh hk;obtain ⟨ks,hks2⟩:∃ ks,ZaQ S ⟨4,img⟩=ks:=⟨_,rfl⟩;have HC:=Zh (show ZcK S img num=ZaP S num ks by rw [<-hks2];rfl);rw [hks2] at HKS hkl;clear hks h hk hks2;go_enter func214,ntmps214;go_wp2_with fail;refine HKS.o.mono ?_;rintro e w2 ⟨v2,rfl,hb2,ho2⟩;obtain ⟨I2,hs2,hr2,h2⟩:=(H.o.row_fresh hb2 ho2).freeze_row;obtain ⟨Ak,ck,rfl⟩:=ZD ho2;have hkn:(ks.length:Int)<=9223372036854775807:=by omega
 have H2:=Zh h2;have HR2:=Zh hr2;have HS2:=Zh hs2;clear h2 hr2 hs2 hb2 ho2 HKS H;go_wp2_with fail
 go_loopw [7,16] (fun a7 a16 wr=>∃ (j:Nat) (A:Option Addr) (c:Nat),a16=int i64 j∧a7=slice A (ZaP S num (ks.take j)).length c∧j<=ks.length ∧
  St W I2 wr (HP.row 3 1 (slice A (ZaP S num (ks.take j)).length c) (ZaP S num (ks.take j)).length ((ZaP S num (ks.take j)).map intV)::Zd p S::l)) (fun _ a16 _=>ks.length - (intOf a16).toNat)
 case atStart=>exact ⟨0,none,0,rfl,rfl,ZaY _,H2.o.row_nil 3 1⟩
 case round =>
  obtain ⟨j,A,c,rfl,rfl,hj,hst⟩:=hrel;by_cases hlt:j<ks.length
  ·obtain ⟨k,hkj⟩:∃ k,ks[j]?=some k:=⟨_,ZL hlt⟩;obtain ⟨b,off,e1,hc⟩:=ZbJ (mk:=K4.vals) (i:=j) HR2.o (Hp.sub.refl _) hst (fun _=>rfl) hkj;simp only [ZF,Zae] at e1;subst e1;have htk:=Zma (S:=S) (num:=num) hkj;have hln:=ZmJ S num ks j;obtain ⟨k0,k1,k2,k3⟩:=k;have y0:=hc 0 (by omega);have y1:=hc 1 (by omega);have y2:=hc 2 (by omega);have y3:=hc 3 (by omega);simp only [K4.vals,Zi,Zg,Zbg] at y0 y1 y2 y3;have h3:=hst.alloc (cells #[int i64 k0,int i64 k1,int i64 k2,int i64 k3] 150);have ltp:=(hst.pull 1 _ rfl).store_lt;have HTK:=Zh htk;have H3:=Zh h3;have HST:=Zh hst;clear htk hc h3 hkj;by_cases hn:k2=num
   ·subst hn;have d1:(k2 != k2)=false:=by simp
    by_cases h0:k3=0
    ·subst h0;have htk2:ZaP S k2 (ks.take (j+1))=ZaP S k2 (ks.take j):=by
      rw [HTK.o];have:copyB S k2 ⟨k0,k1,k2,0⟩=false:=by simp [copyB]
      rw [this];simp
     have HT2:=Zh htk2;clear htk2 hst;go_wp2;go_roundw;case rel=>exact ⟨j+1,A,c,by go_num,by rw [HT2.o],by omega,by rw [HT2.o];exact H3.o.drop⟩
     case measure=>simp [intOf]<;>omega
    ·have d2:(k3==0)=false:=by simpa using h0
     have hat:=ZeW ⟨k0,k1,k2,k3⟩ nmW (H3.o.pull 2 _ rfl) HK.o;simp only [K4.val] at hat;have HAT:=Zh hat;clear hat hst;go_wp2_with fail;refine HAT.o.mono ?_;rintro e w5 ⟨hb5,v5,rfl,ho5⟩;have h5:=H3.o.keep hb5;obtain ⟨A5,c5,rfl⟩:=ZD ho5;have z3:=Zc h5.heap 3;simp at z3;have lt5:=h5.lt;by_cases he:(attrS S ⟨k0,k1,k2,k3⟩ nmW).2=0
     ·have htk2:ZaP S k2 (ks.take (j+1))=ZaP S k2 (ks.take j)++[k3]:=by
       rw [HTK.o];have:copyB S k2 ⟨k0,k1,k2,k3⟩=true:=by simp [copyB,h0,he]
       rw [this];simp
      have d3:((attrS S ⟨k0,k1,k2,k3⟩ nmW).2==0)=true:=by simpa using he
      have h6:=(h5.drop).keep (ZM w5 (cells #[int i64 k3] 3));obtain ⟨v7,w7,hr7,h7⟩:=St.ints_append 75 h6 (Zqu w5 k3) (by omega);obtain ⟨A7,c7,rfl⟩:=ZD h7.row_owns;have e4:(ZaP S k2 (ks.take j)).length+1=(ZaP S k2 (ks.take (j+1))).length:=by rw [htk2];simp
      have e5:(ZaP S k2 (ks.take j)).map intV++[int i64 k3]=(ZaP S k2 (ks.take (j+1))).map intV:=by rw [htk2,Z4];rfl
      rw [e5,e4] at h7;rw [e4] at hr7;have HR7:=Zh hr7;have H7:=Zh h7;clear htk2 h5 h6 h7 hr7 e4 e5 he;go_wp2_with (at_builtin;refine Zax _ rfl (.tmp 37) (.tmp 40) 75 75 rfl _ _ rfl rfl _ _ HR7.o ?_);go_roundw;case rel=>exact ⟨j+1,A7,c7,by go_num,rfl,by omega,H7.o⟩
      case measure=>simp [intOf]<;>omega
     ·have htk2:ZaP S k2 (ks.take (j+1))=ZaP S k2 (ks.take j):=by
       rw [HTK.o];have:copyB S k2 ⟨k0,k1,k2,k3⟩=false:=by simp [copyB,he]
       rw [this];simp
      have d3:((attrS S ⟨k0,k1,k2,k3⟩ nmW).2==0)=false:=by simpa using he
      have HT2:=Zh htk2;have H5:=Zh h5;clear htk2 h5 he;go_wp2;go_roundw;case rel=>exact ⟨j+1,A,c,by go_num,by rw [HT2.o],by omega,by rw [HT2.o];exact H5.o.drop⟩
      case measure=>simp [intOf]<;>omega
   ·have d1:(k2 != num)=true:=by simpa using hn
    have htk2:ZaP S num (ks.take (j+1))=ZaP S num (ks.take j):=by
     rw [HTK.o];have:copyB S num ⟨k0,k1,k2,k3⟩=false:=by simp [copyB,hn]
     rw [this];simp
    have HT2:=Zh htk2;clear htk2 hst;go_wp2;go_roundw;case rel=>exact ⟨j+1,A,c,by go_num,by rw [HT2.o],by omega,by rw [HT2.o];exact H3.o.drop⟩
    case measure=>simp [intOf]<;>omega
  ·obtain rfl:j=ks.length:=by omega
   obtain ⟨I3,hs3,hr3,h3⟩:=hst.freeze_row;have hr3:IntsI I3 (slice A (ZaP S num (ks.take ks.length)).length c) (ZaP S num ks):=by
    rw [Zbk] at hr3 |-;exact hr3
   have H3:=Zh h3;have HS3:=Zh (HS2.o.trans hs3);have HR3:=Zh hr3;clear hst h3 hs3 hr3;go_wp2;go_ret;rw [HC.o];exact ⟨_,I3,HS3.o,rfl,HR3.o,H3.o⟩
theorem ZhK (k:K4) {m:Nat} (h:St W I w (Zd p S::l)) (hk:Inv S m) :
  Calls prog 171 #[pointer (some ⟨p,0,none⟩),k.val] w fun e w'=>Below w.heap.size w w'∧∃ v,e=.returned v∧w'.ownsRow w.heap.size 5 1 v (allS S k).length ((allS S k).map byteV):=by
 obtain ⟨k0,k1,k2,k3⟩:=k;have h1:=h.alloc (cells #[int i64 k0,int i64 k1,int i64 k2,int i64 k3] 150);have hb1:=(ZR w.heap.size w).alloc (Z9 _) (cells #[int i64 k0,int i64 k1,int i64 k2,int i64 k3] 150);have hsz:=ZbV ⟨k0,k1,k2,k3⟩ (h1.pull 1 _ rfl);have hle:w.heap.size<=(w.alloc (cells #[int i64 k0,int i64 k1,int i64 k2,int i64 k3] 150)).heap.size:=by simp
 simp only [K4.val] at hsz |-;have HSZ:=Zh hsz;have H1:=Zh h1;have HB1:=Zh hb1;have HLE:=Zh hle;have HK:=Zh hk;clear h h1 hsz hb1 hle hk;go_enter func171,ntmps171;go_wp2_with fail;refine HSZ.o.mono ?_;rintro e w2 ⟨hb2,rfl⟩;have h2:=H1.o.keep hb2;have x0:=Zc h2.heap 0;have x1:=Zc h2.heap 1;have x2:=Zc h2.heap 2;have x3:=Zc h2.heap 3;simp at x0 x1 x2 x3;have hrd:=Zor ⟨k0,k1,k2,k3⟩ 0 (lenAt S ⟨k0,k1,k2,k3⟩) (h2.pull 1 _ rfl) HK.o;simp only [K4.val] at hrd;have HRD:=Zh hrd;have HB2:=Zh (HB1.o.trans (hb2.mono HLE.o));have HL2:=Zh (ZQ HLE.o hb2.size);clear hrd h2 hb2;go_wp2_with fail;refine HRD.o.mono ?_;rintro e w3 ⟨hb3,v3,rfl,ho3⟩;obtain ⟨A3,c3,rfl⟩:=ZD ho3;have HO:=Zh (Zft ho3 HL2.o);have HB3:=Zh (HB2.o.trans (hb3.mono HL2.o));clear ho3 hb3 x0 x1 x2 x3;go_wp2;go_ret;exact ⟨HB3.o,_,rfl,HO.o⟩
theorem Zlh {a b:Code} {Q:Exit->Act->World->Prop} {K:Act->World->Prop} (hK:∀ x y,b.wp prog Q x y->K x y) (hC:(f169).body.bind (fromR 10)=some (.seq a b)) {x3 x4 x5 x6 x7 x9 x10 x11 x12 x13 x14 x15 x16 x17 x18 x19 x20 x21 x22 x23 x24 x25 x26 x27 x28 x29 x30 x31 x32 x33 x34 x35 x36 x37 x38 x39 x40 x41 x42 x43 x44 x45 x46 x47 x48 x49 x50 x51 x52 x53 x54 x55 x56 x57 x58 x59 x60 x61 x62 x63 x64:Value} (img num:Int) {g:Nat} {c0 c1 c2 c3:Value}
  (h:St W I w (pt g (cells #[c0,c1,c2,c3] 150)::Zd p S::l))
  (hQ:∀ (y0 y1 y2 y3 y4 y5 y6 y7 y10 y11 y12 y13 y14 y15 y16 y17 y18 y19 y20 y21 y22 y23 y24 y25 y26 y27 y28 y29 y30 y31 y32 y33 y34 y35 y36 y37 y38 y39 y40 y41 y42 y43 y44 y45 y46 y47 y48 y49 y50 y51 y52 y53 y54 y55 y56 y57 y58 y59 y60 y61 y62 y63 y64:Value) (w':World),St W I w' (pt g (cells #[int i64 4,int i64 img,int i64 num,int i64 0] 150)::Zd p S::l)->Q .ret ⟨#[y0,y1,y2,y3,y4,y5,y6,y7,pointer (some ⟨g,0,none⟩),.bool (decide (whyS S (dK img num 0)=0)),y10,y11,y12,y13,y14,y15,y16,y17,y18,y19,y20,y21,y22,y23,y24,y25,y26,y27,y28,y29,y30,y31,y32,y33,y34,y35,y36,y37,y38,y39,y40,y41,y42,y43,y44,y45,y46,y47,y48,y49,y50,y51,y52,y53,y54,y55,y56,y57,y58,y59,y60,y61,y62,y63,y64],[]⟩ w') :
  a.wp prog (Exit.then K Q) ⟨#[pointer (some ⟨p,0,none⟩),int i64 img,int i64 num,x3,x4,x5,x6,x7,pointer (some ⟨g,0,none⟩),x9,x10,x11,x12,x13,x14,x15,x16,x17,x18,x19,x20,x21,x22,x23,x24,x25,x26,x27,x28,x29,x30,x31,x32,x33,x34,x35,x36,x37,x38,x39,x40,x41,x42,x43,x44,x45,x46,x47,x48,x49,x50,x51,x52,x53,x54,x55,x56,x57,x58,x59,x60,x61,x62,x63,x64],[]⟩ w:=by
 injection hC with hC;injection hC with hC1 hC2;subst hC1 hC2;have HQ:=Zh hQ;have H:=Zh h;clear hQ h;go_wp2_with fail;refine (Zb5 img num 0 w).mono ?_;rintro e w2 ⟨rfl,hb2⟩;have h2:=(H.o.keep hb2).alloc (cells #[int i64 4,int i64 img,int i64 num,int i64 0] 150);have hsz:=ZbV ⟨4,img,num,0⟩ (h2.pull 2 _ rfl);simp only [K4.val] at hsz;have HSZ:=Zh hsz;have H2:=Zh h2;clear hsz h2 hb2 H;go_wp2_with fail;refine HSZ.o.mono ?_;rintro e w3 ⟨hb3,rfl⟩;have h3:=H2.o.keep hb3;have x0:=Zc h3.heap 0;have x1:=Zc h3.heap 1;have x2:=Zc h3.heap 2;have x3:=Zc h3.heap 3;simp at x0 x1 x2 x3;have hg:=(h3.pull 1 _ rfl).heap;have z0:=Zc hg 0;have z1:=Zc hg 1;have z2:=Zc hg 2;have z3:=Zc hg 3;have f0:=frozen_of_row hg 0;have f1:=frozen_of_row hg 1;have f2:=frozen_of_row hg 2;have f3:=frozen_of_row hg 3;have ltg:=(h3.pull 1 _ rfl).lt;simp at z0 z1 z2 z3;have h4:=((((h3.drop.setCell 0 (int i64 4)).setCell 1 (int i64 img)).setCell 2 (int i64 num)).setCell 3 (int i64 0));have HX:=Zh (show decide (whyS S (dK img num 0)=0)=(whyS S ⟨4,img,num,0⟩==0) by unfold dK;rw [Zai];simp);have H4:=Zh h4;clear h3 h4 hb3 hg;go_wp2_with fail;rw [<-HX.o];exact HQ.o _ _ _ _ _ _ _ _ _ _ _ _ _ _ _ _ _ _ _ _ _ _ _ _ _ _ _ _ _ _ _ _ _ _ _ _ _ _ _ _ _ _ _ _ _ _ _ _ _ _ _ _ _ _ _ _ _ _ _ _ _ _ _ _ H4.o
theorem Zgh (img num snap:Int) {m:Nat} (h:St W I w (Zd p S::l)) (hk:Inv S m) :
  Calls prog 169 #[pointer (some ⟨p,0,none⟩),int i64 img,int i64 num,int i64 snap] w fun e w'=>∃ I',I.sub I'∧e=.returned (.tuple #[(atS S img num snap).1.val,.bool (atS S img num snap).2])∧St W I' w' (Zd p S::l):=by
 have h1:=h.alloc (cells #[int i64 0,int i64 0,int i64 0,int i64 0] 150);have hcs:=ZiW img num (h1.pull 1 _ rfl) hk;have HK:=Zh hk;have H1:=Zh h1;have HCS:=Zh hcs;obtain ⟨g,hg⟩:∃ g,w.heap.size=g:=⟨_,rfl⟩;clear h h1 hk hcs;by_cases h0:0<snap
 ·have d0:decide (0<snap)=true:=by simpa using h0
  have HA:=Zh (show atS S img num snap=match (ZcK S img num).find? (fun n=>decide (snap<=n)) with
   | some n=>(dK img num n,decide ((attrS S (dK img num n) nmW).1=[1]))
   | none=>(dK img num 0,decide (whyS S (dK img num 0)=0)) by unfold atS;rw [Zb h0];rfl)
  obtain ⟨cs,hcs2⟩:∃ cs,ZcK S img num=cs:=⟨_,rfl⟩;rw [hcs2] at HA HCS;clear hcs2 h0;go_enter func169,ntmps169;go_wp2_with fail;refine HCS.o.mono ?_;rintro e w2 ⟨v2,I2,hs2,rfl,hv2,h2⟩;have HV2:=Zh hv2;obtain ⟨A2,c2,rfl,_,hl2,hm2,_⟩:=hv2;have hcn:(cs.length:Int)<=9223372036854775807:=by unfold maxLen at hm2;omega
  have H2:=Zh (h2.pull 1 _ rfl);have HS2:=Zh hs2;clear h2 hs2 HCS H1 hl2 hm2;rw [hg] at H2;go_wp2;go_loopw [25] (fun a25 wr=>∃ (j:Nat),a25=int i64 j∧j<=cs.length∧(∀ n ∈ cs.take j,n<snap)∧wr=w2) (fun a25 _=>cs.length - (intOf a25).toNat);case atStart=>exact ⟨0,rfl,ZaY _,fun n hn=>by simp at hn,rfl⟩
  case round =>
   obtain ⟨j,rfl,hj,hall,rfl⟩:=hrel;by_cases hlt:j<cs.length
   ·obtain ⟨n,hnj⟩:∃ n,cs[j]?=some n:=⟨_,ZL hlt⟩;obtain ⟨b,off,e1,hc⟩:=Zg1 H2.o HV2.o hnj;simp only [ZF,Zae] at e1;subst e1;have HALL:=Zh hall;have HNJ:=Zh hnj;clear hall hnj;by_cases hns:n<snap
    ·have dn:decide (n<snap)=true:=by simpa using hns
     go_wp2;go_roundw;case rel =>
      refine ⟨j+1,by go_num,by omega,fun n' hn'=>?_,trivial⟩;rw [List.take_add_one,HNJ.o] at hn';rcases ZY.1 hn' with h|h
      ·exact HALL.o n' h
      ·simp at h;subst h;exact hns
     case measure=>simp [intOf]<;>omega
    ·have dn:decide (n<snap)=false:=by simpa using hns
     have hfind:cs.find? (fun n=>decide (snap<=n))=some n:=by
      obtain ⟨hlt2,he⟩:=ZS.1 HNJ.o;rw [List.find?_eq_some_iff_append];refine ⟨by simp;omega,cs.take j,cs.drop (j+1),?_,fun a ha=>?_⟩
      ·rw [<-he];simp
      ·have:=HALL.o a ha;simp;omega
     rw [hfind] at HA;have HFA:=Zh HA.o;clear hfind HA HALL HNJ;go_wp2_with fail;refine (Zb5 img num n wr).mono ?_;rintro e w3 ⟨rfl,hb3⟩;have h3:=(H2.o.keep hb3).alloc (cells #[int i64 4,int i64 img,int i64 num,int i64 n] 150);have hat:=ZeW ⟨4,img,num,n⟩ nmW (h3.pull 2 _ rfl) HK.o;simp only [K4.val] at hat;have HAT:=Zh hat;have H3:=Zh h3;clear hat h3 hb3 hc;go_wp2_with fail;refine HAT.o.mono ?_;rintro e w4 ⟨hb4,v4,rfl,ho4⟩;have h4:=((H3.o.row_fresh hb4 ho4).pull 1 _ rfl);obtain ⟨r,hr⟩:∃ r,(attrS S ⟨4,img,num,n⟩ nmW).1=r:=⟨_,rfl⟩;have hfa:=HFA.o;clear HFA;rw [show dK img num n=⟨4,img,num,n⟩ from rfl,hr] at hfa;rw [hr] at ho4 h4;have hkk:=h4.heap;have x0:=Zc hkk 0;have x1:=Zc hkk 1;have x2:=Zc hkk 2;have x3:=Zc hkk 3;have hg0:=(h4.pull 2 _ rfl).heap;have z0:=Zc hg0 0;have z1:=Zc hg0 1;have z2:=Zc hg0 2;have z3:=Zc hg0 3;have f0:=frozen_of_row hg0 0;have f1:=frozen_of_row hg0 1;have f2:=frozen_of_row hg0 2;have f3:=frozen_of_row hg0 3;have ltg:=(h4.pull 2 _ rfl).lt;have ltk:=h4.lt;simp at x0 x1 x2 x3 z0 z1 z2 z3;obtain ⟨gk,hgk⟩:=Zn w3.heap.size;rw [<-hgk] at x0 x1 x2 x3 ltk h4 |-;clear hgk hkk;by_cases h1:r.length=1
     ·obtain ⟨bb,rfl⟩:=List.length_eq_one_iff.1 h1;obtain ⟨g4,c4,rfl⟩:∃ g4 c4,v4=slice (some ⟨g4,0,none⟩) 1 c4:=by
       rcases ho4.2 with ⟨_,e⟩|⟨g4,cap,cur,e,_⟩
       ·simp at e
       ·exact ⟨g4,cap,e⟩
      have hcell:=ho4.cells (g:=g4) rfl 0 (int .u8 bb) rfl;have d1:(([bb].length:Int)==1)=true:=rfl;have hbb:decide ([bb]=[1])=(bb==1):=by rw [Zai];simp
      rw [hbb] at hfa;have HFA:=Zh hfa;clear hfa hbb h1;have H4:=Zh h4;clear h4 hb4 ho4 hg0 hr;go_wp2_with fail;refine Z3 (fun w'=>w'.cell? ⟨gk,0,none⟩=some (int i64 4)∧w'.cell? ⟨gk,1,none⟩=some (int i64 img)∧w'.cell? ⟨gk,2,none⟩=some (int i64 num)∧w'.cell? ⟨gk,3,none⟩=some (int i64 n)∧w'.cell? ⟨g4,0,none⟩=some (int .u8 bb)) [0,1,2,3,4,5,6,7,8,9] [10] [11] (by kernel_rfl) (by kernel_rfl) (by (exact ⟨x0,x1,x2,x3,hcell⟩)) ?_;simp only [pickL,Zg,Zi];repeat (first|refine Zs _ (Or.inl ⟨by rfl,by (intro w hSw;(try dsimp only at hSw);go_simp;try with_reducible rfl)⟩) ?_|refine Zs _ (Or.inr ⟨by rfl,rfl⟩) ?_|fail);(try go_frame)
      refine ZC ?_;unfold Zp;have h5:=(((((H4.o.pull 2 _ rfl).setCell 0 (int i64 4)).setCell 1 (int i64 img)).setCell 2 (int i64 num)).setCell 3 (int i64 n)).drew;have hk5:=(h5.pull 1 _ rfl).heap;have y0:=Zc hk5 0;have y1:=Zc hk5 1;have y2:=Zc hk5 2;have y3:=Zc hk5 3;simp at y0 y1 y2 y3;have hh:=h5.heap;have q0:=Zc hh 0;have q1:=Zc hh 1;have q2:=Zc hh 2;have q3:=Zc hh 3;simp at q0 q1 q2 q3;have hcell2:=(h5.pull 2 _ rfl).row_owns.cells (g:=g4) rfl 0 (int .u8 bb) rfl;have H5:=Zh h5;clear h5 hk5 hh;go_wp2;refine Zt ⟨y0,y1,y2,y3,hcell2⟩ ?_;unfold Zp;go_wp2;refine Zu ?_;go_wp2_with fail
      (try simp only [Exit.inBlock,Exit.then])
      refine ZaK (v:=.tuple #[.agg #[int i64 4,int i64 img,int i64 num,int i64 n],.bool (bb==1)]) (by simp [results,results169,go_sem,q0,q1,q2,q3]) rfl ?_;rw [HFA.o];exact ⟨I2,HS2.o,rfl,H5.o.drop.drop.drop⟩
     ·obtain ⟨A4,c4,rfl⟩:=ZD ho4;have d1:((r.length:Int)==1)=false:=by rw [Zfk];omega
      have hbb:decide (r=[1])=false:=by
       rw [Zk];intro e;rw [e] at h1;simp at h1
      rw [hbb] at hfa;have HFA:=Zh hfa;clear hfa hbb h1;have H4:=Zh h4;clear h4 hb4 ho4 hg0 hr;go_wp2_with fail;refine Z3 (fun w'=>w'.cell? ⟨gk,0,none⟩=some (int i64 4)∧w'.cell? ⟨gk,1,none⟩=some (int i64 img)∧w'.cell? ⟨gk,2,none⟩=some (int i64 num)∧w'.cell? ⟨gk,3,none⟩=some (int i64 n)) [0,1,2,3,4,5,6,7,8,9] [10] [11] (by kernel_rfl) (by kernel_rfl) (by (exact ⟨x0,x1,x2,x3⟩)) ?_;simp only [pickL,Zg,Zi];repeat (first|refine Zs _ (Or.inl ⟨by rfl,by (intro w hSw;(try dsimp only at hSw);go_simp;try with_reducible rfl)⟩) ?_|refine Zs _ (Or.inr ⟨by rfl,rfl⟩) ?_|fail);(try go_frame)
      refine ZC ?_;unfold Zp;have h5:=(((((H4.o.pull 2 _ rfl).setCell 0 (int i64 4)).setCell 1 (int i64 img)).setCell 2 (int i64 num)).setCell 3 (int i64 n)).drew;have hk5:=(h5.pull 1 _ rfl).heap;have y0:=Zc hk5 0;have y1:=Zc hk5 1;have y2:=Zc hk5 2;have y3:=Zc hk5 3;simp at y0 y1 y2 y3;have hh:=h5.heap;have q0:=Zc hh 0;have q1:=Zc hh 1;have q2:=Zc hh 2;have q3:=Zc hh 3;simp at q0 q1 q2 q3;have H5:=Zh h5;clear h5 hk5 hh;go_wp2;refine Zt ⟨y0,y1,y2,y3⟩ ?_;unfold Zp;go_wp2;refine Zu ?_;go_wp2_with fail
      (try simp only [Exit.inBlock,Exit.then])
      refine ZaK (v:=.tuple #[.agg #[int i64 4,int i64 img,int i64 num,int i64 n],.bool false]) (by simp [results,results169,go_sem,q0,q1,q2,q3]) rfl ?_;rw [HFA.o];exact ⟨I2,HS2.o,rfl,H5.o.drop.drop.drop⟩
   ·obtain rfl:j=cs.length:=by omega
    have hfind:cs.find? (fun n=>decide (snap<=n))=none:=by
     rw [Zfo];intro n hn;rw [Zbk] at hall;have:=hall n hn;simp;omega
    rw [hfind] at HA;clear hfind hall;go_upto_region 10 with fail;refine Zlh (by assumption) (by kernel_rfl) img num H2.o ?_;intro y0 y1 y2 y3 y4 y5 y6 y7 y10 y11 y12 y13 y14 y15 y16 y17 y18 y19 y20 y21 y22 y23 y24 y25 y26 y27 y28 y29 y30 y31 y32 y33 y34 y35 y36 y37 y38 y39 y40 y41 y42 y43 y44 y45 y46 y47 y48 y49 y50 y51 y52 y53 y54 y55 y56 y57 y58 y59 y60 y61 y62 y63 y64 w9 h9;have hh:=h9.heap;have z0:=Zc hh 0;have z1:=Zc hh 1;have z2:=Zc hh 2;have z3:=Zc hh 3;simp at z0 z1 z2 z3;have H9:=Zh h9;clear h9 hh
    (try simp only [Exit.inBlock,Exit.then])
    refine ZaK (v:=.tuple #[.agg #[int i64 4,int i64 img,int i64 num,int i64 0],.bool (decide (whyS S (dK img num 0)=0))]) (by simp [results,results169,go_sem,z0,z1,z2,z3]) rfl ?_;rw [HA.o];exact ⟨I2,HS2.o,rfl,H9.o.drop⟩
 ·have d0:decide (0<snap)=false:=by simpa using h0
  have HA:=Zh (show atS S img num snap=(dK img num 0,decide (whyS S (dK img num 0)=0)) by unfold atS;rw [Za h0]);rw [hg] at H1;clear HCS h0;go_enter func169,ntmps169;go_upto_region 10 with fail;refine Zlh (by assumption) (by kernel_rfl) img num H1.o ?_;intro y0 y1 y2 y3 y4 y5 y6 y7 y10 y11 y12 y13 y14 y15 y16 y17 y18 y19 y20 y21 y22 y23 y24 y25 y26 y27 y28 y29 y30 y31 y32 y33 y34 y35 y36 y37 y38 y39 y40 y41 y42 y43 y44 y45 y46 y47 y48 y49 y50 y51 y52 y53 y54 y55 y56 y57 y58 y59 y60 y61 y62 y63 y64 w9 h9;have hh:=h9.heap;have z0:=Zc hh 0;have z1:=Zc hh 1;have z2:=Zc hh 2;have z3:=Zc hh 3;simp at z0 z1 z2 z3;have H9:=Zh h9;clear h9 hh
  (try simp only [Exit.inBlock,Exit.then])
  refine ZaK (v:=.tuple #[.agg #[int i64 4,int i64 img,int i64 num,int i64 0],.bool (decide (whyS S (dK img num 0)=0))]) (by simp [results,results169,go_sem,z0,z1,z2,z3]) rfl ?_;rw [HA.o];exact ⟨I,Hp.sub.refl _,rfl,H9.o.drop⟩
end
end Go.Proofs.YtcbdghojlbpomaaGreat
