import Derived.Test.YtcbdghojlbpomaaGreatIF19
set_option linter.all false
set_option maxRecDepth 4000
set_option maxHeartbeats 8000000
open Go.RowKit
open Go.IntKind (i64 u64)
open Go.Value (int pointer slice)
open Go.Obj (cells)
namespace Go.Proofs.YtcbdghojlbpomaaGreat
open Tryz
open HP (pt mapOf)
variable {W w w':World} {I:Hp} {l:List HP}
section
variable {p q : Nat} {S : Str} {h : Hd}
theorem ZmI (v:Value) (n:Nat) (xs:List Value) (w:World) (hs:SliceSrc w 4 v n xs) (hn:n<=1000000) :
  Calls prog 162 #[v] w fun e w'=>∃ v',e=.returned v'∧w'.ownsRow w.heap.size 66 4 v' n xs∧Below w.heap.size w w':=by
 obtain ⟨A,c,rfl,hsrc,hA⟩:=hs;cases A with
 | none =>
  have h0:n=0:=by
   rcases Zbf n with h|h
   ·exact h
   ·obtain ⟨_,e,_⟩:=hsrc.cells h;cases e
  subst h0;have hx:xs=[]:=ZbZ (by rw [hsrc.len,Zb0]);subst hx;obtain rfl:=hA rfl;have hq:=@Lib.run_eql_slice_nil prog;go_enter func162,ntmps162;go_wp2;go_ret;exact ⟨_,rfl,Zfi _ _ _ _,ZR _ _⟩
 | some ad =>
  obtain ⟨i0,hi0,hz0,hz1,hz2⟩:=info_parts Zei;have hq:=@Lib.run_eql_slice_nil prog;go_enter func162,ntmps162;have hown:=World.ownsRow_made (base:=w.heap.size) (e:=66) (size:=4) w #[] 0 (Z9 _) (ZaY _) rfl
  go_wp2_with (at_builtin
               refine Zgy _ rfl (.tmp 5) (.tmp 6) _ rfl w.heap.size 66 i0 _ 4 40 underlying49 hi0 hz0 hz1 hz2 rfl (by omega) _ 0 [] rfl hown (some ad) n c xs rfl
                (hsrc.below (ZM _ _)) (fun h=>by cases h) (by simp only [maxLen];omega) (by omega) (by simp) ?_
               intro v1 w1 hown1 hg1 hat1)
  go_ret;refine ⟨_,rfl,by simpa using hown1,((ZR _ _).alloc (Z9 _) _).grown hg1 (by simp) (fun k hk=>?_)⟩;have hk':some w.heap.size=some k:=hk;injection hk' with hk';omega
theorem ZnC (A:Option Addr) (n c:Nat) (hc:n<=c) (w:World):Calls prog 161 #[slice A n c] w fun e w'=>e=.returned (slice A n n)∧w=w':=by
 have b1:(n:Int)<=(c:Int):=by omega
 go_enter func161,ntmps161;go_wp2;go_ret;exact ⟨rfl,rfl⟩
theorem Zp4 (h:Hd) (v:Value) (w:World) (hs:SliceSrc w 4 v h.marks.length (h.marks.flatMap Mk.vals)) (h17:h.marks.length<=1000) :
  Calls prog 151 #[.agg (h.cells v)] w fun e w'=>∃ A c,e=.returned (slice A h.ids.length c)∧St w w.hp w' [HP.row 3 1 (slice A h.ids.length c) h.ids.length (h.ids.flatMap fun n=>[intV n])]:=by
 have HS:=Zh hs;obtain ⟨A,c,rfl,_⟩:=hs;have h0:=(St.init w).alloc (cells (h.cells (slice A h.marks.length c)) 51);obtain ⟨sz,⟨o,u,cn⟩,nx,sq,ms⟩:=h;simp only [Hd.cells,Hd.ids] at *;have H0:=Zh (h0.row_nil 3 1);clear h0;go_enter func151,ntmps151;go_wp2;go_loopw [3,9] (fun a3 a9 wr=>∃ (i:Nat) (z:List Int) (B:Option Addr) (d:Nat),a9=int i64 i∧i<=ms.length∧a3=slice B z.length d∧z=(ms.take i).map (·.id)∧St w w.hp wr [HP.row 3 1 (slice B z.length d) z.length (z.flatMap fun n=>[intV n]),pt w.heap.size (cells #[int i64 sz,int i64 o,int i64 u,int i64 cn,int i64 nx,int i64 sq,slice A ms.length c] 51)]) (fun _ a9 _=>ms.length - (intOf a9).toNat);case atStart=>exact ⟨0,[],none,0,rfl,by omega,rfl,rfl,H0.o⟩
 case round =>
  obtain ⟨i,z,B,d,rfl,hi,rfl,hz,hst⟩:=hrel;by_cases hlt:i<ms.length
  ·have hzl:z.length<=1000000:=by rw [hz,ZE,ZN];omega
   have d0:decide ((i:Int)<(ms.length:Int))=true:=by rw [Ze];omega
   obtain ⟨m,hm⟩:∃ m,ms[i]?=some m:=⟨_,ZL hlt⟩;obtain ⟨G,off,c2,e1,hG,hc⟩:=Zco (mk:=Mk.vals) (HS.o.below hst.below) (fun _=>rfl) (by decide) hm;simp only [ZF,ZK] at e1;obtain ⟨rfl,rfl⟩:=e1;have htk:(ms.take (i+1)).map (·.id)=z++[m.id]:=by
    obtain ⟨hk,he⟩:=ZS.1 hm;rw [ZbG hk,he,Z4,hz];rfl
   obtain ⟨id,s,n,b⟩:=m;have y0:wr.cell? ⟨G,off+i*4,none⟩=some (int i64 id):=hc 0 (by decide);have y1:wr.cell? ⟨G,off+i*4+1,none⟩=some (.string s):=hc 1 (by decide);have y2:wr.cell? ⟨G,off+i*4+2,none⟩=some (int i64 (n:Int)):=hc 2 (by decide);have y3:wr.cell? ⟨G,off+i*4+3,none⟩=some (.bool b):=hc 3 (by decide);have lt0:G<wr.heap.size:=hG;have HST:=Zh (hst.alloc (cells #[int i64 id,.string s,int i64 n,.bool b] 66));have HTK:=Zh htk;clear hc hm hst htk hz;go_upto_region 5 with fail;have h5:=HST.o;generalize (World.alloc _ _:World)=w5 at h5 |-;clear y0 y1 y2 y3 lt0 HST;obtain ⟨y0,y1,y2,y3⟩:=ZX h5;obtain ⟨B6,d6,w6,hr6,h6⟩:=St.row_push (ty:=75) underlying75 ZiH rfl (by decide) (by decide) (mk:=fun n=>[intV n]) (fun _=>rfl) h5.drop id (fun u hu=>by simp at hu;rw [hu];rfl) hzl #[int i64 id] rfl;obtain ⟨z2,hz2⟩:∃ x,z++[id]=x:=⟨_,rfl⟩;rw [hz2] at hr6 h6;have HZ2:=Zh (HTK.o.trans hz2);have HR6:=Zh hr6;have H6:=Zh h6;clear h5 h6 hr6 hz2;go_wp2_with (at_builtin;refine Zax _ rfl (.tmp 13) (.tmp 16) 75 75 rfl _ _ rfl rfl _ _ HR6.o ?_);go_roundw;case rel=>exact ⟨i+1,z2,B6,d6,by go_num,by omega,rfl,HZ2.o.symm,H6.o⟩
   case measure=>simp [intOf]<;>omega
  ·obtain rfl:i=ms.length:=by omega
   have d0:decide (((ms.length:Nat):Int)<(ms.length:Int))=false:=by rw [Zk];omega
   rw [Zbk] at hz;have HZ:=Zh hz;clear hz;go_wp2;go_ret;rw [<-HZ.o];exact ⟨B,d,rfl,(hst.pull 1 _ rfl).drop⟩
theorem ZeM (h:Hd) (v:Value) (w:World) (hst:St W I w l) (hs:SliceSrc w 4 v h.marks.length (h.marks.flatMap Mk.vals)) (h17:h.marks.length<=1000) :
  Calls prog 83 #[.agg (h.cells v)] w fun e w'=>∃ A,e=.returned (.agg (h.cells (slice A h.marks.length h.marks.length)))∧St W I w' (HP.win 66 4 (slice A h.marks.length h.marks.length) h.marks.length (h.marks.flatMap Mk.vals)::l):=by
 have HS:=Zh hs;obtain ⟨A,c,rfl,_⟩:=hs;have h0:=(hst.alloc (cells (h.cells (slice A h.marks.length c)) 51)).alloc (cells #[int i64 0,int i64 0,int i64 0,int i64 0,int i64 0,int i64 0,slice none 0 0] 51);rw [show (w.alloc (cells (h.cells (slice A h.marks.length c)) 51)).heap.size=w.heap.size+1 from Zb2 ..] at h0;obtain ⟨sz,⟨o,u,cn⟩,nx,sq,ms⟩:=h;simp only [Hd.cells] at *;have hbl:=(ZM w (cells #[int i64 sz,int i64 o,int i64 u,int i64 cn,int i64 nx,int i64 sq,slice A ms.length c] 51)).trans ((ZM (w.alloc (cells #[int i64 sz,int i64 o,int i64 u,int i64 cn,int i64 nx,int i64 sq,slice A ms.length c] 51)) (cells #[int i64 0,int i64 0,int i64 0,int i64 0,int i64 0,int i64 0,slice none 0 0] 51)).mono (by simp));have HCL:=Zh (ZmI (slice A ms.length c) ms.length (ms.flatMap Mk.vals) _ (HS.o.below hbl) (by omega));obtain ⟨g,hg⟩:∃ g,w.heap.size=g:=⟨_,rfl⟩;rw [hg] at h0;have HG:=Zh hg;have H0:=Zh h0;clear h0 hg hst hbl;go_enter func83,ntmps83;go_wp2_with fail;refine HCL.o.mono ?_;rintro e w2 ⟨v2,rfl,ho2,hb2⟩;have h2:=(H0.o.row_fresh hb2 ho2);obtain ⟨A2,c2,rfl⟩:=ZD ho2;obtain ⟨_,c3,e3,hcap⟩:=St.row_slice (mk:=Mk.vals) h2;simp only [ZF,ZK] at e3;obtain ⟨rfl,rfl⟩:=e3;rw [HG.o];have h3:=h2.pull 2 _ rfl;obtain ⟨x0,x1,x2,x3,x4,x5,x6⟩:=ZW h3;have f:=frozen_of_row h3.heap;have h4:St W I (w2.setCell ⟨g,6,none⟩ (slice A2 ms.length ms.length)) (pt g (cells #[int i64 sz,int i64 o,int i64 u,int i64 cn,int i64 nx,int i64 sq,slice A2 ms.length ms.length] 51)::HP.row 66 4 (slice A2 ms.length c2) ms.length (ms.flatMap Mk.vals)::pt (g+1) (cells #[int i64 0,int i64 0,int i64 0,int i64 0,int i64 0,int i64 0,slice none 0 0] 51)::l):=h3.setCell 6 (slice A2 ms.length ms.length);have H4:=Zh h4;clear h2 h3 h4 ho2 hb2;go_wp2_with fail;refine (ZnC _ _ _ hcap _).mono ?_;rintro e w3 ⟨rfl,rfl⟩;go_upto_region 2 with fail;have h4:=H4.o;generalize (World.setCell _ _ _:World)=w4 at h4 |-;clear x0 x1 x2 x3 x4 x5 x6 f;obtain ⟨x0,x1,x2,x3,x4,x5,x6⟩:=ZW h4;have h5:=h4.pull 2 _ rfl;obtain ⟨y0,y1,y2,y3,y4,y5,y6⟩:=ZW h5;have f:=frozen_of_row h5.heap;have H6:=Zh (h5.set7 (int i64 sz) (int i64 o) (int i64 u) (int i64 cn) (int i64 nx) (int i64 sq) (slice A2 ms.length ms.length));clear h4 h5 H4;go_wp2_with fail;have h6:=H6.o;generalize (World.setCell _ _ _:World)=w6 at h6 |-;clear x0 x1 x2 x3 x4 x5 x6 y0 y1 y2 y3 y4 y5 y6;obtain ⟨x0,x1,x2,x3,x4,x5,x6⟩:=ZW h6;refine ZaK (v:=.agg #[int i64 sz,int i64 o,int i64 u,int i64 cn,int i64 nx,int i64 sq,slice A2 ms.length ms.length]) (by simp [results,results83,go_sem,x0,x1,x2,x3,x4,x5,x6]) rfl ?_;exact ⟨A2,rfl,h6.drop.drop.win_of_row.win_clip⟩
end
def IRec (S:Str) (h:Hd) (roll:Int):Prop:=attrS S recK nmH=(varB roll++recH h,0)
def saveH (S:Str) (h:Hd) (roll:Int):Int × Str :=
 if (setS S recK nmH (varB roll++recH h)).1≠0 then setS S recK nmH (varB roll++recH h) else Zr (setS S recK nmH (varB roll++recH h)).2
section
variable {p q : Nat} {S : Str}
theorem Zjn (h:Hd) (H:h.Ok) (roll:Int) (h0:0<=roll) (h1:roll<=1073741824) (v:Value) {m:Nat} (hs:St W I w (Zd p S::l)) (hk:Keeps S (m+2)) (hv:(mksIP v h.marks).p I) :
  Calls prog 139 #[pointer (some ⟨p,0,none⟩),int i64 0,.agg (h.cells v),int i64 roll] w fun e w'=>∃ I',I.sub I'∧e=.returned (int i64 (saveH S h roll).1)∧St W I' w' (Zd p (saveH S h roll).2::l):=by
 have hsa:=hs.alloc (cells (h.cells v) 51);have HPU:=Zh (Zkd h H v _ (ZbW hsa hv) hv.cap);have hrl:=Zel H;obtain ⟨B,hB⟩:∃ B,recH h=B:=⟨_,rfl⟩;have hX:saveH S h roll=if (setS S recK nmH (varB roll++B)).1≠0 then setS S recK nmH (varB roll++B) else Zr (setS S recK nmH (varB roll++B)).2:=by unfold saveH;rw [hB]
 have HX:=Zh hX;rw [hB] at HPU hrl;have hvl:=Zcd roll;have hBl:B.length<=445:=by omega
 have HSA:=Zh hsa;obtain ⟨A,c,rfl,_⟩:=hv.cap;obtain ⟨⟨e2,S2⟩,hs2⟩:∃ x,setS S recK nmH (varB roll++B)=x:=⟨_,rfl⟩;have hk2:Keeps S2 m:=by
  have:=ZfF (k:=recK) (nm:=nmH) (v:=varB roll++B) hk;rw [hs2] at this;exact this
 rw [hs2] at HX;have HS2:=Zh hs2;have HK2:=Zh hk2;have HK:=Zh hk;obtain ⟨sz,⟨o,u,cn⟩,nx,sq,ms⟩:=h;simp only [Hd.cells] at *;clear hs hsa hv hB hX hs2 hk2 hk H hrl;go_enter func139,ntmps139;go_wp2_with fail;refine HPU.o.mono ?_;rintro e w2 ⟨A2,c2,q2,rfl,hq2,hb2,ho2⟩;subst hq2;obtain ⟨I2,hI2,hB2,h2⟩:=ZcA HSA.o hb2 ho2;have H2:=Zh h2.drop;have HB2:=Zh hB2;have HI2:=Zh hI2;clear hb2 ho2 h2 hB2 hI2;go_wp2_with fail;refine (Ze3 0 _).mono ?_;rintro e w3 ⟨rfl,hb3⟩;have h3:=(H2.o.keep hb3).row_nil 5 1;have HV:=Zh (h3.var_call (A:=none) (c:=0) (b:=[]) roll h0 (by omega) (by simp));clear hb3 h3;go_wp2_with fail;refine HV.o.mono ?_;rintro e w4 ⟨A4,c4,q4,rfl,hq4,h4⟩;rw [ZP] at hq4;have hql:q4.length<=9:=by rw [hq4];exact hvl.2
 obtain ⟨v5,w5,hr5,h5⟩:=St.bytes_append 32 h4 (ZbT h4 HB2.o) (by omega);obtain ⟨A5,c5,rfl⟩:=ZD h5.row_owns;obtain ⟨q5,hq5⟩:∃ x,q4++q2=x:=⟨_,rfl⟩;have hl5:q4.length+q2.length=q5.length:=by rw [<-hq5,ZA]
 rw [<-Z4,hq5,hl5] at h5;rw [hl5] at hr5;have hset:=ZkA recK nmH (slice A5 q5.length c5) q5 h5.drop HK.o (SliceSrc.of_owns h5.row_owns (Zac q5)) (by omega);rw [<-hq5,hq4,HS2.o] at hset;simp only [K4.val,recK,nmH] at hset;rw [<-hq4,hq5] at hset;have HSET:=Zh hset;have HR5:=Zh hr5;clear h4 h5 hr5 hset hl5 hq5 hql hq4;go_wp2_with (at_builtin;refine Zax _ rfl (.tmp 23) (.tmp 24) 32 32 rfl _ _ rfl rfl _ _ HR5.o ?_);refine HSET.o.mono ?_;rintro e w6 ⟨I6,hs6,rfl,h6⟩;have HS6:=Zh (HI2.o.trans hs6);by_cases he2:e2=0
 ·subst he2;have HX2:=Zh (HX.o.trans (Za (by simp)));have HBA:=Zh (ZdN h6 HK2.o);clear h6 hs6;go_wp2_with fail;refine HBA.o.mono ?_;rintro e w7 ⟨I7,hs7,rfl,h7⟩;have H7:=Zh h7;have HS7:=Zh (HS6.o.trans hs7);clear h7 hs7;go_wp2;go_ret;rw [HX2.o];exact ⟨I7,HS7.o,rfl,H7.o⟩
 ·have hne:(e2 != 0)=true:=by simpa using he2
  have HX2:=Zh (HX.o.trans (Zb he2));have H6:=Zh h6;clear h6 hs6;go_wp2;go_ret;rw [HX2.o];exact ⟨I6,HS6.o,rfl,H6.o⟩
theorem Zjo {m:Nat} (hs:St W I w (Zd p S::l)) (hk:Inv S m) (hn:(attrS S recK nmH).2≠0) :
  Calls prog 78 #[pointer (some ⟨p,0,none⟩),int i64 0] w fun e w'=>e=.returned (.tuple #[.agg #[int i64 0,int i64 0,int i64 0,int i64 0,int i64 0,int i64 0,slice none 0 0],int i64 0,int i64 (attrS S recK nmH).2])∧St W I w' (Zd p S::l):=by
 have h0:=(hs.alloc (cells #[int i64 0,int i64 0,int i64 0,int i64 0,int i64 0,int i64 0,slice none 0 0] 51)).pull 1 _ rfl;simp only [Zx,Zy] at h0;have H0:=Zh h0;have HK:=Zh hk;obtain ⟨er,her⟩:∃ er,(attrS S recK nmH).2=er:=⟨_,rfl⟩;rw [her] at hn |-;have HER:=Zh her;have hne:(er != 0)=true:=by simpa using hn
 clear hs h0 hk her;go_enter func78,ntmps78;go_wp2_with fail;refine (Ze3 0 _).mono ?_;rintro e w1 ⟨rfl,hb1⟩;have h1:=H0.o.keep hb1;have hat:=ZeW recK nmH h1 HK.o;rw [HER.o] at hat;simp only [K4.val,recK,nmH] at hat;have HAT:=Zh hat;have H1:=Zh h1;clear hat h1 hb1;go_wp2_with fail;refine HAT.o.mono ?_;rintro e w2 ⟨hb2,v2,rfl,ho2⟩;have h2:=(H1.o.keep hb2).pull 1 _ rfl;obtain ⟨x0,x1,x2,x3,x4,x5,x6⟩:=ZW h2;have f:=frozen_of_row h2.heap;have H2:=Zh (h2.set7 (int i64 0) (int i64 0) (int i64 0) (int i64 0) (int i64 0) (int i64 0) (slice none 0 0));clear hb2 ho2 h2;go_wp2_with fail;have h2:=H2.o;generalize (World.setCell _ _ _:World)=w3 at h2 |-;clear x0 x1 x2 x3 x4 x5 x6;obtain ⟨x0,x1,x2,x3,x4,x5,x6⟩:=ZW h2;refine ZaK (v:=.tuple #[.agg #[int i64 0,int i64 0,int i64 0,int i64 0,int i64 0,int i64 0,slice none 0 0],int i64 0,int i64 er]) (by simp [results,results78,go_sem,x0,x1,x2,x3,x4,x5,x6]) rfl ?_;exact ⟨rfl,h2.drop⟩
theorem ZnD (h:Hd) (H:h.Ok) (roll:Int) (h0:0<=roll) (h1:roll<=1073741824) {m:Nat} (hs:St W I w (Zd p S::l)) (hk:Inv S m) (hr:IRec S h roll) :
  Calls prog 78 #[pointer (some ⟨p,0,none⟩),int i64 0] w fun e w'=>∃ I' v,I.sub I'∧e=.returned (.tuple #[.agg (h.cells v),int i64 roll,int i64 0])∧(mksIP v h.marks).p I'∧St W I' w' (Zd p S::l):=by
 have hz:=(hs.alloc (cells #[int i64 0,int i64 0,int i64 0,int i64 0,int i64 0,int i64 0,slice none 0 0] 51)).pull 1 _ rfl;simp only [Zx,Zy] at hz;have H0:=Zh hz;have HK:=Zh hk;have hvl:=Zcd roll;have hrl:=Zel H;have HGT:=Zh (fun v w hs hc=>ZoX v h H w hs hc);obtain ⟨B,hB⟩:∃ B,recH h=B:=⟨_,rfl⟩;obtain ⟨V,hV⟩:∃ V,varB roll=V:=⟨_,rfl⟩;unfold IRec at hr;rw [hB,hV] at hr;rw [hB] at HGT hrl;have HR:=Zh hr;have HV:=Zh hV;rw [hV] at hvl;obtain ⟨Q,hQ⟩:∃ Q,V++B=Q:=⟨_,rfl⟩;have hQl:Q.length=V.length+B.length:=by rw [<-hQ,ZA]
 rw [hQ] at HR;have hBl:B.length<=445∧1<=B.length:=by omega
 have HQL:=Zh hQl;have HQ:=Zh hQ;obtain ⟨t,ht⟩:∃ t,V.length=t:=⟨_,rfl⟩;rw [ht] at hvl;have HT:=Zh ht;clear hs hz hk hr hB hV H hrl hQl hQ ht;obtain ⟨sz,⟨o,u,cn⟩,nx,sq,ms⟩:=h;simp only [Hd.cells] at *;go_enter func78,ntmps78;go_wp2_with fail;refine (Ze3 0 _).mono ?_;rintro e w1 ⟨rfl,hb1⟩;have h1:=H0.o.keep hb1;have hat:=ZeW recK nmH h1 HK.o;rw [HR.o] at hat;simp only [K4.val,recK,nmH] at hat;have HAT:=Zh hat;have H1:=Zh h1;clear hat h1 hb1;go_wp2_with fail;refine HAT.o.mono ?_;rintro e w2 ⟨hb2,v2,rfl,ho2⟩;obtain ⟨I2,hs2,hB2,h2⟩:=ZcA H1.o hb2 ho2;obtain ⟨A2,c2,rfl,hc2⟩:=RowI.cap hB2;have hsrc:=ZbT h2 hB2;have hgv:=Zfa (slice A2 Q.length c2) Q B 0 roll w2 hsrc (by rw [List.drop_zero,<-HQ.o,HV.o]) (by omega) (by omega) (by have:=HQL.o;have:=HT.o;omega) (t:=t) (by rw [HV.o,HT.o];omega);obtain ⟨g2,o2,e2⟩:∃ g o,A2=some ⟨g,o,none⟩:=by
  obtain ⟨A1,c1,e,hsr,_⟩:=hsrc;simp only [ZF,ZK] at e;obtain ⟨rfl,rfl⟩:=e;obtain ⟨g,o,rfl,hlt,_⟩:=Zer hsr (by have:=HQL.o;omega);exact ⟨g,o,rfl⟩
 subst e2;have hdr:=ZkW hsrc (m:=t) (by have:=HQL.o;have:=HT.o;omega);have e9:(Q.map byteV).drop (t*1)=B.map byteV:=by rw [ZaT,<-Zdb,<-HQ.o,<-HT.o,Zgx]
 have e8:Q.length - t=B.length:=by have:=HQL.o;have:=HT.o;omega
 rw [e9,e8,ZaT] at hdr;have hgt:=HGT.o _ w2 hdr ⟨_,_,rfl,by omega⟩;rw [<-e8] at hgt;have HGV:=Zh hgv;have HGG:=Zh hgt;have H2:=Zh h2;have HS2:=Zh hs2;have b1:(t:Int)<=(Q.length:Int):=by have:=HQL.o;have:=HT.o;omega
 have b2:(Q.length:Int)<=(c2:Int):=by omega
 have b3:¬ (c2 - t=0):=by have:=HQL.o;have:=HT.o;omega
 clear hb2 ho2 h2 hB2 hsrc hgv hdr e9 e8 hgt hs2 hc2;go_wp2_with fail;refine HGV.o.mono ?_;rintro e w3 ⟨rfl,rfl⟩;go_wp2_with fail;refine HGG.o.mono ?_;rintro e w4 ⟨A4,c4,rfl,h4⟩;obtain ⟨I5,hs5,hr5,h5⟩:=(H2.o.row_fresh h4.below h4.row_new).freeze_row;have h6:=(h5.alloc (cells #[int i64 sz,int i64 o,int i64 u,int i64 cn,int i64 nx,int i64 sq,slice A4 ms.length c4] 51));obtain ⟨g7,hg7⟩:∃ g,w4.heap.size=g:=⟨_,rfl⟩;rw [hg7] at h6;have HG7:=Zh hg7;have HS5:=Zh (HS2.o.trans hs5);have HR5:=Zh hr5;have H6:=Zh h6;clear h4 h5 h6 hs5 hr5 hg7;go_upto_region 10 with fail;have h6:=H6.o;rw [HG7.o];generalize (World.alloc _ _:World)=w6 at h6 |-;obtain ⟨x0,x1,x2,x3,x4,x5,x6⟩:=ZW h6;have h7:=h6.pull 2 _ rfl;obtain ⟨y0,y1,y2,y3,y4,y5,y6⟩:=ZW h7;have f:=frozen_of_row h7.heap;have H8:=Zh (h7.set7 (int i64 sz) (int i64 o) (int i64 u) (int i64 cn) (int i64 nx) (int i64 sq) (slice A4 ms.length c4));clear h6 h7 H6;go_wp2_with fail;have h8:=H8.o;generalize (World.setCell _ _ _:World)=w8 at h8 |-;clear x0 x1 x2 x3 x4 x5 x6 y0 y1 y2 y3 y4 y5 y6;obtain ⟨x0,x1,x2,x3,x4,x5,x6⟩:=ZW h8;refine ZaK (v:=.tuple #[.agg #[int i64 sz,int i64 o,int i64 u,int i64 cn,int i64 nx,int i64 sq,slice A4 ms.length c4],int i64 roll,int i64 0]) (by simp [results,results78,go_sem,x0,x1,x2,x3,x4,x5,x6]) rfl ?_;exact ⟨I5,_,HS5.o,rfl,HR5.o,h8.drop.drop⟩
end
end Go.Proofs.YtcbdghojlbpomaaGreat
