import Derived.Test.YtcbdghojlbpomaaGreatIF16
set_option linter.all false
set_option maxRecDepth 4000
set_option maxHeartbeats 8000000
open Go.RowKit
open Go.IntKind (i64 u64)
open Go.Value (int pointer slice)
open Go.Obj (cells)
namespace Go.Proofs.YtcbdghojlbpomaaGreat
open Tryz
open HP (pt mapOf)
variable {W w w':World} {I:Hp} {l:List HP}
theorem ZkW {w:World} {s:Nat} {g o n c m:Nat} {xs:List Value} (h:SliceSrc w s (slice (some ⟨g,o,none⟩) n c) n xs) (hm:m<=n):SliceSrc w s (slice (some ⟨g,o+m*s,none⟩) (n - m) (c - m)) (n - m) (xs.drop (m*s)):=by
 obtain ⟨A1,c1,e,hsrc,hA⟩:=h;simp only [ZF,ZK] at e;obtain ⟨rfl,rfl⟩:=e;have hms:=Zcj s hm;refine ⟨_,_,rfl,⟨by rw [Zas,hsrc.len,Nat.sub_mul],fun hp=>?_,fun u hu=>hsrc.one u (List.mem_of_mem_drop hu)⟩,fun e=>by cases e⟩;obtain ⟨ad,e,hc⟩:=hsrc.cells (by omega);cases e;refine ⟨_,rfl,fun j u hu=>?_⟩;rw [Zb9] at hu;have:=hc _ u hu;rw [add_plain] at this |-;rw [Zb3];exact this
theorem Zlf {w:World} {a b:Nat} {e:TypeId} {k:Nat} {v:Value} {n:Nat} {xs:List Value} (h:w.ownsRow b e k v n xs) (hab:a<=b):w.ownsRow a e k v n xs:=by
 obtain ⟨h1,h2⟩:=h;refine ⟨h1,?_⟩;rcases h2 with h2|⟨g,cap,cur,h3,h4,h5⟩
 ·exact .inl h2
 ·exact .inr ⟨g,cap,cur,h3,ZQ hab h4,h5⟩
section
theorem ZiV (b:List Int):0<=crcOf b∧crcOf b<4294967296:=u32_xor _ _
theorem ZoV (v:Value) (b:List Int) (w:World) (hs:SliceSrc w 1 v b.length (b.map byteV)) (hb:∀ x ∈ b,isByte x) (hl:b.length<=1000000) :
  Calls prog 234 #[v] w fun e w'=>∃ v',e=.returned v'∧Below w.heap.size w w'∧w'.ownsRow w.heap.size 5 1 v' (b++putB (crcOf b) 4).length ((b++putB (crcOf b) 4).map byteV):=by
 have hc:=ZiV b;have hp:=ZkO v b (crcOf b) 4 w hs (by omega) (by omega) (by omega) (by omega) hl;have ho:=Zlp v b w hs hb hl;obtain ⟨cr,hcr⟩:∃ c,crcOf b=c:=⟨_,rfl⟩;rw [hcr] at hp ho hc |-;have HP:=Zh hp;have HO:=Zh ho;obtain ⟨A,c,rfl,_⟩:=hs;have hw:IntKind.u64.wrap cr=cr:=by rw [IntKind.wrap_u64];omega
 clear hp ho hcr;go_enter func234,ntmps234;go_wp2_with fail;refine HO.o.mono ?_;rintro e w2 ⟨rfl,rfl⟩;go_wp2_with fail;refine HP.o.mono ?_;rintro e w3 ⟨v3,rfl,hb3,ho3⟩;obtain ⟨A3,c3,rfl⟩:=ZD ho3;have HB3:=Zh hb3;have HO3:=Zh ho3;obtain ⟨q,hq⟩:∃ q,b++putB cr 4=q:=⟨_,rfl⟩;rw [hq] at HO3 |-;clear hb3 ho3;go_wp2;go_ret;refine ⟨_,rfl,HB3.o,?_⟩;rw [hq];exact HO3.o
theorem Znz (v:Value) (r B:List Int) (hB:r++putB (crcOf r) 4=B) (w:World) (hs:SliceSrc w 1 v B.length (B.map byteV)) (hb:∀ x ∈ r,isByte x) (hl:r.length<=100000) (h1:1<=r.length) (hcap:∃ A c,v=slice A B.length c∧B.length<=c) :
  Calls prog 211 #[v] w fun e w'=>∃ v',e=.returned (.tuple #[v',.bool true])∧Below w.heap.size w w'∧w'.ownsRow w.heap.size 5 1 v' r.length (r.map byteV):=by
 have hBl:B.length=r.length+4:=by rw [<-hB,ZA,Zfy]
 have hc:=ZiV r;obtain ⟨A,c,rfl,hcap⟩:=hcap;have ht:=Zp0 hs (m:=r.length) (by omega);have e1:(B.map byteV).take (r.length*1)=r.map byteV:=by rw [ZaT,<-hB,Z4,Zez (by simp)]
 rw [e1] at ht;obtain ⟨b0,off,c0,e0,hg0,hc0⟩:∃ g o c',slice A B.length c=slice (some ⟨g,o,none⟩) B.length c'∧g<w.heap.size∧c'=c:=by
  obtain ⟨A1,c1,e,hsrc,_⟩:=hs;simp only [ZF,ZK] at e;obtain ⟨rfl,rfl⟩:=e;obtain ⟨g,o,rfl,hlt,_⟩:=Zer hsrc (by omega);exact ⟨g,o,c,rfl,hlt,rfl⟩
 simp only [ZF,ZK] at e0;obtain ⟨rfl,rfl⟩:=e0;have hd:=ZkW hs (m:=r.length) (by omega);have e2:(B.map byteV).drop (r.length*1)=(putB (crcOf r) 4).map byteV:=by rw [ZaT,<-hB,Z4,List.drop_left' (by simp)]
 rw [e2,hBl,show r.length+4 - r.length=4 by omega,ZaT] at hd;have ho:=Zlp _ r w.drew (ht.below (ZR _ _).drew) hb (by omega);have hp:=ZkO (slice none 0 0) [] (crcOf r) 4 w.drew (SliceSrc.of_owns (base:=0) (e:=5) ⟨rfl,.inl ⟨rfl,rfl⟩⟩ (by simp)) (by omega) (by omega) (by omega) (by omega) (by simp);have hcl:=Za4 _ r.length (r.map byteV) w ht (by omega);have hpl:=Zfy (crcOf r) 4;have hpb:=Zjk (crcOf r) 4;rw [ZP] at hp;obtain ⟨cr,hcr⟩:∃ c,crcOf r=c:=⟨_,rfl⟩;rw [hcr] at hp ho hc hd hpl hpb;obtain ⟨pb,hpb2⟩:∃ p,putB cr 4=p:=⟨_,rfl⟩;rw [hpb2] at hp hd hpl hpb;have hw:IntKind.u64.wrap cr=cr:=by rw [IntKind.wrap_u64];omega
 obtain ⟨n,hn⟩:∃ n,r.length=n:=⟨_,rfl⟩;rw [hn] at ht hd ho hcl hBl |-;obtain ⟨m,hm⟩:∃ m,B.length=m:=⟨_,rfl⟩;rw [hm] at hs hcap hBl |-;have HT:=Zh ht;have HD:=Zh hd;have HP:=Zh hp;have HO:=Zh ho;have HPB:=Zh hpb;have HPL:=Zh hpl;have hs4:(m:Int) - 4=(n:Int):=by omega
 have hlt:decide ((n:Int)<0)=false:=by rw [Zk];omega
 have hnm:(n:Int)<=(m:Int):=by omega
 have hnc:(n:Int)<=(c:Int):=by omega
 have hmc:(m:Int)<=(c:Int):=by omega
 have HMN:=Zh (show m - n=4 by omega);have hcm:¬ (c - n=0):=by omega
 clear hs ht hd hp ho hcl hpl hpb hpb2 hcr hB e1 e2 hb hBl;go_enter func211,ntmps211;go_upto_region 4 with fail;refine ZaD [0,1,2,3,4,5] [] [6,7,8,9,10] (by kernel_rfl) (by kernel_rfl) ?_;simp only [pickL,Zg,Zi];repeat (refine ZaA _ (Or.inl ⟨by rfl,by intro w;go_simp;try with_reducible rfl⟩) ?_;(try go_frame))
 refine ZaB ?_;repeat still_step
 refine ZaI ?_;go_wp2_with fail;refine HO.o.mono ?_;rintro e w2 ⟨rfl,rfl⟩;go_wp2_with fail;refine HP.o.mono ?_;rintro e w3 ⟨v3,rfl,hb3,ho3⟩;have hb3':Below w.heap.size w w3:=(ZR w.heap.size w).drew.trans hb3;have heq:=ZgR (slice (some ⟨b0,off+n,none⟩) (m - n) (c - n)) v3 pb pb w3 (by rw [HMN.o,HPL.o];exact HD.o.below hb3') (SliceSrc.of_owns ho3 (Zac pb)) HPB.o HPB.o;rw [Zcb rfl] at heq;have HEQ:=Zh heq;have HB3:=Zh hb3';obtain ⟨A3,c3,rfl⟩:=ZD ho3;have hcl:=Za4 (slice (some ⟨b0,off,none⟩) n c) n (r.map byteV) w3 (HT.o.below hb3') (by omega);have HCL:=Zh hcl;clear heq hcl hb3 hb3' ho3;go_wp2_with fail;refine HEQ.o.mono ?_;rintro e w4 ⟨rfl,rfl⟩;go_wp2;refine Zu ?_;go_wp2_with fail;refine HCL.o.mono ?_;rintro e w5 ⟨v5,rfl,ho5,hb5⟩;obtain ⟨A5,c5,rfl⟩:=ZD ho5;have hb5':=HB3.o.trans (hb5.mono HB3.o.size);have ho5':=Zlf ho5 HB3.o.size;go_wp2;go_ret2;exact ⟨_,rfl,hb5',ho5'⟩
theorem Zl8 (v:Value) (b rest:List Int) (at':Nat) (s:ByteArray) (most:Int) (w:World) (hs:SliceSrc w 1 v b.length (b.map byteV)) (hb:b.drop at'=textB s++rest) (hs2:(s.size:Int)<=most) (hsz:s.size<=1000) (hs1:1<=s.size) (hbl:b.length<=100000) (hcap:∃ A c,v=slice A b.length c∧b.length<=c) :
  Calls prog 253 #[v,int i64 at',int i64 most] w fun e w'=>e=.returned (.tuple #[.string s,int i64 (at'+(textB s).length:Nat),.bool true])∧Below w.heap.size w w':=by
 have hl:=congrArg List.length hb;unfold textB at hl hb;simp only [Zas,ZA,Zds] at hl;have hvl:=Zcd (s.size:Int);have hg:=Zj8 v b (strB s++rest) at' s.size w hs (by rw [hb,Zam]) (by omega) (by omega);have htl:(textB s).length=(varB (s.size:Int)).length+s.size:=by unfold textB;rw [ZA,Zds]
 rw [htl];obtain ⟨vl,hvl2⟩:∃ n,(varB (s.size:Int)).length=n:=⟨_,rfl⟩;rw [hvl2] at hg hl hvl |-;obtain ⟨t1,ht1⟩:∃ n,at'+vl=n:=⟨_,rfl⟩;obtain ⟨t2,ht2⟩:∃ n,t1+s.size=n:=⟨_,rfl⟩;rw [show at'+(vl+s.size)=t2 by omega];rw [ht1] at hg;obtain ⟨A,c,rfl,hcap⟩:=hcap;have hdr:(b.drop t1).take s.size=strB s:=by
  rw [<-ht1,<-List.drop_drop,hb,Zam,<-hvl2,Zgx,Zez (Zds s)]
 have hws:(t1:Int)+(s.size:Int)=(t2:Int):=by omega
 have hsl:=Zjb (lo:=t1) (hi:=t2) hs hcap (by omega) (by omega);have e9:t2 - t1=(strB s).length:=by rw [Zds];omega
 rw [e9,ZaT,ZaT,<-Zdb,<-ZcR,Zds,hdr,<-Zds] at hsl;have ht10:¬ t1=0:=by omega
 have hct:¬ c=t1:=by omega
 obtain ⟨b0,off,e0⟩:∃ g o,A=some ⟨g,o,none⟩:=by
  obtain ⟨A1,c1,e,hsrc,_⟩:=hs;simp only [ZF,ZK] at e;obtain ⟨rfl,rfl⟩:=e;obtain ⟨g,o,rfl,hlt,_⟩:=Zer hsrc (by omega);exact ⟨g,o,rfl⟩
 subst e0;have hsl2:SliceSrc w 1 (slice (some ⟨b0,off+t1,none⟩) (strB s).length (c - t1)) (strB s).length ((strB s).map byteV):=by
  have:=hsl;simp only [sliced,Za hct,e9] at this;simpa [Addr.add,ht10] using this
 have hcv:=Zdk hsl2;have hstr:strOfNums (strB s)=s:=by
  unfold strB strOfNums;rw [ZdD];have:(s.data.toList.map ((fun n:Int=>UInt8.ofNat n.toNat) ∘ fun c:UInt8=>(c.toNat:Int)))=s.data.toList:=by
   conv=>rhs;rw [<-List.map_id s.data.toList]
   exact ZeD fun c _=>by simp
  rw [this]
 rw [hstr,<-e9] at hcv;have HCV:=Zh hcv;have HG:=Zh hg;have d1:decide (most<(s.size:Int))=false:=by rw [Zk];omega
 have d2:decide ((b.length:Int) - (t1:Int)<(s.size:Int))=false:=by rw [Zk];omega
 have b1:(t1:Int)<=(t2:Int):=by omega
 have b2:(t2:Int)<=(b.length:Int):=by omega
 have b3:(t2:Int)<=(c:Int):=by omega
 have hwl:IntKind.i64.wrap ((b.length:Int) - (t1:Int))=(b.length:Int) - t1:=by rw [Z2];omega
 have b4:t2<=200000:=by omega
 clear hs hb hl hg hsl hsl2 hcv hstr hdr htl ht1 ht2 hvl2 e9;go_enter func253,ntmps253;go_wp2_with fail;refine HG.o.mono ?_;rintro e w2 ⟨rfl,rfl⟩;have hcv:=HCV.o;go_wp2;refine ZaK (v:=.tuple #[.string s,int i64 t2,.bool true]) (by simp [results,results253,go_sem]) rfl ?_;exact ⟨rfl,ZR _ _⟩
end
section
theorem St.var_call {A:Option Addr} {c:Nat} {b:List Int} (n:Int) (h:St W I w (HP.row 5 1 (slice A b.length c) b.length (b.map byteV)::l)) (hn0:0<=n) (hn:n<9223372036854775808) (hbl:b.length<=1000000) :
  Calls prog 205 #[slice A b.length c,int i64 n] w fun e w'=>∃ A' c' q,e=.returned (slice A' q.length c')∧q=b++varB n∧St W I w' (HP.row 5 1 (slice A' q.length c') q.length (q.map byteV)::l):=by
 refine (ZkP _ b n w (SliceSrc.of_owns h.row_owns (Zac b)) hn0 hn hbl).mono ?_;rintro e w' ⟨v',rfl,hb,ho⟩;obtain ⟨A',c',rfl⟩:=ZD ho;exact ⟨A',c',_,rfl,rfl,h.drop.row_fresh hb ho⟩
theorem St.text_call {A:Option Addr} {c:Nat} {b:List Int} (s:ByteArray) (h:St W I w (HP.row 5 1 (slice A b.length c) b.length (b.map byteV)::l)) (hs:s.size<=1000) (hbl:b.length<=100000) :
  Calls prog 233 #[slice A b.length c,.string s] w fun e w'=>∃ A' c' q,e=.returned (slice A' q.length c')∧q=b++textB s∧St W I w' (HP.row 5 1 (slice A' q.length c') q.length (q.map byteV)::l):=by
 refine (ZoU _ b s w (SliceSrc.of_owns h.row_owns (Zac b)) hbl hs).mono ?_;rintro e w' ⟨v',rfl,hb,ho⟩;obtain ⟨A',c',rfl⟩:=ZD ho;exact ⟨A',c',_,rfl,rfl,h.drop.row_fresh hb ho⟩
theorem Zkd (h:Hd) (H:h.Ok) (v:Value) (w:World) (hs:SliceSrc w 4 v h.marks.length (h.marks.flatMap Mk.vals)) (hcap:∃ A c,v=slice A h.marks.length c∧h.marks.length<=c) :
  Calls prog 204 #[.agg (h.cells v)] w fun e w'=>∃ A' c' q,e=.returned (.tuple #[slice A' q.length c',int i64 0])∧q=recH h∧Below w.heap.size w w'∧w'.ownsRow w.heap.size 5 1 (slice A' q.length c') q.length (q.map byteV):=by
 have HS:=Zh hs;have hr:=fun w hs=>ZmG h H v w hs hcap;have HRT:=Zh hr;obtain ⟨A,c,rfl,hcap⟩:=hcap;have h0:=(St.init w).alloc (cells (h.cells (slice A h.marks.length c)) 51);have H0:=Zh h0;have HN:=Zh (Hd.nums_ok H);have HL1:=Zh (ZkR h);have HL2:=Zh (ZkS H);have HS1:=Zh (fun k n=>Zj9 h (k:=k) (n:=n));have HS2:=Zh (fun k m=>Zka h (k:=k) (m:=m));have HBY:=Zh (Zg6 H h.marks.length);have HIDS:=Zh H.ids;have HSZ:=Zh H.sizes;have HNM:=Zh (fun m hm=>Mk.named_size (H.names m hm));have hnx:=H.next.2;obtain ⟨R,hR⟩:∃ R,h=R:=⟨_,rfl⟩;have h17:=H.many;have e0:h.nums=[(h.size:Int),h.l.order,h.l.unit,h.l.count,h.next,h.seq,h.marks.length]:=rfl;rw [hR] at HL1 HL2 HS1 HS2 HBY |-;rw [hR] at e0;have HE0:=Zh e0;have HRR:=Zh hR;obtain ⟨sz,⟨o,u,cn⟩,nx,sq,ms⟩:=h;simp only [Hd.cells] at *;clear H h0 hs hr e0;rw [<-hR];simp only;rw [hR];clear hR;have i0:∀ w:World,(Instr.index 277 (.agg #[int i64 sz,int i64 o,int i64 u,int i64 cn,int i64 nx,int i64 sq,int i64 ms.length]) (int i64 0)).run prog w=.ok (int i64 (sz:Int)) w:=fun _=>by kernel_rfl
 have i1:∀ w:World,(Instr.index 277 (.agg #[int i64 sz,int i64 o,int i64 u,int i64 cn,int i64 nx,int i64 sq,int i64 ms.length]) (int i64 1)).run prog w=.ok (int i64 (o:Int)) w:=fun _=>by kernel_rfl
 have i2:∀ w:World,(Instr.index 277 (.agg #[int i64 sz,int i64 o,int i64 u,int i64 cn,int i64 nx,int i64 sq,int i64 ms.length]) (int i64 2)).run prog w=.ok (int i64 (u:Int)) w:=fun _=>by kernel_rfl
 have i3:∀ w:World,(Instr.index 277 (.agg #[int i64 sz,int i64 o,int i64 u,int i64 cn,int i64 nx,int i64 sq,int i64 ms.length]) (int i64 3)).run prog w=.ok (int i64 (cn:Int)) w:=fun _=>by kernel_rfl
 have i4:∀ w:World,(Instr.index 277 (.agg #[int i64 sz,int i64 o,int i64 u,int i64 cn,int i64 nx,int i64 sq,int i64 ms.length]) (int i64 4)).run prog w=.ok (int i64 nx) w:=fun _=>by kernel_rfl
 have i5:∀ w:World,(Instr.index 277 (.agg #[int i64 sz,int i64 o,int i64 u,int i64 cn,int i64 nx,int i64 sq,int i64 ms.length]) (int i64 5)).run prog w=.ok (int i64 sq) w:=fun _=>by kernel_rfl
 have i6:∀ w:World,(Instr.index 277 (.agg #[int i64 sz,int i64 o,int i64 u,int i64 cn,int i64 nx,int i64 sq,int i64 ms.length]) (int i64 6)).run prog w=.ok (int i64 (ms.length:Int)) w:=fun _=>by kernel_rfl
 have hix:∀ (i:Nat) (x:Int),[(sz:Int),o,u,cn,nx,sq,ms.length][i]?=some x->∀ w:World,(Instr.index 277 (.agg #[int i64 sz,int i64 o,int i64 u,int i64 cn,int i64 nx,int i64 sq,int i64 ms.length]) (int i64 i)).run prog w=.ok (int i64 x) w:=by
  intro i x hx w;have hi:=(ZS.1 hx).1;simp only [Zat,ZaH] at hi;rcases (show i=0∨i=1∨i=2∨i=3∨i=4∨i=5∨i=6 by omega) with rfl|rfl|rfl|rfl|rfl|rfl|rfl <;> (simp only [Zg,Zi,Zah] at hx;subst hx;first|exact i0 w|exact i1 w|exact i2 w|exact i3 w|exact i4 w|exact i5 w|exact i6 w)
 have HIX:=Zh hix;have HRL:=Zh (HRT.o _ (HS.o.below (ZM w (cells #[int i64 sz,int i64 o,int i64 u,int i64 cn,int i64 nx,int i64 sq,slice A ms.length c] 51))));clear hix i0 i1 i2 i3 i4 i5 i6;go_enter func204,ntmps204;go_wp2_with fail;refine HRL.o.mono ?_;rintro e w2 ⟨rfl,hb2⟩;have h2:=H0.o.keep hb2;obtain ⟨x0,x1,x2,x3,x4,x5,x6⟩:=ZW h2;have H2:=Zh (h2.row_nil 5 1);clear h2 hb2;go_wp2;go_loopw [4,32] (fun a4 a32 wr=>∃ (i:Nat) (A':Option Addr) (c':Nat) (q:List Int),a32=int i64 i∧i<=7∧a4=slice A' q.length c'∧q=hdP1 R i∧St w w.hp wr [HP.row 5 1 (slice A' q.length c') q.length (q.map byteV),pt w.heap.size (cells #[int i64 sz,int i64 o,int i64 u,int i64 cn,int i64 nx,int i64 sq,slice A ms.length c] 51)]) (fun _ a32 _=>7 - (intOf a32).toNat);case atStart=>exact ⟨0,none,0,[],rfl,by omega,rfl,by simp [hdP1],H2.o⟩
 case round =>
  obtain ⟨i,A',c',q,rfl,hi,rfl,hq,hst⟩:=hrel;by_cases hlt:i<7
  ·have d0:decide ((i:Int)<7)=true:=by rw [Ze];omega
   obtain ⟨x,hx⟩:∃ x,[(sz:Int),o,u,cn,nx,sq,ms.length][i]?=some x:=⟨_,ZL hlt⟩;have hix:=HIX.o i x hx;have hxb:=HN.o x (Zay hx);have hs:=HS1.o i x (by rw [HE0.o,<-HRR.o];exact hx);have hql:q.length<=63:=by rw [hq];exact HL1.o i
   have HVC:=Zh (hst.var_call x (by omega) (by omega) (by omega));rw [<-hq] at hs;have HS3:=Zh hs;clear hst hs hq hx;go_wp2_with fail;refine HVC.o.mono ?_;rintro e w3 ⟨A3,c3,q3,rfl,hq3,h3⟩;have HQ3:=Zh hq3;clear hq3;go_wp2;go_roundw;case rel=>exact ⟨i+1,A3,c3,q3,by go_num,by omega,rfl,by rw [HS3.o];exact HQ3.o,h3⟩
   case measure=>simp [intOf]<;>omega
  ·obtain rfl:i=7:=by omega
   have h2:q=hdP2 R 0:=by rw [hq];unfold hdP2;simp
   obtain ⟨x0,x1,x2,x3,x4,x5,x6⟩:=ZW (hst.pull 1 _ rfl);have H4:=Zh hst;have HQ2:=Zh h2;clear hst hq h2;go_wp2;go_loopw [4,42] (fun a4 a42 wr=>∃ (i:Nat) (A':Option Addr) (c':Nat) (q:List Int),a42=int i64 i∧i<=ms.length∧a4=slice A' q.length c'∧q=hdP2 R i∧St w w.hp wr [HP.row 5 1 (slice A' q.length c') q.length (q.map byteV),pt w.heap.size (cells #[int i64 sz,int i64 o,int i64 u,int i64 cn,int i64 nx,int i64 sq,slice A ms.length c] 51)]) (fun _ a42 _=>ms.length - (intOf a42).toNat);case atStart=>exact ⟨0,_,_,q,rfl,by omega,rfl,HQ2.o,H4.o⟩
   case round =>
    obtain ⟨i,A',c',q,rfl,hi,rfl,hq,hst⟩:=hrel;have hql:q.length<=437:=by rw [hq];exact HL2.o i
    by_cases hlt:i<ms.length
    ·have d0:decide ((i:Int)<(ms.length:Int))=true:=by rw [Ze];omega
     obtain ⟨m,hm⟩:∃ m,ms[i]?=some m:=⟨_,ZL hlt⟩;have hmm:=Zay hm;obtain ⟨G,off,c2,e1,hG,hc⟩:=Zco (mk:=Mk.vals) (HS.o.below hst.below) (fun _=>rfl) (by decide) hm;simp only [ZF,ZK] at e1;obtain ⟨rfl,rfl⟩:=e1;have k2:=HIDS.o m hmm;have k3:=HSZ.o m hmm;have k4:=HNM.o m hmm;have k5:=HS2.o i m (by rw [<-HRR.o];exact hm);rw [<-hq] at k5;obtain ⟨id,s,n,b⟩:=m;simp only at k2 k3 k4;have y0:wr.cell? ⟨G,off+i*4,none⟩=some (int i64 id):=hc 0 (by decide);have y1:wr.cell? ⟨G,off+i*4+1,none⟩=some (.string s):=hc 1 (by decide);have y2:wr.cell? ⟨G,off+i*4+2,none⟩=some (int i64 (n:Int)):=hc 2 (by decide);have y3:wr.cell? ⟨G,off+i*4+3,none⟩=some (.bool b):=hc 3 (by decide);have hst2:=(hst.alloc (cells #[int i64 id,.string s,int i64 n,.bool b] 66)).pull 1 _ rfl;have HST:=Zh hst2;have K5:=Zh k5;have lt0:G<wr.heap.size:=hG;have HM:=Zh (And.intro k2 (And.intro k3 k4));have HQL:=Zh hql;clear hc hst hst2 k5 hq hm k2 k3 k4;cases b;all_goals
      go_upto_region 15 with fail;have h3:=HST.o;obtain ⟨g,hg⟩:∃ g,wr.heap.size=g:=⟨_,rfl⟩;rw [hg] at h3 |-;generalize (World.alloc _ _:World)=w3 at h3 |-;clear x0 x1 x2 x3 x4 x5 x6 y0 y1 y2 y3 lt0 hg;obtain ⟨z0,z1,z2,z3⟩:=ZX (h3.pull 1 _ rfl);have H3:=Zh h3.drew;clear h3;refine Z3 (fun w'=>w'.cell? ⟨g,0,none⟩=some (int i64 id)∧w'.cell? ⟨g,2,none⟩=some (int i64 n)) [0,1,2,4,5,7] [3,6] [8,9] (by kernel_rfl) (by kernel_rfl) (by (exact ⟨z0,z2⟩)) ?_;simp only [pickL,Zg,Zi];repeat (refine Zs _ (Or.inl ⟨by rfl,by (intro w hSw;(try dsimp only at hSw);go_simp;try with_reducible rfl)⟩) ?_;(try go_frame))
      refine ZC ?_;unfold Zp;go_wp2_with fail;have hm:=HM.o;refine (H3.o.var_call id (by omega) (by omega) (by have:=HQL.o;omega)).mono ?_;rintro e w4 ⟨A4,c4,q4,rfl,hq4,h4⟩;have hql4:q4.length<=446:=by
       have:=Zcd id;have:=HQL.o;rw [hq4,ZA];omega
      have HQ4:=Zh hq4;clear z0 z1 z2 z3 hq4;obtain ⟨z0,z1,z2,z3⟩:=ZX (h4.pull 1 _ rfl);have H4:=Zh h4;clear h4 hm;go_wp2;refine Zt ⟨z0,z2⟩ ?_;unfold Zp;go_wp2_with fail;have hm:=HM.o;refine (H4.o.var_call n (by omega) (by omega) (by omega)).mono ?_;rintro e w5 ⟨A5,c5,q5,rfl,hq5,h5⟩;have hql5:q5.length<=455:=by
       have:=Zcd n;rw [hq5,ZA];omega
      have HQ5:=Zh hq5;clear z0 z1 z2 z3 hq5;obtain ⟨z0,z1,z2,z3⟩:=ZX (h5.pull 1 _ rfl);have H5:=Zh h5;clear h5 hm;go_wp2;refine Zt ⟨z0,z2⟩ ?_;unfold Zp;go_wp2_with fail;refine (H5.o.var_call _ (by omega) (by omega) (by omega)).mono ?_;rintro e w6 ⟨A6,c6,q6,rfl,hq6,h6⟩;have hql6:q6.length<=464:=by
       have:=Zcd 0;have:=Zcd 1;rw [hq6,ZA];omega
      have HQ6:=Zh hq6;clear z0 z1 z2 z3 hq6;obtain ⟨z0,z1,z2,z3⟩:=ZX (h6.pull 1 _ rfl);have H6:=Zh h6;clear h6;go_wp2;refine Zu ?_;go_wp2_with fail;have hm:=HM.o;refine (H6.o.text_call s (by omega) (by omega)).mono ?_;rintro e w7 ⟨A7,c7,q7,rfl,hq7,h7⟩;obtain ⟨x0,x1,x2,x3,x4,x5,x6⟩:=ZW (h7.pull 2 _ rfl);have H7:=Zh (h7.pull 1 _ rfl).drop;have HQ7:=Zh hq7;clear z0 z1 z2 z3 hq7 hm h7;go_wp2;go_roundw;case rel =>
       refine ⟨_,_,_,_,_,_,_,_,_,_,_,_,_,_,_,_,_,_,_,_,_,_,_,?_,rfl⟩;exact ⟨i+1,A7,c7,q7,by go_num,by omega,rfl,by rw [K5.o,HQ7.o,HQ6.o,HQ5.o,HQ4.o];unfold mkB;simp only [Zam];rfl,H7.o⟩
      case measure=>simp [intOf]<;>omega
    ·obtain rfl:i=ms.length:=by omega
     have d0:decide (((ms.length:Nat):Int)<(ms.length:Int))=false:=by rw [Zk];omega
     have eR:q=hdR R:=by rw [hq];unfold hdR;rw [<-HRR.o]
     have hby:=HBY.o;rw [show hdP2 R R.marks.length=q by rw [eR];rfl] at hby
     have hse:=ZoV _ q wr (SliceSrc.of_owns hst.row_owns (Zac q)) hby (by omega);have HSE:=Zh hse;have HST:=Zh hst;have HER:=Zh eR;clear hse hst hq eR hby
     go_wp2_with fail;refine HSE.o.mono ?_;rintro e w8 ⟨v8,rfl,hb8,ho8⟩;obtain ⟨q8,hq8⟩:∃ x,q++putB (crcOf q) 4=x:=⟨_,rfl⟩;rw [hq8] at ho8;have hlow:=HST.o.below;have ho9:=Zlf ho8 hlow.size;have hb9:=hlow.trans (hb8.mono hlow.size);obtain ⟨A8,c8,rfl⟩:=ZD ho8;have HQ8:=Zh hq8;have HO:=Zh ho9;have HB:=Zh hb9;clear ho8 hb8 hlow ho9 hb9 hq8;go_wp2;go_ret2;exact ⟨A8,c8,q8,rfl,by unfold recH;rw [<-HER.o];exact HQ8.o.symm,HB.o,HO.o⟩
end
section
theorem Zfa (v:Value) (b rest:List Int) (a:Nat) (n:Int) (w:World) (hs:SliceSrc w 1 v b.length (b.map byteV)) (hb:b.drop a=varB n++rest) (h0:0<=n) (hn:n<9223372036854775808) (hbl:b.length<=1000000) {t:Nat} (ht:a+(varB n).length=t) :
  Calls prog 155 #[v,int i64 a] w fun e w'=>e=.returned (.tuple #[int i64 n,int i64 t,.bool true])∧w=w':=by
 obtain ⟨N,rfl⟩:∃ N:Nat,n=N:=⟨n.toNat,by omega⟩;have:=Zj8 v b rest a N w hs hb (by omega) hbl;rw [ht] at this;exact this
theorem Zhq {b rest:List Int} {a t:Nat} {p q:List Int} (h:b.drop a=(p++q)++rest) (ht:a+p.length=t):b.drop t=q++rest:=by
 rw [<-ht,<-List.drop_drop,h,Zam,Zgx]
theorem ZoW (v:Value) (B rest:List Int) (a t:Nat) (m:Mk) (hdr:B.drop a=mkB m++rest) (ht:a+(mkB m).length=t) (w:World) (hs:SliceSrc w 1 v B.length (B.map byteV)) (hcap:∃ A c,v=slice A B.length c∧B.length<=c) (hn:ZcO m) (hid:1<=m.id∧m.id<=1073741824) (hsz:m.size<=512) (hbl:B.length<=100000) :
  Calls prog 237 #[v,int i64 a] w fun e w'=>e=.returned (.tuple #[.agg #[int i64 m.id,.string m.name,int i64 m.size,.bool m.gone],int i64 t,.bool true])∧Below w.heap.size w w':=by
 have hnm:=Mk.named_size hn;have HS:=Zh hs;have HCAP:=Zh hcap;obtain ⟨A,c,rfl,hcap⟩:=hcap;obtain ⟨t1,ht1⟩:∃ x,a+(varB m.id).length=x:=⟨_,rfl⟩;obtain ⟨t2,ht2⟩:∃ x,t1+(varB (m.size:Int)).length=x:=⟨_,rfl⟩;obtain ⟨t3,ht3⟩:∃ x,t2+(varB (goneI m.gone)).length=x:=⟨_,rfl⟩;have ht4:t3+(textB m.name).length=t:=by
  unfold mkB at ht;simp only [ZA] at ht;omega
 unfold mkB at hdr;have hd1:=Zhq hdr ht1;have hd2:=Zhq hd1 ht2;have hd3:=Zhq hd2 ht3;have hgo:=ZhI m.gone;rw [Zam] at hdr hd1 hd2;have G1:=Zh (fun w hs=>Zfa (slice A B.length c) B _ a m.id w hs hdr (by omega) (by omega) (by omega) ht1);have G2:=Zh (fun w hs=>Zfa (slice A B.length c) B _ t1 m.size w hs hd1 (by omega) (by omega) (by omega) ht2);have G3:=Zh (fun w hs=>Zfa (slice A B.length c) B _ t2 (goneI m.gone) w hs hd2 (by omega) (by omega) (by omega) ht3);have G4:=Zh (fun w hs=>Zl8 (slice A B.length c) B rest t3 m.name 13 w hs hd3 (by omega) (by omega) (by omega) hbl HCAP.o);rw [ht4] at G4;have h1:=((St.init w).alloc (cells #[int i64 0,.string ⟨#[]⟩,int i64 0,.bool false] 66)).alloc (cells #[int i64 0] 3);simp only [Zb2] at h1;obtain ⟨g,hg⟩:∃ g,w.heap.size=g:=⟨_,rfl⟩;rw [hg] at h1;have HG:=Zh hg;have H1:=Zh h1;obtain ⟨id,s,n,b⟩:=m;simp only at *;clear hs hdr hd1 hd2 hd3 ht1 ht2 ht3 ht4 ht h1 hg hn;have i0:∀ w:World,(Instr.index 299 (.agg #[pointer (some ⟨g,0,none⟩),pointer (some ⟨g,2,none⟩),pointer (some ⟨g+1,0,none⟩)]) (int i64 0)).run prog w=.ok (pointer (some ⟨g,0,none⟩)) w:=fun _=>by kernel_rfl
 have i1:∀ w:World,(Instr.index 299 (.agg #[pointer (some ⟨g,0,none⟩),pointer (some ⟨g,2,none⟩),pointer (some ⟨g+1,0,none⟩)]) (int i64 1)).run prog w=.ok (pointer (some ⟨g,2,none⟩)) w:=fun _=>by kernel_rfl
 have i2:∀ w:World,(Instr.index 299 (.agg #[pointer (some ⟨g,0,none⟩),pointer (some ⟨g,2,none⟩),pointer (some ⟨g+1,0,none⟩)]) (int i64 2)).run prog w=.ok (pointer (some ⟨g+1,0,none⟩)) w:=fun _=>by kernel_rfl
 go_enter func237,ntmps237;go_wp2_with fail;rw [HG.o];go_loopw [1,13] (fun a1 a13 wr=>∃ (j p:Nat),a13=int i64 j∧j<=3∧a1=int i64 p∧p=(if j=0 then a else if j=1 then t1 else if j=2 then t2 else t3)∧St w w.hp wr [pt (g+1) (cells #[if 2<j then int i64 (goneI b) else int i64 0] 3),pt g (cells #[if 0<j then int i64 id else int i64 0,.string ⟨#[]⟩,if 1<j then int i64 n else int i64 0,.bool false] 66)]) (fun _ a13 _=>3 - (intOf a13).toNat);case atStart=>exact ⟨0,a,rfl,by omega,rfl,rfl,H1.o⟩
 case round =>
  obtain ⟨j,p,rfl,hj,rfl,hp,hst⟩:=hrel;clear H1;rcases (show j=0∨j=1∨j=2∨j=3 by omega) with rfl|rfl|rfl|rfl
  ·have h6:St w w.hp wr [pt g (cells #[int i64 0,.string ⟨#[]⟩,int i64 0,.bool false] 66),pt (g+1) (cells #[int i64 0] 3)]:=hst.pull 1 _ rfl;obtain rfl:p=a:=hp;obtain ⟨y0,y1,y2,y3⟩:=ZX h6;have f:=frozen_of_row h6.heap;have H7:=Zh ((h6.setCell 0 (int i64 id)).pull 1 _ rfl);have HNU:=Zh (G1.o wr (HS.o.below h6.below));clear h6 hst;go_wp2_with fail;refine HNU.o.mono ?_;clear HNU;rintro e w5 ⟨rfl,rfl⟩;go_wp2;go_roundw;case rel=>exact ⟨1,t1,rfl,by omega,rfl,rfl,H7.o⟩
   case measure=>simp [intOf]
  ·have h6:St w w.hp wr [pt g (cells #[int i64 id,.string ⟨#[]⟩,int i64 0,.bool false] 66),pt (g+1) (cells #[int i64 0] 3)]:=hst.pull 1 _ rfl;obtain rfl:p=t1:=hp;obtain ⟨y0,y1,y2,y3⟩:=ZX h6;have f:=frozen_of_row h6.heap;have H7:=Zh ((h6.setCell 2 (int i64 n)).pull 1 _ rfl);have HNU:=Zh (G2.o wr (HS.o.below h6.below));clear h6 hst;go_wp2_with fail;refine HNU.o.mono ?_;clear HNU;rintro e w5 ⟨rfl,rfl⟩;go_wp2;go_roundw;case rel=>exact ⟨2,t2,rfl,by omega,rfl,rfl,H7.o⟩
   case measure=>simp [intOf]
  ·have h6:St w w.hp wr [pt (g+1) (cells #[int i64 0] 3),pt g (cells #[int i64 id,.string ⟨#[]⟩,int i64 n,.bool false] 66)]:=hst;obtain rfl:p=t2:=hp;have y0:=Zgl h6;have f:=frozen_of_row h6.heap;have H7:=Zh (h6.setCell 0 (int i64 (goneI b)));have HNU:=Zh (G3.o wr (HS.o.below h6.below));clear h6 hst;go_wp2_with fail;refine HNU.o.mono ?_;clear HNU;rintro e w5 ⟨rfl,rfl⟩;go_wp2;go_roundw;case rel=>exact ⟨3,t3,rfl,by omega,rfl,rfl,H7.o⟩
   case measure=>simp [intOf]
  ·have h6:St w w.hp wr [pt (g+1) (cells #[int i64 (goneI b)] 3),pt g (cells #[int i64 id,.string ⟨#[]⟩,int i64 n,.bool false] 66)]:=hst;obtain rfl:p=t3:=hp;have y:=Zgl h6;obtain ⟨y0,y1,y2,y3⟩:=ZX (h6.pull 1 _ rfl);have f:=frozen_of_row (h6.pull 1 _ rfl).heap;have hgb:(goneI b==1)=b:=by cases b <;> rfl
   have h8:St w w.hp (wr.setCell ⟨g,3,none⟩ (.bool b)) [pt g (cells #[int i64 id,.string ⟨#[]⟩,int i64 n,.bool b] 66),pt (g+1) (cells #[int i64 (goneI b)] 3)]:=(h6.pull 1 _ rfl).setCell 3 (.bool b);have HTX:=Zh (G4.o _ (HS.o.below h8.below));have H8:=Zh h8;clear hst i0 i1 i2 h6 h8;go_wp2_with fail;refine HTX.o.mono ?_;rintro e w7 ⟨rfl,hb7⟩;have h9:=H8.o.keep hb7;clear y y0 y1 y2 y3 f hb7 HTX H8;obtain ⟨y0,y1,y2,y3⟩:=ZX h9;have f:=frozen_of_row h9.heap;have H10:=Zh ((h9.setCell 1 (.string s)).set4 (int i64 id) (.string s) (int i64 n) (.bool b));clear h9;go_wp2_with fail;have h10:=H10.o;generalize (World.setCell _ _ _:World)=w9 at h10 |-;clear y0 y1 y2 y3;obtain ⟨y0,y1,y2,y3⟩:=ZX h10;refine ZaK (v:=.tuple #[.agg #[int i64 id,.string s,int i64 n,.bool b],int i64 t,.bool true]) (by simp [results,results237,go_sem,y0,y1,y2,y3]) rfl ?_;exact ⟨rfl,h10.below⟩
end
end Go.Proofs.YtcbdghojlbpomaaGreat
