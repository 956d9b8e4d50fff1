import Derived.Test.YtpjchngjhijgmaaGreatJP12
import Derived.Test.YtpjchngjhijgmaaGreatJP13
set_option linter.all false
set_option maxRecDepth 4000
set_option maxHeartbeats 8000000
open Go.RowKit
open Go.IntKind (i64 u64)
open Go.Value (int pointer slice)
open Go.Obj (cells)
namespace Go.Proofs.YtpjchngjhijgmaaGreat
open Tryz
open HP (pt mapOf)
variable {W w w':World} {I:Hp} {l:List HP}
theorem Zhy {r:Rc} (h:r.Ok):∀ x ∈ recB r,isByte x:=by
 intro x hx;rcases Za6.1 hx with hx|hx
 ·rcases Za6.1 hx with hx|hx
  ·obtain ⟨n,_,hx⟩:=Zcs.1 hx;exact Zdw _ _ x hx
  ·obtain ⟨k,_,hx⟩:=Zcs.1 hx;obtain ⟨n,_,hx⟩:=Zcs.1 hx;exact Zdw _ _ x hx
 ·unfold chainB at hx;rw [h.tags] at hx;exact ZgR h.tags x hx
theorem Zel (r:Rc):(recB r).length=136+(chainB r.tags).length:=by
 unfold recB;rw [Zs,Zfe]
theorem Zkw {l:List Tag} (h:Z3 l=true):1<=(chainB l).length∧(chainB l).length<=2000:=by
 unfold chainB;rw [h];have h1:=Zea l l.length;have h2:=(ZeD h).2;have h3:=(ZfY (l.length:Int)).1;show 1<=(Zax l l.length).length∧(Zax l l.length).length<=2000;refine ⟨?_,by omega⟩;unfold Zax;rw [Zs];omega
theorem Ze8 {r:Rc} (h:r.Ok):(recB r).length<=2136:=by
 have:=Zkw h.tags;rw [Zel];omega
theorem Zq2 (r:Rc) (k:Nat) (n:Int) (h:r.nums[k]?=some n):∃ rest,(recB r).drop (8*k)=putB n 8++rest:=by
 have hk:k<5:=by
  have:=(ZH.1 h).1;simpa [Rc.nums] using this
 have e2:r.nums=r.nums.take k++n::r.nums.drop (k+1):=by
  obtain ⟨hjl,he⟩:=ZH.1 h;rw [<-he,<-ZaS hjl,Zck]
 have e1:recP1 r 5=recP1 r k++(putB n 8++(r.nums.drop (k+1)).flatMap fun n=>putB n 8):=by
  unfold recP1;have h1:r.nums.take 5=r.nums:=by simp [Rc.nums]
  rw [h1];conv=>lhs;rw [e2]
  rw [Zcu,Za0]
 have hl:=Zef r k (by omega);unfold recB recP2;rw [e1];refine ⟨((r.nums.drop (k+1)).flatMap fun n=>putB n 8)++(((List.range 4).flatMap fun k=>clB (clAt r k) 3)++chainB r.tags),?_⟩;rw [<-hl];simp only [ZV,List.drop_left]
theorem Zq3 (r:Rc) (i j:Nat) (n:Int) (hi:i<4) (h:(clAt r i).nums[j]?=some n):∃ rest,(recB r).drop (40+24*i+8*j)=putB n 8++rest:=by
 have hj:j<3:=by
  have:=(ZH.1 h).1;simpa [Cl.nums] using this
 have e2:(clAt r i).nums=(clAt r i).nums.take j++n::(clAt r i).nums.drop (j+1):=by
  obtain ⟨hjl,he⟩:=ZH.1 h;rw [<-he,<-ZaS hjl,Zck]
 have e1:clB (clAt r i) 3=clB (clAt r i) j++(putB n 8++((clAt r i).nums.drop (j+1)).flatMap fun n=>putB n 8):=by
  unfold clB;have h1:(clAt r i).nums.take 3=(clAt r i).nums:=by simp [Cl.nums]
  rw [h1];conv=>lhs;rw [e2]
  rw [Zcu,Za0]
 have e3:∃ rest,recP2 r 4=recP2 r (i+1)++rest:=by
  rcases (show i=0∨i=1∨i=2∨i=3 by omega) with rfl|rfl|rfl|rfl
  ·exact ⟨_,by rw [Zdx r 3,Zdx r 2,Zdx r 1,ZV,ZV]⟩
  ·exact ⟨_,by rw [Zdx r 3,Zdx r 2,ZV]⟩
  ·exact ⟨_,Zdx r 3⟩
  ·exact ⟨[],by rw [Zbc]⟩
 obtain ⟨rest,e3⟩:=e3;have hl:(recP2 r i++clB (clAt r i) j).length=40+24*i+8*j:=by rw [Zs,Zfe,Zc1 _ _ (by omega)]
 unfold recB;rw [e3,Zdx,e1];refine ⟨(((clAt r i).nums.drop (j+1)).flatMap fun n=>putB n 8)++(rest++chainB r.tags),?_⟩;rw [<-hl];have e4:recP2 r i++(clB (clAt r i) j++(putB n 8++((clAt r i).nums.drop (j+1)).flatMap fun n=>putB n 8))++rest++chainB r.tags=(recP2 r i++clB (clAt r i) j)++(putB n 8++((((clAt r i).nums.drop (j+1)).flatMap fun n=>putB n 8)++(rest++chainB r.tags))):=by simp only [ZV]
 rw [e4,List.drop_left]
section
theorem St.set7 {b:Nat} {c0 c1 c2 c3 c4 c5 c6:Value} {t:TypeId} {f:Nat × Nat} (h:St W I w (pt b (cells #[c0,c1,c2,c3,c4,c5,c6] t f)::l)) (v0 v1 v2 v3 v4 v5 v6:Value) :
  St W I (((((((w.setCell ⟨b,0,none⟩ v0).setCell ⟨b,1,none⟩ v1).setCell ⟨b,2,none⟩ v2).setCell ⟨b,3,none⟩ v3).setCell ⟨b,4,none⟩ v4).setCell ⟨b,5,none⟩ v5).setCell ⟨b,6,none⟩ v6) (pt b (cells #[v0,v1,v2,v3,v4,v5,v6] t f)::l):=by
 have h7:=((((((h.setCell 0 v0).setCell 1 v1).setCell 2 v2).setCell 3 v3).setCell 4 v4).setCell 5 v5).setCell 6 v6;simp only [Zf,Zd,Ze] at h7;exact h7
theorem getn8 (v:Value) (b:List Int) (a:Int) (x:Int) (w:World) (hs:SliceSrc w 1 v b.length (b.map byteV)) (hb:∀ x ∈ b,isByte x) (h0:0<=a) (hl:a+8<=b.length) (hbl:b.length<=1000000) (hx:IntKind.i64.wrap (getB ((b.drop a.toNat).take 8))=x) :
  Calls prog 202 #[v,int i64 a,int i64 8] w fun e w'=>∃ n,e=.returned (.tuple #[int u64 n,.bool true])∧IntKind.i64.wrap n=x∧w=w':=by
 obtain ⟨k,rfl⟩:∃ k:Nat,a=k:=⟨a.toNat,by omega⟩;refine (Zfv v b k 8 w hs hb (by decide) (by decide) (by omega) hbl).mono ?_;rintro e w' ⟨rfl,rfl⟩;exact ⟨_,rfl,hx,rfl⟩
theorem ZdO (v:Value) (b rest:List Int) (a:Nat) (x:Int) (w:World) (hs:SliceSrc w 1 v b.length (b.map byteV)) (hb:∀ x ∈ b,isByte x) (hdr:b.drop a=putB x 8++rest) (h0:0<=x) (hx:x<=4611686018427387904) (hbl:b.length<=1000000) :
  Calls prog 182 #[v,int i64 a] w fun e w'=>e=.returned (.tuple #[int i64 x,int i64 (a+8:Nat)])∧w=w':=by
 have hl:a+8<=b.length:=by
  have:=congrArg List.length hdr;rw [ZW,Zs,Zb1] at this;omega
 have hg:=getn8 v b a x w hs hb (by omega) (by omega) hbl (by
  rw [Zeu,hdr,show (putB x 8++rest).take 8=putB x 8 by rw [Zna (by rw [Zb1];omega),Zba (by rw [Zb1];omega)],Zil 8 x h0 (by omega),Zx]
  omega)
 have HG:=Zh hg;obtain ⟨A,c,rfl,_⟩:=hs;clear hg hdr;go_enter func182,ntmps182;go_wp2_with fail;refine HG.o.mono ?_;rintro e w2 ⟨n,rfl,hn,rfl⟩;go_wp2;go_ret2;simp
theorem ZoB:(prog.info? 212).map (fun i=>(i.zero,i.size,i.bytes))=some (some (.agg #[int i64 0,int i64 0,.bool false]),3,24):=by kernel_rfl
theorem St.cls_append {v v2:Value} {n m:Nat} {xs ys:List Value} (ty:TypeId) (h:St W I w (HP.row 212 3 v n xs::l)) (hs:SliceSrc w 3 v2 m ys) (hb:n+m<=1000000000) :
  ∃ v' w',(Builtin.append_ #[103,103] ty #[v,v2]).run prog w=.ok v' w'∧St W I w' (HP.row 212 3 v' (n+m) (xs++ys)::l):=by
 obtain ⟨A,c,rfl,hsrc,hA⟩:=hs;obtain ⟨i0,hi0,hz0,hz1,hz2⟩:=info_parts ZoB;obtain ⟨v',w',hr,ho',hgr,hv'⟩:=Zds (P:=prog) w 0 103 ty 212 i0 _ 3 24 underlying103 hi0 hz0 hz1 hz2 rfl (by decide) v n xs h.row_owns A m c ys hsrc hA (by unfold maxLen;omega) (by omega) (ZL _);exact ⟨v',w',hr,h.row_grown ho' hgr hv'⟩
theorem ZpA {g:Nat} (w:World) (hg:g=w.heap.size) (c:Cl):SliceSrc (w.alloc (cells #[int i64 c.id,int i64 c.pos,.bool c.off] 212)) 3 (slice (some ⟨g,0,none⟩) 1 1) 1 c.vals:=by
 subst hg;refine ⟨_,_,rfl,⟨rfl,fun _=>⟨_,rfl,fun j u hu=>?_⟩,fun u hu=>?_⟩,fun e=>by cases e⟩
 ·rw [add_plain,ZX,Zc (Za3 _ _) j,<-hu];simp [Cl.vals]
 ·simp only [Cl.vals,Z4,Zbv,Zbi] at hu;rcases hu with rfl|rfl|rfl <;> rfl
def Rc.zeroVal:Value:=.agg #[int i64 0,int i64 0,int i64 0,int i64 0,int i64 0,slice none 0 0,slice none 0 0]
theorem Zs3 (v:Value) (r:Rc) (h:St W I w l) (hv:BytesI I v (recB r)) (hr:r.Ok) :
  Calls prog 144 #[v] w fun e w'=>∃ I' vt vc,I.sub I'∧e=.returned (.tuple #[.agg (r.cells vt vc),.bool true])∧recI I' r vt vc∧St W I' w' l:=by
 have h1:=(h.alloc (cells #[int i64 0,int i64 0,int i64 0,int i64 0,int i64 0,slice none 0 0,slice none 0 0] 105)).alloc (cells #[int i64 0,int i64 0,int i64 0,int i64 0,int i64 0,slice none 0 0,slice none 0 0] 105);simp only [Zew] at h1;have hby:=Zhy hr;have hsm:=Ze8 hr;have hlen:=Zel r;have HN:=Zh (Rc.nums_ok hr);have HCA:=Zh (fun i=>ZmB hr.cls i);have HCL:=Zh (Zdu hr.cls);have HCB:=Zh (Zkw hr.tags);have HR:=Zh hr;have HD1:=Zh (Zq2 r);have HD2:=Zh (Zq3 r);obtain ⟨A,c,hvv,h2,h3,_⟩:=hv;have hv:BytesI I v (recB r):=⟨A,c,hvv,h2,h3,by assumption⟩;subst hvv;obtain ⟨B,hB⟩:∃ B,recB r=B:=⟨_,rfl⟩;rw [hB] at hby hsm hlen HD1 HD2 hv h2 h3;have HV:=Zh hv;have HBY:=Zh hby
 have HBB:=Zh hB;have HLEN:=Zh hlen;rw [hB];have H1:=Zh h1;obtain ⟨g,hg⟩:∃ g,w.heap.size=g:=⟨_,rfl⟩;rw [hg] at H1;have HG:=Zh hg;obtain ⟨⟨a,b,sz⟩,fi,st,tags,cls⟩:=r;clear h h1 hby hlen hv h2 hB hg hr;have i0:∀ w:World,(Instr.index 238 (.agg #[pointer (some ⟨g+1,0,none⟩),pointer (some ⟨g+1,1,none⟩),pointer (some ⟨g+1,2,none⟩),pointer (some ⟨g+1,3,none⟩),pointer (some ⟨g+1,4,none⟩)]) (int i64 0)).run prog w=.ok (pointer (some ⟨g+1,0,none⟩)) w:=fun _=>by kernel_rfl
 have i1:∀ w:World,(Instr.index 238 (.agg #[pointer (some ⟨g+1,0,none⟩),pointer (some ⟨g+1,1,none⟩),pointer (some ⟨g+1,2,none⟩),pointer (some ⟨g+1,3,none⟩),pointer (some ⟨g+1,4,none⟩)]) (int i64 1)).run prog w=.ok (pointer (some ⟨g+1,1,none⟩)) w:=fun _=>by kernel_rfl
 have i2:∀ w:World,(Instr.index 238 (.agg #[pointer (some ⟨g+1,0,none⟩),pointer (some ⟨g+1,1,none⟩),pointer (some ⟨g+1,2,none⟩),pointer (some ⟨g+1,3,none⟩),pointer (some ⟨g+1,4,none⟩)]) (int i64 2)).run prog w=.ok (pointer (some ⟨g+1,2,none⟩)) w:=fun _=>by kernel_rfl
 have i3:∀ w:World,(Instr.index 238 (.agg #[pointer (some ⟨g+1,0,none⟩),pointer (some ⟨g+1,1,none⟩),pointer (some ⟨g+1,2,none⟩),pointer (some ⟨g+1,3,none⟩),pointer (some ⟨g+1,4,none⟩)]) (int i64 3)).run prog w=.ok (pointer (some ⟨g+1,3,none⟩)) w:=fun _=>by kernel_rfl
 have i4:∀ w:World,(Instr.index 238 (.agg #[pointer (some ⟨g+1,0,none⟩),pointer (some ⟨g+1,1,none⟩),pointer (some ⟨g+1,2,none⟩),pointer (some ⟨g+1,3,none⟩),pointer (some ⟨g+1,4,none⟩)]) (int i64 4)).run prog w=.ok (pointer (some ⟨g+1,4,none⟩)) w:=fun _=>by kernel_rfl
 go_enter func144,ntmps144;go_wp2_with fail;rw [HG.o];go_loopw [5,23] (fun a5 a23 wr=>∃ (i n:Nat),a23=int i64 i∧i<=5∧a5=int i64 n∧n=8*i∧St W I wr (pt (g+1) (cells #[(if 0<i then int i64 a else int i64 0),(if 1<i then int i64 b else int i64 0),(if 2<i then int i64 sz else int i64 0),(if 3<i then int i64 fi else int i64 0),(if 4<i then int i64 st else int i64 0),slice none 0 0,slice none 0 0] 105)::pt g (cells #[int i64 0,int i64 0,int i64 0,int i64 0,int i64 0,slice none 0 0,slice none 0 0] 105)::l)) (fun _ a23 _=>5 - (intOf a23).toNat);case atStart=>exact ⟨0,0,rfl,by omega,rfl,rfl,H1.o⟩
 case round =>
  obtain ⟨i,n,rfl,hi,rfl,hn,hst⟩:=hrel;clear H1;rcases (show i=0∨i=1∨i=2∨i=3∨i=4∨i=5 by omega) with rfl|rfl|rfl|rfl|rfl|rfl
  ·have h4:St W I wr (pt (g+1) (cells #[int i64 0,int i64 0,int i64 0,int i64 0,int i64 0,slice none 0 0,slice none 0 0] 105)::pt g (cells #[int i64 0,int i64 0,int i64 0,int i64 0,int i64 0,slice none 0 0,slice none 0 0] 105)::l):=hst;have f:=frozen_of_row h4.heap;have y:=Zc h4.heap 0;simp at y;obtain ⟨rest,hdr⟩:=HD1.o 0 a (by rfl);have hb:=HN.o a (by simp [Rc.nums]);have hnu:=ZdO _ B rest (8*0) a wr (ZaW h4 HV.o) HBY.o hdr (by omega) (by omega) (by omega);rw [<-hn] at hnu;obtain ⟨m,hm⟩:∃ m,n+8=m:=⟨_,rfl⟩;rw [hm] at hnu;have HNU:=Zh hnu;have HM:=Zh (show m=8*1 by omega);have H5:=Zh (h4.setCell 0 (int i64 a));clear hnu h4 hst hdr hb hn hm rest;go_wp2_with fail;refine HNU.o.mono ?_;clear HNU;rintro e w5 ⟨rfl,rfl⟩;go_wp2;go_roundw;case rel=>exact ⟨1,m,rfl,by omega,rfl,HM.o,H5.o⟩
   case measure=>simp [intOf]
  ·have h4:St W I wr (pt (g+1) (cells #[int i64 a,int i64 0,int i64 0,int i64 0,int i64 0,slice none 0 0,slice none 0 0] 105)::pt g (cells #[int i64 0,int i64 0,int i64 0,int i64 0,int i64 0,slice none 0 0,slice none 0 0] 105)::l):=hst;have f:=frozen_of_row h4.heap;have y:=Zc h4.heap 1;simp at y;obtain ⟨rest,hdr⟩:=HD1.o 1 b (by rfl);have hb:=HN.o b (by simp [Rc.nums]);have hnu:=ZdO _ B rest (8*1) b wr (ZaW h4 HV.o) HBY.o hdr (by omega) (by omega) (by omega);rw [<-hn] at hnu;obtain ⟨m,hm⟩:∃ m,n+8=m:=⟨_,rfl⟩;rw [hm] at hnu;have HNU:=Zh hnu;have HM:=Zh (show m=8*2 by omega);have H5:=Zh (h4.setCell 1 (int i64 b));clear hnu h4 hst hdr hb hn hm rest;go_wp2_with fail;refine HNU.o.mono ?_;clear HNU;rintro e w5 ⟨rfl,rfl⟩;go_wp2;go_roundw;case rel=>exact ⟨2,m,rfl,by omega,rfl,HM.o,H5.o⟩
   case measure=>simp [intOf]
  ·have h4:St W I wr (pt (g+1) (cells #[int i64 a,int i64 b,int i64 0,int i64 0,int i64 0,slice none 0 0,slice none 0 0] 105)::pt g (cells #[int i64 0,int i64 0,int i64 0,int i64 0,int i64 0,slice none 0 0,slice none 0 0] 105)::l):=hst;have f:=frozen_of_row h4.heap;have y:=Zc h4.heap 2;simp at y;obtain ⟨rest,hdr⟩:=HD1.o 2 sz (by rfl);have hb:=HN.o sz (by simp [Rc.nums]);have hnu:=ZdO _ B rest (8*2) sz wr (ZaW h4 HV.o) HBY.o hdr (by omega) (by omega) (by omega);rw [<-hn] at hnu;obtain ⟨m,hm⟩:∃ m,n+8=m:=⟨_,rfl⟩;rw [hm] at hnu;have HNU:=Zh hnu;have HM:=Zh (show m=8*3 by omega);have H5:=Zh (h4.setCell 2 (int i64 sz));clear hnu h4 hst hdr hb hn hm rest;go_wp2_with fail;refine HNU.o.mono ?_;clear HNU;rintro e w5 ⟨rfl,rfl⟩;go_wp2;go_roundw;case rel=>exact ⟨3,m,rfl,by omega,rfl,HM.o,H5.o⟩
   case measure=>simp [intOf]
  ·have h4:St W I wr (pt (g+1) (cells #[int i64 a,int i64 b,int i64 sz,int i64 0,int i64 0,slice none 0 0,slice none 0 0] 105)::pt g (cells #[int i64 0,int i64 0,int i64 0,int i64 0,int i64 0,slice none 0 0,slice none 0 0] 105)::l):=hst;have f:=frozen_of_row h4.heap;have y:=Zc h4.heap 3;simp at y;obtain ⟨rest,hdr⟩:=HD1.o 3 fi (by rfl);have hb:=HN.o fi (by simp [Rc.nums]);have hnu:=ZdO _ B rest (8*3) fi wr (ZaW h4 HV.o) HBY.o hdr (by omega) (by omega) (by omega);rw [<-hn] at hnu;obtain ⟨m,hm⟩:∃ m,n+8=m:=⟨_,rfl⟩;rw [hm] at hnu;have HNU:=Zh hnu;have HM:=Zh (show m=8*4 by omega);have H5:=Zh (h4.setCell 3 (int i64 fi));clear hnu h4 hst hdr hb hn hm rest;go_wp2_with fail;refine HNU.o.mono ?_;clear HNU;rintro e w5 ⟨rfl,rfl⟩;go_wp2;go_roundw;case rel=>exact ⟨4,m,rfl,by omega,rfl,HM.o,H5.o⟩
   case measure=>simp [intOf]
  ·have h4:St W I wr (pt (g+1) (cells #[int i64 a,int i64 b,int i64 sz,int i64 fi,int i64 0,slice none 0 0,slice none 0 0] 105)::pt g (cells #[int i64 0,int i64 0,int i64 0,int i64 0,int i64 0,slice none 0 0,slice none 0 0] 105)::l):=hst;have f:=frozen_of_row h4.heap;have y:=Zc h4.heap 4;simp at y;obtain ⟨rest,hdr⟩:=HD1.o 4 st (by rfl);have hb:=HN.o st (by simp [Rc.nums]);have hnu:=ZdO _ B rest (8*4) st wr (ZaW h4 HV.o) HBY.o hdr (by omega) (by omega) (by omega);rw [<-hn] at hnu;obtain ⟨m,hm⟩:∃ m,n+8=m:=⟨_,rfl⟩;rw [hm] at hnu;have HNU:=Zh hnu;have HM:=Zh (show m=8*5 by omega);have H5:=Zh (h4.setCell 4 (int i64 st));clear hnu h4 hst hdr hb hn hm rest;go_wp2_with fail;refine HNU.o.mono ?_;clear HNU;rintro e w5 ⟨rfl,rfl⟩;go_wp2;go_roundw;case rel=>exact ⟨5,m,rfl,by omega,rfl,HM.o,H5.o⟩
   case measure=>simp [intOf]
  ·have h4:St W I wr (pt (g+1) (cells #[int i64 a,int i64 b,int i64 sz,int i64 fi,int i64 st,slice none 0 0,slice none 0 0] 105)::pt g (cells #[int i64 0,int i64 0,int i64 0,int i64 0,int i64 0,slice none 0 0,slice none 0 0] 105)::l):=hst;have h5:=(h4.row_nil 212 3).pull 1 _ rfl;have H5:=Zh h5;have HNN:=Zh hn;clear h4 h5 hst hn i0 i1 i2 i3 i4;rw [show ((5:Nat):Int)=5 from rfl];go_wp2;go_loopw [5,35] (fun a5 a35 wr=>∃ (i n m:Nat) (Ac:Option Addr) (cc:Nat),a35=int i64 i∧i<=4∧a5=int i64 n∧n=40+24*i∧m=(cls.take i).length∧St W I wr (pt (g+1) (cells #[int i64 a,int i64 b,int i64 sz,int i64 fi,int i64 st,slice none 0 0,slice Ac m cc] 105)::HP.row 212 3 (slice Ac m cc) m ((cls.take i).flatMap Cl.vals)::pt g (cells #[int i64 0,int i64 0,int i64 0,int i64 0,int i64 0,slice none 0 0,slice none 0 0] 105)::l)) (fun _ a35 _=>4 - (intOf a35).toNat);case atStart=>exact ⟨0,n,0,none,0,rfl,by omega,rfl,HNN.o,rfl,H5.o⟩
   case round =>
    obtain ⟨i,n,m,Ac,cc,rfl,hi,rfl,hn,hm,hst⟩:=hrel;clear H5 HNN;by_cases h4:i<4
    ·have d4:decide ((i:Int)<4)=true:=by rw [Zk];omega
     obtain ⟨⟨cid,cpos,coff⟩,hcc⟩:∃ c,clAt (⟨⟨a,b,sz⟩,fi,st,tags,cls⟩:Rc) i=c:=⟨_,rfl⟩;have hco:=HCA.o i;have hd2:=HD2.o i;rw [hcc] at hco hd2;simp only at hco;have hst2:=(hst.alloc (cells #[int i64 0,int i64 0,.bool false] 212)).alloc (cells #[int i64 0] 3);simp only [Zew] at hst2;obtain ⟨q,hq⟩:∃ q,wr.heap.size=q:=⟨_,rfl⟩;rw [hq] at hst2;have HST:=Zh hst2;have HQ:=Zh hq;have HNN:=Zh hn;have HMM:=Zh hm;have HCO:=Zh hco;have HCC:=Zh hcc;have HDD:=Zh (fun j n h=>hd2 j n h4 h);clear hst hst2 hq hn hm hco hcc hd2;have i0:∀ w:World,(Instr.index 240 (.agg #[pointer (some ⟨q,0,none⟩),pointer (some ⟨q,1,none⟩),pointer (some ⟨q+1,0,none⟩)]) (int i64 0)).run prog w=.ok (pointer (some ⟨q,0,none⟩)) w:=fun _=>by kernel_rfl
     have i1:∀ w:World,(Instr.index 240 (.agg #[pointer (some ⟨q,0,none⟩),pointer (some ⟨q,1,none⟩),pointer (some ⟨q+1,0,none⟩)]) (int i64 1)).run prog w=.ok (pointer (some ⟨q,1,none⟩)) w:=fun _=>by kernel_rfl
     have i2:∀ w:World,(Instr.index 240 (.agg #[pointer (some ⟨q,0,none⟩),pointer (some ⟨q,1,none⟩),pointer (some ⟨q+1,0,none⟩)]) (int i64 2)).run prog w=.ok (pointer (some ⟨q+1,0,none⟩)) w:=fun _=>by kernel_rfl
     go_wp2_with fail;rw [HQ.o];go_loopw [5,40] (fun a5 a40 wr=>∃ (j n2:Nat),a40=int i64 j∧j<=3∧a5=int i64 n2∧n2=40+24*i+8*j∧St W I wr (pt (q+1) (cells #[if 2<j then int i64 (if coff then 1 else 0) else int i64 0] 3)::pt q (cells #[if 0<j then int i64 cid else int i64 0,if 1<j then int i64 cpos else int i64 0,.bool false] 212)::pt (g+1) (cells #[int i64 a,int i64 b,int i64 sz,int i64 fi,int i64 st,slice none 0 0,slice Ac m cc] 105)::HP.row 212 3 (slice Ac m cc) m ((cls.take i).flatMap Cl.vals)::pt g (cells #[int i64 0,int i64 0,int i64 0,int i64 0,int i64 0,slice none 0 0,slice none 0 0] 105)::l)) (fun _ a40 _=>3 - (intOf a40).toNat);case atStart=>exact ⟨0,n,rfl,by omega,rfl,by have:=HNN.o;omega,HST.o⟩
     case round =>
      obtain ⟨j,n2,rfl,hj,rfl,hn2,hst⟩:=hrel;clear HST;rcases (show j=0∨j=1∨j=2∨j=3 by omega) with rfl|rfl|rfl|rfl
      ·have h5:St W I wr (pt (q+1) (cells #[int i64 0] 3)::pt q (cells #[int i64 0,int i64 0,.bool false] 212)::pt (g+1) (cells #[int i64 a,int i64 b,int i64 sz,int i64 fi,int i64 st,slice none 0 0,slice Ac m cc] 105)::HP.row 212 3 (slice Ac m cc) m ((cls.take i).flatMap Cl.vals)::pt g (cells #[int i64 0,int i64 0,int i64 0,int i64 0,int i64 0,slice none 0 0,slice none 0 0] 105)::l):=hst;have h6:=h5.pull 1 _ rfl;have f:=frozen_of_row h6.heap;have y:=Zc h6.heap 0;simp at y;obtain ⟨rest,hdr⟩:=HDD.o 0 cid (by rfl);have hco:=HCO.o;have hnu:=ZdO _ B rest (40+24*i+8*0) cid wr (ZaW h5 HV.o) HBY.o hdr (by omega) (by omega) (by omega);rw [<-hn2] at hnu;obtain ⟨n3,hn3⟩:∃ n3,n2+8=n3:=⟨_,rfl⟩;rw [hn3] at hnu;have HNU:=Zh hnu;have HM:=Zh (show n3=40+24*i+8*1 by omega);have H7:=Zh ((h6.setCell 0 (int i64 cid)).pull 1 _ rfl);clear hnu h5 h6 hst hdr hco hn2 hn3 rest;go_wp2_with fail;refine HNU.o.mono ?_;clear HNU;rintro e w5 ⟨rfl,rfl⟩;go_wp2;go_roundw;case rel=>exact ⟨1,n3,rfl,by omega,rfl,HM.o,H7.o⟩
       case measure=>simp [intOf]
      ·have h5:St W I wr (pt (q+1) (cells #[int i64 0] 3)::pt q (cells #[int i64 cid,int i64 0,.bool false] 212)::pt (g+1) (cells #[int i64 a,int i64 b,int i64 sz,int i64 fi,int i64 st,slice none 0 0,slice Ac m cc] 105)::HP.row 212 3 (slice Ac m cc) m ((cls.take i).flatMap Cl.vals)::pt g (cells #[int i64 0,int i64 0,int i64 0,int i64 0,int i64 0,slice none 0 0,slice none 0 0] 105)::l):=hst;have h6:=h5.pull 1 _ rfl;have f:=frozen_of_row h6.heap;have y:=Zc h6.heap 1;simp at y;obtain ⟨rest,hdr⟩:=HDD.o 1 cpos (by rfl);have hco:=HCO.o;have hnu:=ZdO _ B rest (40+24*i+8*1) cpos wr (ZaW h5 HV.o) HBY.o hdr (by omega) (by omega) (by omega);rw [<-hn2] at hnu;obtain ⟨n3,hn3⟩:∃ n3,n2+8=n3:=⟨_,rfl⟩;rw [hn3] at hnu;have HNU:=Zh hnu;have HM:=Zh (show n3=40+24*i+8*2 by omega);have H7:=Zh ((h6.setCell 1 (int i64 cpos)).pull 1 _ rfl);clear hnu h5 h6 hst hdr hco hn2 hn3 rest;go_wp2_with fail;refine HNU.o.mono ?_;clear HNU;rintro e w5 ⟨rfl,rfl⟩;go_wp2;go_roundw;case rel=>exact ⟨2,n3,rfl,by omega,rfl,HM.o,H7.o⟩
       case measure=>simp [intOf]
      ·have h5:St W I wr (pt (q+1) (cells #[int i64 0] 3)::pt q (cells #[int i64 cid,int i64 cpos,.bool false] 212)::pt (g+1) (cells #[int i64 a,int i64 b,int i64 sz,int i64 fi,int i64 st,slice none 0 0,slice Ac m cc] 105)::HP.row 212 3 (slice Ac m cc) m ((cls.take i).flatMap Cl.vals)::pt g (cells #[int i64 0,int i64 0,int i64 0,int i64 0,int i64 0,slice none 0 0,slice none 0 0] 105)::l):=hst;have h6:=h5;have f:=frozen_of_row h6.heap;have y:=Zc h6.heap 0;simp at y;obtain ⟨rest,hdr⟩:=HDD.o 2 (if coff then 1 else 0) (by rfl);have hco:=HCO.o;have hnu:=ZdO _ B rest (40+24*i+8*2) (if coff then 1 else 0) wr (ZaW h5 HV.o) HBY.o hdr (by split <;> omega) (by split <;> omega) (by omega);rw [<-hn2] at hnu;obtain ⟨n3,hn3⟩:∃ n3,n2+8=n3:=⟨_,rfl⟩;rw [hn3] at hnu;have HNU:=Zh hnu;have HM:=Zh (show n3=40+24*i+8*3 by omega);have H7:=Zh (h6.setCell 0 (int i64 (if coff then 1 else 0)));clear hnu h5 h6 hst hdr hco hn2 hn3 rest;go_wp2_with fail;refine HNU.o.mono ?_;clear HNU;rintro e w5 ⟨rfl,rfl⟩;go_wp2;go_roundw;case rel=>exact ⟨3,n3,rfl,by omega,rfl,HM.o,H7.o⟩
       case measure=>simp [intOf]
      ·have h5:St W I wr (pt (q+1) (cells #[int i64 (if coff then 1 else 0)] 3)::pt q (cells #[int i64 cid,int i64 cpos,.bool false] 212)::pt (g+1) (cells #[int i64 a,int i64 b,int i64 sz,int i64 fi,int i64 st,slice none 0 0,slice Ac m cc] 105)::HP.row 212 3 (slice Ac m cc) m ((cls.take i).flatMap Cl.vals)::pt g (cells #[int i64 0,int i64 0,int i64 0,int i64 0,int i64 0,slice none 0 0,slice none 0 0] 105)::l):=hst;have y:=Zc h5.heap 0;simp at y;have h6:=h5.pull 1 _ rfl;obtain ⟨x0,x1,x2⟩:=Zak h6;have f:=frozen_of_row h6.heap;have hbq:(((if coff then 1 else 0:Int))==1)=coff:=by cases coff <;> rfl
       have h7:=(h6.setCell 2 (.bool coff)).drop.drop;have h8:=h6.setCell 2 (.bool coff);simp only [Zf,Zd,Ze] at h8;have H8:=Zh h8;have HN2:=Zh hn2;clear h5 h6 h7 h8 hst hn2;rw [show ((3:Nat):Int)=3 from rfl];go_upto_region 18 with fail;have h8:=H8.o;generalize (World.setCell _ _ _:World)=w5 at h8 |-;clear H8 x0 x1 x2 f y;obtain ⟨x0,x1,x2⟩:=Zak h8;by_cases hin:i<cls.length
       ·have hget:cls[i]?=some ⟨cid,cpos,coff⟩:=by
         have hcc:=HCC.o;unfold clAt at hcc;rw [Zy hin] at hcc |-;rw [<-hcc];rfl
        have hcid:=(HCL.o.2 _ (ZaG hget)).1;simp only at hcid;have d5:decide (0<cid)=true:=Zt (by omega);have h9:=h8.keep (ZS w5 (cells #[int i64 cid,int i64 cpos,.bool coff] 212));have hml:m<=4:=by have h1:=HMM.o;rw [ZJ] at h1;have:=HCL.o.1;omega
        obtain ⟨v6,w6,hr6,h6⟩:=St.cls_append 103 (h9.pull 3 _ rfl) (ZpA w5 rfl ⟨cid,cpos,coff⟩) (by omega);obtain ⟨A6,c6,rfl⟩:=ZA h6.row_owns;have e6:(cls.take i).flatMap Cl.vals++(⟨cid,cpos,coff⟩:Cl).vals=(cls.take (i+1)).flatMap Cl.vals:=by
         rw [Zb9,hget,Zcu];simp
        have em:m+1=(cls.take (i+1)).length:=by rw [HMM.o,Zb9,hget,Zs];rfl
        rw [e6] at h6;obtain ⟨m2,hm2⟩:∃ m2,m+1=m2:=⟨_,rfl⟩;rw [hm2] at h6 hr6 em;obtain ⟨z0,z1,z2,z3,z4,z5,z6⟩:=ZaC (h8.pull 2 _ rfl);have h7:=(h6.pull 3 _ rfl);have fg:=frozen_of_row h7.heap;obtain ⟨y0,y1,y2,y3,y4,y5,y6⟩:=ZaC h7;have h10:=h7.setCell 6 (slice A6 m2 c6);simp only [Zf,Zd,Ze,ZE,ZF] at h10;have H10:=Zh ((((h10.pull 2 _ rfl).drop).pull 2 _ rfl).drop);have HR6:=Zh hr6;have HEM:=Zh em;have hq2:=(h8.pull 2 _ rfl).lt;clear h8 h9 hr6 h6 h7 h10 e6 em hm2 hget hcid;go_wp2_with (at_builtin;refine ZZ _ rfl (.tmp 59) (.tmp 61) 103 103 rfl _ _ rfl rfl _ _ HR6.o ?_);go_roundw;case rel=>exact ⟨i+1,n2,m2,A6,c6,by go_num,by omega,rfl,by have:=HN2.o;omega,HEM.o,H10.o⟩
        case measure=>simp [intOf]<;>omega
       ·have hget:cls[i]?=none:=ZeX (by omega);have hcid:cid=0:=by
         have hcc:=HCC.o;unfold clAt at hcc;simp only [hget,Option.getD_none,clZ,Cl.mk.injEq] at hcc;exact hcc.1.symm
        subst hcid;have e6:cls.take (i+1)=cls.take i:=by rw [Zb9,hget];simp
        have h10:=(((h8.drop).pull 0 _ rfl));have h10:=((h8.pull 1 _ rfl).drop).drop;have H10:=Zh h10;have HE6:=Zh e6;clear h8 h10 hget e6;go_wp2;go_roundw;case rel=>exact ⟨i+1,n2,m,Ac,cc,by go_num,by omega,rfl,by have:=HN2.o;omega,by rw [HE6.o];exact HMM.o,by rw [HE6.o];exact H10.o⟩
        case measure=>simp [intOf]<;>omega
    ·obtain rfl:i=4:=by omega
     have hm4:cls.take 4=cls:=Zba HCL.o.1;rw [hm4] at hm hst;have hlB:=HLEN.o;have hcb:=HCB.o
     obtain ⟨g0,o0,rfl,hg0,_⟩:=ZgA (A:=A) (n:=B.length) (xs:=B.map byteV) (by
      obtain ⟨A1,c1,e1,hs,_⟩:=ZaW hst HV.o;simp only [Zz,ZaR] at e1;rw [e1.1]
      exact hs) (by omega)
     have hsd:=Zim (ZaW hst HV.o) (show 136<=B.length by omega);rw [Zcj,<-ZeY] at hsd;have hdB:B.drop 136=ZaX tags:=by
      rw [<-HBB.o];unfold recB;rw [show (136:Nat)=(recP2 (⟨⟨a,b,sz⟩,fi,st,tags,cls⟩:Rc) 4).length by rw [Zfe],List.drop_left];unfold chainB;rw [show Z3 tags=true from HR.o.tags];rfl
     rw [hdB] at hsd;have hlc:B.length - 136=(ZaX tags).length:=by rw [<-hdB,ZW]
     rw [hlc] at hsd;have hcg:=ZqZ _ tags wr hsd HR.o.tags;rw [<-hlc] at hcg;have hn136:n=136:=by omega
     subst hn136;have dl:decide ((B.length:Int)<136)=false:=by rw [ZT];omega
     have hin:(136:Int)<=(B.length:Int):=by omega
     have hcl:(136:Int)<=(c:Int):=by omega
     have hne:¬ c=136:=by omega
     have HCG:=Zh hcg;have HST:=Zh hst;have HM:=Zh hm;clear hcg hst hm hsd hdB hlc hcb hn hlB;rw [show ((4:Nat):Int)=4 from rfl,show ((136:Nat):Int)=136 from rfl];go_wp2_with fail;refine HCG.o.mono ?_;rintro e w5 ⟨A5,c5,rfl,h5⟩;obtain ⟨I5,hs5,hR5,h6⟩:=(HST.o.row_fresh h5.below h5.row_new).freeze_row;obtain ⟨I7,hs7,hR7,h7⟩:=(h6.pull 1 _ rfl).freeze_row;obtain ⟨x0,x1,x2,x3,x4,x5,x6⟩:=ZaC h7;have f:=frozen_of_row h7.heap;have h8:=h7.setCell 5 (slice A5 tags.length c5);simp only [Zf,Zd,Ze,ZF] at h8;have H8:=Zh h8;have HSUB:=Zh (hs5.trans hs7);have HRT:=Zh (hR5.mono hs7);have HRC:=Zh hR7;clear h5 h6 h7 h8 hs5 hs7 hR5 hR7;go_upto_region 25 with fail;have h8:=H8.o;generalize (World.setCell _ _ _:World)=w8 at h8 |-;clear H8 x0 x1 x2 x3 x4 x5 x6 f;have HMK:Hid (∀ w',St W I7 w' (pt (g+1) (cells #[int i64 a,int i64 b,int i64 sz,int i64 fi,int i64 st,slice A5 tags.length c5,slice Ac m cc] 105)::pt g (cells #[int i64 0,int i64 0,int i64 0,int i64 0,int i64 0,slice none 0 0,slice none 0 0] 105)::l)->St W I7 w' (pt (g+1) (cells #[int i64 a,int i64 b,int i64 sz,int i64 fi,int i64 st,slice A5 tags.length c5,slice Ac m cc] 105)::pt g (cells #[int i64 0,int i64 0,int i64 0,int i64 0,int i64 0,slice none 0 0,slice none 0 0] 105)::l)∧w'.cell? ⟨g+1,0,none⟩=some (int i64 a)∧w'.cell? ⟨g+1,1,none⟩=some (int i64 b)∧w'.cell? ⟨g+1,2,none⟩=some (int i64 sz)∧w'.cell? ⟨g+1,3,none⟩=some (int i64 fi)∧w'.cell? ⟨g+1,4,none⟩=some (int i64 st)∧w'.cell? ⟨g+1,5,none⟩=some (slice A5 tags.length c5)∧w'.cell? ⟨g+1,6,none⟩=some (slice Ac m cc)):=Zh fun w' h=>⟨h,ZaC h⟩;have HRR:=Zh (Zgb ⟨a,b,sz⟩);rw [show (⟨a,b,sz⟩:Rg).okB=true from HR.o.shape] at HRR;have HRC2:=Zh (show RowI I7 3 (slice Ac m cc) cls.length (cls.flatMap Cl.vals) by rw [<-HM.o];exact HRC.o);have HH8:=Zh h8;clear h8;refine Zca (fun w'=>St W I7 w' (pt (g+1) (cells #[int i64 a,int i64 b,int i64 sz,int i64 fi,int i64 st,slice A5 tags.length c5,slice Ac m cc] 105)::pt g (cells #[int i64 0,int i64 0,int i64 0,int i64 0,int i64 0,slice none 0 0,slice none 0 0] 105)::l)∧w'.cell? ⟨g+1,0,none⟩=some (int i64 a)∧w'.cell? ⟨g+1,1,none⟩=some (int i64 b)∧w'.cell? ⟨g+1,2,none⟩=some (int i64 sz)∧w'.cell? ⟨g+1,3,none⟩=some (int i64 fi)∧w'.cell? ⟨g+1,4,none⟩=some (int i64 st)∧w'.cell? ⟨g+1,5,none⟩=some (slice A5 tags.length c5)∧w'.cell? ⟨g+1,6,none⟩=some (slice Ac m cc)) [(0,false),(1,false),(2,false),(3,false),(4,false),(5,false),(6,false),(7,false),(8,false),(9,false),(10,false),(11,false),(12,true)] [] [13,14] (by kernel_rfl) (by kernel_rfl) (by (intro w' hb;exact HMK.o _ (HH8.o.drew.keep hb))) ?_;repeat (first|refine ZaH (by rfl) _ (by rfl) (by intro w;go_simp;try with_reducible rfl) ?_|refine ZaK (by rfl) _ (by rfl) (by (intro w hSw;(try dsimp only at hSw);go_simp;try with_reducible rfl)) ?_|refine ZaI (by rfl) (by rfl) ?_|fail);(try go_frame)
     refine Zb2 (by rfl) (.bool true) (88) (#[.agg #[int i64 a,int i64 b,int i64 sz]]) (by rfl) (by intro w;go_simp;try with_reducible rfl) (by (rintro w1 ⟨h1,_⟩;exact HRR.o w1)) ?_
     (try go_frame)
     repeat (first|refine ZaH (by rfl) _ (by rfl) (by intro w;go_simp;try with_reducible rfl) ?_|refine ZaK (by rfl) _ (by rfl) (by (intro w hSw;(try dsimp only at hSw);go_simp;try with_reducible rfl)) ?_|refine ZaI (by rfl) (by rfl) ?_|fail);(try go_frame)
     refine Zb2 (by rfl) (.bool true) (157) (#[slice Ac m cc]) (by rfl) (by intro w;go_simp;try with_reducible rfl) (by (rintro w1 ⟨h1,_⟩;exact (Zg2 _ cls h1 HRC2.o (by have:=HCL.o.1;omega)).mono (by rintro e w' ⟨rfl,hb⟩;exact ⟨by rw [HR.o.cls],hb⟩))) ?_
     (try go_frame)
     repeat (first|refine ZaH (by rfl) _ (by rfl) (by intro w;go_simp;try with_reducible rfl) ?_|refine ZaK (by rfl) _ (by rfl) (by (intro w hSw;(try dsimp only at hSw);go_simp;try with_reducible rfl)) ?_|refine ZaI (by rfl) (by rfl) ?_|fail);(try go_frame)
     refine Zce ?_;refine ZdD ?_;rintro w9 hz9;have h9:=HH8.o.drew.keep hz9.below;clear hz9;obtain ⟨y0,y1,y2,y3,y4,y5,y6⟩:=ZaC h9;have f9:=frozen_of_row (h9.pull 1 _ rfl).heap;obtain ⟨z0,z1,z2,z3,z4,z5,z6⟩:=ZaC (h9.pull 1 _ rfl);have HH9:=Zh h9;clear h9;go_wp2;refine Zw ?_;have h10:=((HH9.o.pull 1 _ rfl).set7 (int i64 a) (int i64 b) (int i64 sz) (int i64 fi) (int i64 st) (slice A5 tags.length c5) (slice Ac m cc));generalize (World.setCell _ _ _:World)=w10 at h10 |-;clear y0 y1 y2 y3 y4 y5 y6 z0 z1 z2 z3 z4 z5 z6 f9 HH9;obtain ⟨z0,z1,z2,z3,z4,z5,z6⟩:=ZaC h10;have H10:=Zh h10;clear h10;go_wp2;refine Zaj (v:=.tuple #[.agg #[int i64 a,int i64 b,int i64 sz,int i64 fi,int i64 st,slice A5 tags.length c5,slice Ac m cc],.bool true]) (by simp [results,results144,go_sem,z0,z1,z2,z3,z4,z5,z6]) rfl ?_;exact ⟨I7,slice A5 tags.length c5,slice Ac m cc,HSUB.o,rfl,⟨HRT.o,HRC2.o⟩,(H10.o.drop).drop⟩
end
def HP.win (e:TypeId) (size:Nat) (v:Value) (n:Nat) (xs:List Value):HP :=
 ⟨fun _ h=>xs.length=n*size∧((v=slice none 0 0∧n=0) ∨
  ∃ g q cap cur,v=slice (some ⟨g,q,none⟩) n cap∧h g=some (cells cur e (0,0))∧n<=cap∧cap<=maxLen∧q+cap*size<=cur.size∧(cur.toList.drop q).take (n*size)=xs),fun _ q=>q⟩
section
variable {e : TypeId} {size : Nat} {v v' : Value} {n n' : Nat} {xs xs' : List Value}
theorem St.win_open (h:St W I w (HP.win e size v n xs::l)):xs.length=n*size∧((v=slice none 0 0∧n=0∧St W I w l) ∨
  ∃ g q cap cur,v=slice (some ⟨g,q,none⟩) n cap∧n<=cap∧cap<=maxLen∧q+cap*size<=cur.size∧(cur.toList.drop q).take (n*size)=xs∧St W I w (pt g (cells cur e (0,0))::l)):=by
 have hd:=h.drop;obtain ⟨k,a,d,h1,h2,d',a',b',⟨hl,p⟩,q⟩:=h.own;refine ⟨hl,?_⟩;rcases p with ⟨p1,p2⟩|⟨g,o,cap,cur,p1,p2,p3,p4,p5,p6⟩
 ·exact .inl ⟨p1,p2,hd⟩
 ·exact .inr (⟨g,o,cap,cur,p1,p3,p4,p5,p6,h.os,h.tape,h.output,h.base,h.imm,k,a,d,h1,h2,d',a',b',p2,q⟩)
theorem St.win_nil (h:St W I w l) (e:TypeId) (size:Nat):St W I w (HP.win e size (slice none 0 0) 0 []::l) :=
 h.imp fun k c=>⟨Hp.nil,k,(Hp.disj_nil _).symm,Hp.nil_sub _,Hp.sub.refl _,⟨by simp,.inl ⟨rfl,rfl⟩⟩,c⟩
theorem St.win_shut {g q cap:Nat} {cur:Array Value} (h:St W I w (pt g (cells cur e (0,0))::l)) (hx:xs.length=n*size) (hn:n<=cap) (hc:cap<=maxLen) (hs:q+cap*size<=cur.size) (ht:(cur.toList.drop q).take (n*size)=xs) :
  St W I w (HP.win e size (slice (some ⟨g,q,none⟩) n cap) n xs::l) :=
 h.imp fun _ ⟨h1,h2,d',a',b',p2,r⟩=>⟨h1,h2,d',a',b',⟨hx,.inr ⟨g,q,cap,cur,rfl,p2,hn,hc,hs,ht⟩⟩,r⟩
theorem St.win_of_row (h:St W I w (HP.row e size v n xs::l)):St W I w (HP.win e size v n xs::l):=by
 obtain ⟨hl,p⟩:=h.row_open;rcases p with ⟨rfl,rfl,s⟩|⟨g,cap,cur,rfl,p3,p4,p5,p6,s⟩
 ·simp at hl;subst hl;exact s.win_nil e size
 ·exact s.win_shut hl p3 p4 (by omega) (by simpa using p6)
theorem St.win_len (h:St W I w (HP.win e size v n xs::l)):xs.length=n*size:=h.win_open.1
theorem St.win_slice (h:St W I w (HP.win e size v n xs::l)):∃ A c,v=slice A n c∧n<=c∧c<=maxLen∧(A=none->c=0):=by
 obtain ⟨hl,p⟩:=h.win_open;rcases p with ⟨rfl,rfl,s⟩|⟨g,q,cap,cur,rfl,p3,p4,p5,p6,s⟩
 ·exact ⟨_,_,rfl,ZC _,by unfold maxLen;omega,fun _=>rfl⟩
 ·exact ⟨_,_,rfl,p3,p4,fun e=>by cases e⟩
theorem St.win_cell (h:St W I w (HP.win e size v n xs::l)) (hn:0<xs.length):∃ g q c,v=slice (some ⟨g,q,none⟩) n c∧g<w.heap.size∧n<=c∧∀ j u,xs[j]?=some u->w.cell? ⟨g,q+j,none⟩=some u:=by
 obtain ⟨hl,p⟩:=h.win_open;rcases p with ⟨rfl,rfl,s⟩|⟨g,q,cap,cur,rfl,p3,p4,p5,p6,s⟩
 ·simp at hl;subst hl;simp at hn
 ·refine ⟨g,q,cap,rfl,s.lt,p3,fun j u hu=>?_⟩;rw [Zc s.heap,<-hu,<-p6];have hj:j<n*size:=by
   have:=(ZH.1 hu).1;omega
  rw [Ze0 hj,Zbw,Zm7]
theorem St.win_src (h:St W I w (HP.win e size v n xs::l)) (h1:∀ u ∈ xs,u.oneCell'=true) (hs:0<size):SliceSrc w size v n xs:=by
 have hl:=h.win_len;obtain ⟨A,c,rfl,_,_,hA⟩:=h.win_slice;refine ⟨A,c,rfl,⟨hl,fun hn=>?_,h1⟩,hA⟩;obtain ⟨g,q,c',e1,_,_,hc⟩:=h.win_cell (by rw [hl];exact Nat.mul_pos hn hs);simp only [Zz] at e1;refine ⟨_,e1.1,fun j u hu=>?_⟩;rw [add_plain];exact hc j u hu
theorem Zq4 {cur ys xs:List Value} {q a:Nat} (hx:(cur.drop q).take a=xs) (ha:xs.length=a) (hfit:q+a+ys.length<=cur.length) :
  ((cur.take (q+a)++ys++cur.drop (q+a+ys.length)).drop q).take (a+ys.length)=xs++ys:=by
 have h1:cur.take (q+a)=cur.take q++xs:=by rw [List.take_add,hx]
 have h2:(cur.take q).length=q:=by rw [ZJ];omega
 rw [h1,ZV,ZV];rw [List.drop_append_of_le_length (by omega),List.drop_eq_nil_of_le (by omega),Zu,<-ZV];rw [Zna (by simp;omega),Zba (by simp;omega)]
theorem St.win_append {t ty:TypeId} {i:TypeInfo} {z:Value} {bytes m:Nat} {v2:Value} {ys:List Value} (h:St W I w (HP.win e size v n xs::l)) (ht:prog.underlying t=some (.slice e)) (hi:prog.info? e=some i) (hz:i.zero=some z)
  (hsize:i.size=size) (hby:i.bytes=bytes) (hzs:z.cells.size=size) (hsz:0<size) (hbb:bytes<=100) (h1:∀ u ∈ xs,u.oneCell'=true) (hs:SliceSrc w size v2 m ys) (hb:n+m<=1000000000) :
  ∃ v' w',(Builtin.append_ #[t,t] ty #[v,v2]).run prog w=.ok v' w'∧St W I w' (HP.win e size v' (n+m) (xs++ys)::l):=by
 have hbytes:(n+m)*bytes<=140737488355328:=Zaw (Nat.mul_le_mul hb hbb) (by omega);obtain ⟨hl,p⟩:=h.win_open;have hsrc0:=h.win_src h1 hsz;rcases p with ⟨rfl,rfl,s⟩|⟨g,q,cap,cur,rfl,p3,p4,p5,p6,s⟩
 ·simp at hl;subst hl;obtain ⟨A,c,rfl,hsrc,hA⟩:=hs;have h0:=s.row_nil e size;obtain ⟨v',w',hr,ho',hgr,hv'⟩:=Zds (P:=prog) w 0 t ty e i z size bytes ht hi hz hsize hby hzs hsz _ 0 [] h0.row_owns A m c ys hsrc hA (by unfold maxLen;omega) hbytes (ZL _);exact ⟨v',w',hr,(h0.row_grown ho' hgr hv').win_of_row⟩
 ·obtain ⟨A,c,rfl,hsrc,hA⟩:=hs;subst hsize;cases A with
  | none =>
   have hm:m=0:=by
    rcases ZbF m with h|h
    ·exact h
    ·obtain ⟨_,e,_⟩:=hsrc.cells h;cases e
   subst hm;have hy:ys=[]:=Zcq (by rw [hsrc.len,ZcE]);subst hy;refine ⟨_,w,?_,by simpa using h⟩;have hst:∀ a:Addr,Sem.run prog (Go.storeCells a []) w=.ok () w:=fun _=>rfl;simp [hst,Builtin.append_,Zbh ht,sizeOf,typeInfo,hi,Builtin.lenOf,Builtin.firstCells,p3]
  | some ad =>
   have hnews:∀ j u,ys[j]?=some u->w.cell? (ad.add j)=some u:=fun j u hu=>by
    have hm:0<m:=by
     rcases ZbF m with h|h
     ·subst h;have:ys=[]:=Zcq (by rw [hsrc.len,ZcE]);subst this;cases hu
     ·exact h
    obtain ⟨_,e,hc⟩:=hsrc.cells hm;cases e;exact hc j u hu
   by_cases hroom:n+m<=cap
   ·have hfit:q+n*i.size+ys.length<=cur.size:=by
     have:=Zdb i.size hroom;rw [ZcK] at this;rw [hsrc.len];omega
    have hf:=run_firstCells_some (P:=prog) w i.size m ad m c ys hsrc.len hnews;have hst:=run_storeCells_at prog g (q+n*i.size) e ys 0 cur w s.heap (by simpa using hfit) hsrc.one;simp only [ZaP] at hst;refine ⟨_,w.setRow g (cur.toList.take (q+n*i.size)++ys++cur.toList.drop (q+n*i.size+ys.length)).toArray,?_,(s.write (w':=w.setRow g (cur.toList.take (q+n*i.size)++ys++cur.toList.drop (q+n*i.size+ys.length)).toArray) (o':=cells (cur.toList.take (q+n*i.size)++ys++cur.toList.drop (q+n*i.size+ys.length)).toArray e (0,0)) rfl rfl rfl (setRow_heap w g cur _ e _ s.heap) (fun c hc hcg=>setRow_other w g c _ hcg)).win_shut (n:=n+m) (q:=q) (cap:=cap) ?_ hroom p4 ?_ ?_⟩
    ·simp [Builtin.append_,Zbh ht,sizeOf,typeInfo,hi,Builtin.lenOf,hroom,hf,Addr.add_lit,hst]
    ·rw [Zs,hl,hsrc.len,ZcK]
    ·simp only [ZcF,Zs,ZJ,ZW,Zfz];omega
    ·have h9:=Zq4 (ys:=ys) p6 hl (by rw [Zfz];exact hfit);rw [hsrc.len] at h9;rw [ZcK,hsrc.len];exact h9
   ·have hold:∀ j u,xs[j]?=some u->w.cell? ((⟨g,q,none⟩:Addr).add j)=some u:=fun j u hu=>by
     obtain ⟨A0,c0,e1,hc,_⟩:=hsrc0;have hlt:=(ZH.1 hu).1;have hn0:0<n:=by
      rcases ZbF n with h|h
      ·subst h;rw [ZcE] at hl;omega
      ·exact h
     obtain ⟨ad',e2,hc'⟩:=hc.cells hn0;simp only [Zz] at e1;rw [<-e1.1] at e2;cases e2;exact hc' j u hu
    have hr:=run_append_grow (P:=prog) w t ty e i z ht hi hz ⟨g,q,none⟩ n cap xs hl hold ad m c ys hsrc.len hnews (by omega) (by omega) (growslice_fits (by omega) (by rw [hby];exact hbytes));refine ⟨_,_,hr,?_⟩;have s2:=(s.drop.drew).alloc (cells (xs.toArray++ys.toArray++Builtin.zeroCells z.cells (grownCap w (n+m) cap e - (n+m))) e);have hge:=grownCap_ge w (n+m) cap e;have hcm:grownCap w (n+m) cap e<=maxLen:=grownCap_le_maxLen w (n+m) cap e (by unfold maxLen;omega);have hlen:(xs++ys).length=(n+m)*i.size:=by rw [Zs,hl,hsrc.len,ZcK]
    refine s2.win_shut (q:=0) hlen hge hcm ?_ ?_
    ·simp only [ZiL,ZcF,size_zeroCells,hzs,hl,hsrc.len,<-ZcK,ZX];exact Zdb _ (by omega)
    ·simp only [Array.toList_append,ZV,Zdo];rw [<-ZV,<-hlen];exact Zer
theorem St.win_take {A:Option Addr} {c k:Nat} (h:St W I w (HP.win e size (slice A n c) n xs::l)) (hk:k<=n):St W I w (HP.win e size (slice A k c) k (xs.take (k*size))::l):=by
 obtain ⟨hl,p⟩:=h.win_open;rcases p with ⟨e1,rfl,s⟩|⟨g,q,cap,cur,e1,p3,p4,p5,p6,s⟩
 ·simp only [Zz] at e1;obtain ⟨rfl,_,rfl⟩:=e1;obtain rfl:k=0:=by omega
  simpa using s.win_nil e size
 ·simp only [Zz,ZaR] at e1;obtain ⟨rfl,rfl⟩:=e1;have hks:=Zdb size hk;refine s.win_shut ?_ (by omega) p4 p5 ?_
  ·rw [ZJ,hl];omega
  ·rw [<-p6,Zc9,ZcJ hks]
theorem St.win_drop {g q c k:Nat} (h:St W I w (HP.win e size (slice (some ⟨g,q,none⟩) n c) n xs::l)) (hk:k<=n):St W I w (HP.win e size (slice (some ⟨g,q+k*size,none⟩) (n - k) (c - k)) (n - k) (xs.drop (k*size))::l):=by
 obtain ⟨hl,p⟩:=h.win_open;rcases p with ⟨e1,_,_⟩|⟨g',q',cap,cur,e1,p3,p4,p5,p6,s⟩
 ·cases e1
 ·simp only [Zz,Zaa,Addr.mk.injEq,Zap,ZaR] at e1;obtain ⟨⟨rfl,rfl⟩,rfl⟩:=e1;have hks:=Zdb size hk;have hkc:=Zdb size (Zaw hk p3);refine s.win_shut ?_ (by omega) (by omega) ?_ ?_
  ·rw [ZW,hl,ZfM]
  ·rw [ZfM];omega
  ·rw [<-p6,List.drop_take,List.drop_drop,ZfM]
end
end Go.Proofs.YtpjchngjhijgmaaGreat
