import Derived.Test.YtcbdghojlbpomaaGreatIF17
set_option linter.all false
set_option maxRecDepth 4000
set_option maxHeartbeats 8000000
open Go.RowKit
open Go.IntKind (i64 u64)
open Go.Value (int pointer slice)
open Go.Obj (cells)
namespace Go.Proofs.YtcbdghojlbpomaaGreat
open Tryz
open HP (pt mapOf)
variable {W w w':World} {I:Hp} {l:List HP}
def numA (a b c d e f:Int) (k:Nat) (v:Value):Array Value :=
 #[if 0<k then int i64 a else int i64 0,if 1<k then int i64 b else int i64 0,if 2<k then int i64 c else int i64 0,if 3<k then int i64 d else int i64 0,if 4<k then int i64 e else int i64 0,if 5<k then int i64 f else int i64 0,v]
theorem Zp1 (a b c d e f:Int) (v:Value) {k:Nat} {x:Int} (h:[a,b,c,d,e,f][k]?=some x):(numA a b c d e f k v).setIfInBounds k (int i64 x)=numA a b c d e f (k+1) v:=by
 have hk:=(ZS.1 h).1;simp only [Zat,ZaH] at hk;rcases (show k=0∨k=1∨k=2∨k=3∨k=4∨k=5 by omega) with rfl|rfl|rfl|rfl|rfl|rfl <;> (simp only [Zg,Zi,Zah] at h;subst h;rfl)
theorem ZqG (a b c d e f:Int) (v:Value) {k:Nat} (hk:k<6):∃ u,(numA a b c d e f k v)[k]?=some u:=by
 rcases (show k=0∨k=1∨k=2∨k=3∨k=4∨k=5 by omega) with rfl|rfl|rfl|rfl|rfl|rfl <;> exact ⟨_,rfl⟩
theorem Zei:(prog.info? 66).map (fun i=>(i.zero,i.size,i.bytes))=some (some (.agg #[int i64 0,.string ⟨#[]⟩,int i64 0,.bool false]),4,40):=by kernel_rfl
section
theorem ZnA (v:Value) (h:Hd) (H:h.Ok) (w:World) (hs:SliceSrc w 1 v (hdR h).length ((hdR h).map byteV)) (hcap:∃ A c,v=slice A (hdR h).length c∧(hdR h).length<=c) :
  Calls prog 212 #[v] w fun e w'=>∃ A c,e=.returned (.tuple #[.agg (h.cells (slice A h.marks.length c)),.bool true])∧St w w.hp w' [HP.row 66 4 (slice A h.marks.length c) h.marks.length (h.marks.flatMap Mk.vals)]:=by
 have HS:=Zh hs;have HCAP:=Zh hcap;obtain ⟨A,c,rfl,hcap⟩:=hcap;have hl:=(Zel H).2;have HN:=Zh (Hd.nums_ok H);have HD1:=Zh (fun k n=>ZpX h (k:=k) (n:=n));have HD2:=Zh (fun k m=>ZpY h (k:=k) (m:=m));have HS1:=Zh (fun k n hn=>congrArg List.length (Zj9 h (k:=k) (n:=n) hn));have HS2:=Zh (fun k m hm=>congrArg List.length (Zka h (k:=k) (m:=m) hm));have HIDS:=Zh H.ids;have HSZ:=Zh H.sizes;have HNM:=Zh H.names;have hnx:=H.next.2;have h17:=H.many;have e72:(hdP1 h 7).length=(hdP2 h 0).length:=by unfold hdP2;simp
 obtain ⟨B,hB⟩:∃ B,hdR h=B:=⟨_,rfl⟩;rw [hB] at HS HCAP hl HD1 HD2 |-;have GV:=Zh (fun (rest:List Int) (a:Nat) (n:Int) (t:Nat) (w:World) (hs:SliceSrc w 1 (slice A B.length c) B.length (B.map byteV)) (hb:B.drop a=varB n++rest) (h0:0<=n) (hn:n<9223372036854775808) (ht:a+(varB n).length=t)=>Zfa (slice A B.length c) B rest a n w hs hb h0 hn (by omega) ht);have GM:=Zh (fun rest a t m w h1 h2 h3 h4 h5 h6=>ZoW (slice A B.length c) B rest a t m h1 h2 w h3 HCAP.o h4 h5 h6 (by omega));have h1:=(((St.init w).alloc (cells (numA 0 0 0 0 0 0 0 (slice none 0 0)) 51)).alloc (cells (numA 0 0 0 0 0 0 0 (slice none 0 0)) 51)).alloc (cells #[int i64 0] 3);simp only [Zb2] at h1;obtain ⟨g,hg⟩:∃ g,w.heap.size=g:=⟨_,rfl⟩;rw [hg] at h1;have HG:=Zh hg;have H1:=Zh h1;obtain ⟨R,hR⟩:∃ R,h=R:=⟨_,rfl⟩;have e0:h.nums=[(h.size:Int),h.l.order,h.l.unit,h.l.count,h.next,h.seq,h.marks.length]:=rfl;rw [hR] at HD1 HD2 HS1 HS2 e72 e0;have HE0:=Zh e0;have HRR:=Zh hR;have HE72:=Zh e72;clear h1 hB hg hs hR e0 e72 H;obtain ⟨sz,⟨o,u,cn⟩,nx,sq,ms⟩:=h;simp only [Hd.cells] at *;have hix:∀ i:Nat,i<6->∀ w:World,(Instr.index 283 (.agg #[pointer (some ⟨g+1,0,none⟩),pointer (some ⟨g+1,1,none⟩),pointer (some ⟨g+1,2,none⟩),pointer (some ⟨g+1,3,none⟩),pointer (some ⟨g+1,4,none⟩),pointer (some ⟨g+1,5,none⟩),pointer (some ⟨g+2,0,none⟩)]) (int i64 i)).run prog w=.ok (pointer (some ⟨g+1,i,none⟩)) w:=by
  have i0:∀ w:World,(Instr.index 283 (.agg #[pointer (some ⟨g+1,0,none⟩),pointer (some ⟨g+1,1,none⟩),pointer (some ⟨g+1,2,none⟩),pointer (some ⟨g+1,3,none⟩),pointer (some ⟨g+1,4,none⟩),pointer (some ⟨g+1,5,none⟩),pointer (some ⟨g+2,0,none⟩)]) (int i64 0)).run prog w=.ok (pointer (some ⟨g+1,0,none⟩)) w:=fun _=>by kernel_rfl
  have i1:∀ w:World,(Instr.index 283 (.agg #[pointer (some ⟨g+1,0,none⟩),pointer (some ⟨g+1,1,none⟩),pointer (some ⟨g+1,2,none⟩),pointer (some ⟨g+1,3,none⟩),pointer (some ⟨g+1,4,none⟩),pointer (some ⟨g+1,5,none⟩),pointer (some ⟨g+2,0,none⟩)]) (int i64 1)).run prog w=.ok (pointer (some ⟨g+1,1,none⟩)) w:=fun _=>by kernel_rfl
  have i2:∀ w:World,(Instr.index 283 (.agg #[pointer (some ⟨g+1,0,none⟩),pointer (some ⟨g+1,1,none⟩),pointer (some ⟨g+1,2,none⟩),pointer (some ⟨g+1,3,none⟩),pointer (some ⟨g+1,4,none⟩),pointer (some ⟨g+1,5,none⟩),pointer (some ⟨g+2,0,none⟩)]) (int i64 2)).run prog w=.ok (pointer (some ⟨g+1,2,none⟩)) w:=fun _=>by kernel_rfl
  have i3:∀ w:World,(Instr.index 283 (.agg #[pointer (some ⟨g+1,0,none⟩),pointer (some ⟨g+1,1,none⟩),pointer (some ⟨g+1,2,none⟩),pointer (some ⟨g+1,3,none⟩),pointer (some ⟨g+1,4,none⟩),pointer (some ⟨g+1,5,none⟩),pointer (some ⟨g+2,0,none⟩)]) (int i64 3)).run prog w=.ok (pointer (some ⟨g+1,3,none⟩)) w:=fun _=>by kernel_rfl
  have i4:∀ w:World,(Instr.index 283 (.agg #[pointer (some ⟨g+1,0,none⟩),pointer (some ⟨g+1,1,none⟩),pointer (some ⟨g+1,2,none⟩),pointer (some ⟨g+1,3,none⟩),pointer (some ⟨g+1,4,none⟩),pointer (some ⟨g+1,5,none⟩),pointer (some ⟨g+2,0,none⟩)]) (int i64 4)).run prog w=.ok (pointer (some ⟨g+1,4,none⟩)) w:=fun _=>by kernel_rfl
  have i5:∀ w:World,(Instr.index 283 (.agg #[pointer (some ⟨g+1,0,none⟩),pointer (some ⟨g+1,1,none⟩),pointer (some ⟨g+1,2,none⟩),pointer (some ⟨g+1,3,none⟩),pointer (some ⟨g+1,4,none⟩),pointer (some ⟨g+1,5,none⟩),pointer (some ⟨g+2,0,none⟩)]) (int i64 5)).run prog w=.ok (pointer (some ⟨g+1,5,none⟩)) w:=fun _=>by kernel_rfl
  intro i hi w;rcases (show i=0∨i=1∨i=2∨i=3∨i=4∨i=5 by omega) with rfl|rfl|rfl|rfl|rfl|rfl
  ·exact i0 w
  ·exact i1 w
  ·exact i2 w
  ·exact i3 w
  ·exact i4 w
  ·exact i5 w
 have i6:∀ w:World,(Instr.index 283 (.agg #[pointer (some ⟨g+1,0,none⟩),pointer (some ⟨g+1,1,none⟩),pointer (some ⟨g+1,2,none⟩),pointer (some ⟨g+1,3,none⟩),pointer (some ⟨g+1,4,none⟩),pointer (some ⟨g+1,5,none⟩),pointer (some ⟨g+2,0,none⟩)]) (int i64 6)).run prog w=.ok (pointer (some ⟨g+2,0,none⟩)) w:=fun _=>by kernel_rfl
 have HIX:=Zh hix;have HI6:=Zh i6;clear hix i6;go_enter func212,ntmps212;go_wp2_with fail;rw [HG.o];go_loopw [6,21] (fun a6 a21 wr=>∃ (i p:Nat),a21=int i64 i∧i<=7∧a6=int i64 p∧p=(hdP1 R i).length∧St w w.hp wr [pt (g+1) (cells (numA sz o u cn nx sq i (slice none 0 0)) 51),pt (g+2) (cells #[if 6<i then int i64 ms.length else int i64 0] 3),pt g (cells (numA 0 0 0 0 0 0 0 (slice none 0 0)) 51)]) (fun _ a21 _=>7 - (intOf a21).toNat);case atStart=>exact ⟨0,0,rfl,by omega,rfl,rfl,H1.o.pull 1 _ rfl⟩
 case round =>
  obtain ⟨i,p,rfl,hi,rfl,hp,hst⟩:=hrel;clear H1;by_cases h6:i<6
  ·have d0:decide ((i:Int)<7)=true:=by rw [Ze];omega
   obtain ⟨x,hx⟩:∃ x,[(sz:Int),o,u,cn,nx,sq][i]?=some x:=⟨_,ZL h6⟩;have hx7:R.nums[i]?=some x:=by
    rw [HE0.o,<-HRR.o];show ([(sz:Int),o,u,cn,nx,sq]++[(ms.length:Int)])[i]?=some x;rw [Zda h6];exact hx
   have hix:=HIX.o i h6;obtain ⟨y,hy⟩:=ZqG (sz:Int) o u cn nx sq (slice none 0 0) h6;have y0:wr.cell? ⟨g+1,i,none⟩=some y:=(Zc hst.heap i).trans hy;have f:=frozen_of_row hst.heap;obtain ⟨rest,hdr⟩:=HD1.o i x hx7;have hl1:=HS1.o i x hx7;rw [ZA,<-hp] at hl1
   have hxb:=HN.o x (by
    show x ∈ ([(sz:Int),o,u,cn,nx,sq]++[(ms.length:Int)])
    exact Zet _ (Zay hx))
   rw [<-hp] at hdr;have h7:=hst.setCell i (int i64 x);rw [Zp1 _ _ _ _ _ _ _ hx] at h7;obtain ⟨t,ht⟩:∃ t,p+(varB x).length=t:=⟨_,rfl⟩;rw [ht] at hl1;have HNU:=Zh (GV.o rest p x t wr (HS.o.below hst.below) hdr (by omega) (by omega) ht);have H7:=Zh h7;have HL:=Zh hl1;have h6m:(if 6<i then (int i64 ms.length:Value) else int i64 0)=int i64 0:=Za (by omega);have h6n:(if 6<i+1 then (int i64 ms.length:Value) else int i64 0)=int i64 0:=Za (by omega);rw [h6m] at H7;clear hst hx hx7 hp hdr hl1 h7 ht hy h6m hxb;go_wp2_with fail;refine HNU.o.mono ?_;clear HNU;rintro e w5 ⟨rfl,rfl⟩;go_wp2;go_roundw;case rel=>exact ⟨i+1,t,by go_num,by omega,rfl,HL.o.symm,by rw [h6n];exact H7.o⟩
   case measure=>simp [intOf]<;>omega
  ·by_cases h67:i=6
   ·subst h67;have hx7:R.nums[6]?=some (ms.length:Int):=by rw [HE0.o,<-HRR.o];rfl
    have hi6:=HI6.o;have h5:=hst.pull 1 _ rfl;have y0:=Zgl h5;simp only [Nat.lt_irrefl,Zau] at y0;have f:=frozen_of_row h5.heap;obtain ⟨rest,hdr⟩:=HD1.o 6 _ hx7;have hl1:=HS1.o 6 _ hx7;rw [ZA,<-hp] at hl1;rw [<-hp] at hdr;have h7:=(h5.setCell 0 (int i64 ms.length)).pull 1 _ rfl;obtain ⟨t,ht⟩:∃ t,p+(varB (ms.length:Int)).length=t:=⟨_,rfl⟩;rw [ht] at hl1;have HNU:=Zh (GV.o rest p (ms.length:Int) t wr (HS.o.below hst.below) hdr (by omega) (by omega) ht);have H7:=Zh h7;have HL:=Zh hl1;clear hst hx7 hp hdr hl1 h7 ht h5;go_wp2_with fail;refine HNU.o.mono ?_;clear HNU;rintro e w5 ⟨rfl,rfl⟩;go_wp2;go_roundw;case rel=>exact ⟨7,t,rfl,by omega,rfl,HL.o.symm,H7.o⟩
    case measure=>simp [intOf]<;>omega
   ·obtain rfl:i=7:=by omega
    have hst2:St w w.hp wr [pt (g+1) (cells #[int i64 sz,int i64 o,int i64 u,int i64 cn,int i64 nx,int i64 sq,slice none 0 0] 51),pt (g+2) (cells #[int i64 ms.length] 3),pt g (cells #[int i64 0,int i64 0,int i64 0,int i64 0,int i64 0,int i64 0,slice none 0 0] 51)]:=hst;rw [HE72.o] at hp;have y:=Zgl (hst2.pull 1 _ rfl);have d1:decide (17<(ms.length:Int))=false:=by rw [Zk];omega
    have h3:=((hst2.pull 1 _ rfl).drop).row_nil 66 4;have H3:=Zh h3;have HP0:=Zh hp;have e7:((7:Nat):Int)=7:=rfl;clear hst hst2 h3 hp;go_wp2;go_loopw [6,41] (fun a6 a41 wr=>∃ (i p m:Nat) (Am:Option Addr) (cm:Nat),a41=int i64 i∧i<=ms.length∧a6=int i64 p∧p=(hdP2 R i).length∧m=(ms.take i).length∧St w w.hp wr [HP.row 66 4 (slice Am m cm) m ((ms.take i).flatMap Mk.vals),pt (g+1) (cells #[int i64 sz,int i64 o,int i64 u,int i64 cn,int i64 nx,int i64 sq,slice Am m cm] 51),pt g (cells #[int i64 0,int i64 0,int i64 0,int i64 0,int i64 0,int i64 0,slice none 0 0] 51)]) (fun _ a41 _=>ms.length - (intOf a41).toNat);case atStart=>exact ⟨0,p,0,none,0,rfl,by omega,rfl,HP0.o,rfl,H3.o⟩
    case round =>
     obtain ⟨i,p,m,Am,cm,rfl,hi,rfl,hp,hm,hst⟩:=hrel;clear H3 HP0;by_cases hlt:i<ms.length
     ·have d0:decide ((i:Int)<(ms.length:Int))=true:=by rw [Ze];omega
      obtain ⟨mk,hmk⟩:∃ m,ms[i]?=some m:=⟨_,ZL hlt⟩;have hmm:=Zay hmk;have hR7:R.marks[i]?=some mk:=by rw [<-HRR.o];exact hmk
      obtain ⟨rest,hdr⟩:=HD2.o i mk hR7;have hl1:=HS2.o i mk hR7;rw [ZA,<-hp] at hl1;rw [<-hp] at hdr;obtain ⟨t,ht⟩:∃ t,p+(mkB mk).length=t:=⟨_,rfl⟩;rw [ht] at hl1;have hst2:=hst.alloc (cells #[int i64 0,.string ⟨#[]⟩,int i64 0,.bool false] 66);have hmi:=HIDS.o mk hmm;have hnu:=GM.o rest p t mk _ hdr ht (HS.o.below hst2.below) (HNM.o mk hmm) (by omega) (HSZ.o mk hmm);have htk:ms.take (i+1)=ms.take i++[mk]:=by
       obtain ⟨hk,he⟩:=ZS.1 hmk;rw [ZbG hk,he]
      obtain ⟨q,hq⟩:∃ q,wr.heap.size=q:=⟨_,rfl⟩;rw [hq] at hst2;obtain ⟨id,s,n,b⟩:=mk;simp only at hnu;have HNU:=Zh hnu;have HST:=Zh hst2;have HL:=Zh hl1;have HTK:=Zh htk;have HQ:=Zh hq;have HMM:=Zh hm;clear hst hst2 hnu hdr hl1 ht htk hq hp hm hR7 hmk hmi;go_wp2_with fail;refine HNU.o.mono ?_;clear HNU;rintro e w5 ⟨rfl,hb5⟩;have h5:=HST.o.keep hb5;clear hb5;rw [HQ.o];obtain ⟨z0,z1,z2,z3⟩:=ZX h5;have f:=frozen_of_row h5.heap;have lt5:=h5.lt;have H6:=Zh (h5.set4 (int i64 id) (.string s) (int i64 n) (.bool b));have hm17:(ms.take i).length<=1000000:=by rw [ZN];omega
      clear h5;go_upto_region 18 with fail;have h6:=H6.o;generalize (World.setCell _ _ _:World)=w6 at h6 |-;clear z0 z1 z2 z3 f lt5 H6;obtain ⟨z0,z1,z2,z3⟩:=ZX h6;obtain ⟨x0,x1,x2,x3,x4,x5,x6⟩:=ZW (h6.pull 2 _ rfl);have h6d:=h6.drop;rw [HMM.o] at h6d;obtain ⟨A7,c7,w7,hr7,h7⟩:=St.row_push (ty:=49) underlying49 Zei rfl (by decide) (by decide) (mk:=Mk.vals) (fun _=>rfl) h6d ⟨id,s,n,b⟩ (fun u hu=>Zb6 [⟨id,s,n,b⟩] u (by simpa using hu)) hm17 #[int i64 id,.string s,int i64 n,.bool b] rfl;obtain ⟨z,hz⟩:∃ z,ms.take i++[⟨id,s,n,b⟩]=z:=⟨_,rfl⟩;rw [hz,<-HMM.o] at hr7;rw [hz] at h7;have HZ:=Zh (HTK.o.trans hz);obtain ⟨v0,v1,v2,v3,v4,v5,v6⟩:=ZW (h7.pull 1 _ rfl);have f7:=frozen_of_row (h7.pull 1 _ rfl).heap;have H8:=Zh (((h7.pull 1 _ rfl).setCell 6 (slice A7 z.length c7)).pull 1 _ rfl);have HR7:=Zh hr7;have H6:=Zh h6;clear h6 h6d h7 hr7 hz hm17;go_wp2_with (at_builtin;refine Zax _ rfl (.tmp 54) (.tmp 56) 49 49 rfl _ _ rfl rfl _ _ HR7.o ?_);go_roundw;case rel =>
       refine ⟨_,_,_,_,_,_,_,_,_,_,_,_,_,_,_,_,_,_,_,_,_,_,_,?_,rfl⟩;refine ⟨i+1,t,z.length,A7,c7,by go_num,by omega,rfl,HL.o.symm,by rw [HZ.o],?_⟩;rw [HZ.o];exact H8.o
      case measure=>simp [intOf]<;>omega
     ·obtain rfl:i=ms.length:=by omega
      have d0:decide (((ms.length:Nat):Int)<(ms.length:Int))=false:=by rw [Zk];omega
      rw [Zbk] at hm hst;subst hm;obtain ⟨x0,x1,x2,x3,x4,x5,x6⟩:=ZW (hst.pull 1 _ rfl);have h3:=hst.pull 2 _ rfl;obtain ⟨y0,y1,y2,y3,y4,y5,y6⟩:=ZW h3;have f:=frozen_of_row h3.heap;have H5:=Zh (h3.set7 (int i64 sz) (int i64 o) (int i64 u) (int i64 cn) (int i64 nx) (int i64 sq) (slice Am ms.length cm));clear h3 hst hp;go_wp2_with fail;have h5:=H5.o;generalize (World.setCell _ _ _:World)=w9 at h5 |-;clear x0 x1 x2 x3 x4 x5 x6 y0 y1 y2 y3 y4 y5 y6;obtain ⟨x0,x1,x2,x3,x4,x5,x6⟩:=ZW h5;refine ZaK (v:=.tuple #[.agg #[int i64 sz,int i64 o,int i64 u,int i64 cn,int i64 nx,int i64 sq,slice Am ms.length cm],.bool true]) (by simp [results,results212,go_sem,x0,x1,x2,x3,x4,x5,x6]) rfl ?_;exact ⟨Am,cm,rfl,((h5.drop).pull 1 _ rfl).drop⟩
end
section
theorem ZoX (v:Value) (h:Hd) (H:h.Ok) (w:World) (hs:SliceSrc w 1 v (recH h).length ((recH h).map byteV)) (hcap:∃ A c,v=slice A (recH h).length c∧(recH h).length<=c) :
  Calls prog 156 #[v] w fun e w'=>∃ A c,e=.returned (.tuple #[.agg (h.cells (slice A h.marks.length c)),int i64 0])∧St w w.hp w' [HP.row 66 4 (slice A h.marks.length c) h.marks.length (h.marks.flatMap Mk.vals)]:=by
 have hrl:=Zel H;have h1:=(St.init w).alloc (cells #[int i64 0,int i64 0,int i64 0,int i64 0,int i64 0,int i64 0,slice none 0 0] 51);have hop:=Znz v (hdR h) (recH h) rfl _ (hs.below (ZM w (cells #[int i64 0,int i64 0,int i64 0,int i64 0,int i64 0,int i64 0,slice none 0 0] 51))) (Zg6 H _) (by omega) (by omega) hcap;have HOP:=Zh hop;have H1:=Zh h1;have HS:=Zh hs;obtain ⟨A,c,rfl,hcap⟩:=hcap;have HPA:=Zh (fun v w hs hc=>ZnA v h H w hs hc);have HPU:=Zh (fun v w hs hc=>Zkd h H v w hs hc);have HRB:=Zh (Znw H);obtain ⟨R,hR⟩:∃ R,hdR h=R:=⟨_,rfl⟩;obtain ⟨B,hB⟩:∃ B,recH h=B:=⟨_,rfl⟩;rw [hR] at HOP hrl HPA;rw [hB] at HOP hrl HS HRB HPU hcap |-;have hm17:=H.many;have HRL:=Zh hrl;clear hrl hop h1 hs H hR hB;obtain ⟨sz,⟨o,u,cn⟩,nx,sq,ms⟩:=h;simp only [Hd.cells] at *;go_enter func156,ntmps156;go_wp2_with fail;refine HOP.o.mono ?_;rintro e w2 ⟨v2,rfl,hb2,ho2⟩;obtain ⟨A2,c2,rfl⟩:=ZD ho2;have hc2:∃ A c,slice A2 R.length c2=slice A R.length c∧R.length<=c:=by
  rcases ho2.2 with ⟨e,e2⟩|⟨g,cap,cur,e,_,_,e2,_⟩
  ·have:=HRL.o;omega
  ·simp only [ZF,ZK] at e;exact ⟨A2,c2,rfl,by omega⟩
 have HPR:=Zh (HPA.o _ w2 (SliceSrc.of_owns ho2 (Zac R)) hc2);have H2:=Zh (H1.o.keep hb2);clear hc2 ho2 hb2;go_wp2_with fail;refine HPR.o.mono ?_;rintro e w3 ⟨A3,c3,rfl,h3⟩;have h4:=H2.o.row_fresh h3.below h3.row_new;obtain ⟨_,c',e3,hcap3⟩:=St.row_slice (mk:=Mk.vals) h4;simp only [ZF,ZK] at e3;obtain ⟨rfl,rfl⟩:=e3;have h5:=(h4.alloc (cells #[int i64 sz,int i64 o,int i64 u,int i64 cn,int i64 nx,int i64 sq,slice A3 ms.length c3] 51)).pull 1 _ rfl;have hpu:=HPU.o (slice A3 ms.length c3) _ (SliceSrc.of_owns h5.row_owns (Zb6 ms)) ⟨A3,c3,rfl,hcap3⟩;have HPT:=Zh hpu;have H5:=Zh h5;clear h3 h4 h5 hpu hcap3;go_wp2_with fail;refine HPT.o.mono ?_;rintro e w6 ⟨A6,c6,q6,rfl,hq6,hb6,ho6⟩;have hq6:=hq6;subst hq6;have h6:=H5.o.keep hb6;have heq:=ZgR (slice A6 q6.length c6) (slice A q6.length c) q6 q6 w6 (SliceSrc.of_owns ho6 (Zac q6)) (HS.o.below h6.below) HRB.o HRB.o;rw [Zcb rfl] at heq;have HEQ:=Zh heq;obtain ⟨x0,x1,x2,x3,x4,x5,x6⟩:=ZW (h6.pull 1 _ rfl);obtain ⟨y0,y1,y2,y3,y4,y5,y6⟩:=ZW (h6.pull 2 _ rfl);have f:=frozen_of_row (h6.pull 2 _ rfl).heap;have H7:=Zh ((h6.pull 2 _ rfl).set7 (int i64 sz) (int i64 o) (int i64 u) (int i64 cn) (int i64 nx) (int i64 sq) (slice A3 ms.length c3));clear h6 heq hb6 ho6;go_wp2_with fail;refine HEQ.o.mono ?_;rintro e w7 ⟨rfl,rfl⟩;go_wp2_with fail;have h7:=H7.o;generalize (World.setCell _ _ _:World)=w9 at h7 |-;clear x0 x1 x2 x3 x4 x5 x6 y0 y1 y2 y3 y4 y5 y6;obtain ⟨x0,x1,x2,x3,x4,x5,x6⟩:=ZW h7;refine ZaK (v:=.tuple #[.agg #[int i64 sz,int i64 o,int i64 u,int i64 cn,int i64 nx,int i64 sq,slice A3 ms.length c3],int i64 0]) (by simp [results,results156,go_sem,x0,x1,x2,x3,x4,x5,x6]) rfl ?_;exact ⟨A3,c3,rfl,(h7.drop.pull 0 _ rfl).pull 1 _ rfl |>.drop⟩
end
theorem ZoY {h:Hd} (H:IdsI h.ids h.newest) {i:Nat} {m:Mk} (hm:h.marks[i]?=some m):lastI h.marks i<m.id:=by
 cases i with
 | zero =>
  have:=H.pos m.id (Zbz (Zay hm));show (0:Int)<m.id;omega
 | succ i =>
  obtain ⟨hi,e⟩:=ZS.1 hm;have h2:h.marks[i]?=some h.marks[i]:=ZL (by omega);rw [ZfM h2,<-e];have h3:=H.inc;unfold Inc Hd.ids at h3;rw [Zia] at h3;have:=h3 i (i+1) (by rw [ZE];omega) (by rw [ZE];omega) (by omega);simpa using this
theorem ZoZ (h:Hd):lastI h.marks h.marks.length=h.newest:=by
 unfold lastI Hd.newest Hd.ids;rw [Zbk,List.getLast?_map]
theorem Zke {α:Type} (p:α->Bool) {l:List α} {i:Nat} {a:α} (hn:(l.take i).find? p=none) (ha:l[i]?=some a):(p a=true->l.find? p=some a)∧(p a=false->(l.take (i+1)).find? p=none):=by
 obtain ⟨hi,e⟩:=ZS.1 ha;refine ⟨fun h=>?_,fun h=>?_⟩
 ·conv=>lhs;rw [<-ZdH i l,ZdI hi,e]
  rw [Zgt,hn,Zic h];rfl
 ·rw [ZbG hi,Zgt,hn,e,Zgv (by rw [h];decide)];rfl
section
theorem ZgS (h:Hd) (H:IdsI h.ids h.newest) (v:Value) (w:World) (hs:SliceSrc w 4 v h.marks.length (h.marks.flatMap Mk.vals)) (h17:h.marks.length<=1000000) :
  Calls prog 98 #[.agg (h.cells v)] w fun e w'=>e=.returned (int i64 h.newest)∧Below w.heap.size w w':=by
 have HS:=Zh hs;obtain ⟨A,c,rfl,_⟩:=hs;have h0:=(St.init w).alloc (cells (h.cells (slice A h.marks.length c)) 51);have HLT:=Zh (fun i m=>ZoY H (i:=i) (m:=m));rw [<-ZoZ h];obtain ⟨sz,⟨o,u,cn⟩,nx,sq,ms⟩:=h;simp only [Hd.cells] at *;have H0:=Zh h0;clear H h0;go_enter func98,ntmps98;go_wp2;go_loopw [3,9] (fun a3 a9 wr=>∃ (i:Nat) (la:Int),a9=int i64 i∧i<=ms.length∧a3=int i64 la∧la=lastI ms i∧St w w.hp wr [pt w.heap.size (cells #[int i64 sz,int i64 o,int i64 u,int i64 cn,int i64 nx,int i64 sq,slice A ms.length c] 51)]) (fun _ a9 _=>ms.length - (intOf a9).toNat);case atStart=>exact ⟨0,0,rfl,by omega,rfl,rfl,H0.o⟩
 case round =>
  obtain ⟨i,la,rfl,hi,rfl,hla,hst⟩:=hrel;by_cases hlt:i<ms.length
  ·have d0:decide ((i:Int)<(ms.length:Int))=true:=by rw [Ze];omega
   obtain ⟨m,hm⟩:∃ m,ms[i]?=some m:=⟨_,ZL hlt⟩;obtain ⟨G,off,c2,e1,hG,hc⟩:=Zco (mk:=Mk.vals) (HS.o.below hst.below) (fun _=>rfl) (by decide) hm;simp only [ZF,ZK] at e1;obtain ⟨rfl,rfl⟩:=e1;have k1:=HLT.o i m hm;have k7:=ZfM hm;rw [<-hla] at k1;obtain ⟨id,s,n,b⟩:=m;have y0:wr.cell? ⟨G,off+i*4,none⟩=some (int i64 id):=hc 0 (by decide);have y1:wr.cell? ⟨G,off+i*4+1,none⟩=some (.string s):=hc 1 (by decide);have y2:wr.cell? ⟨G,off+i*4+2,none⟩=some (int i64 (n:Int)):=hc 2 (by decide);have y3:wr.cell? ⟨G,off+i*4+3,none⟩=some (.bool b):=hc 3 (by decide);have lt0:G<wr.heap.size:=hG;have hst2:=hst.alloc (cells #[int i64 id,.string s,int i64 n,.bool b] 66);have HST:=Zh hst2;simp only at k1 k7;have K7:=Zh k7;clear hc hm hst hst2 k7 hla;by_cases hi0:i=0
   ·subst hi0;simp only [Zb0,Zbg] at y0 y1 y2 y3;go_wp2;go_roundw;case rel=>exact ⟨1,id,by go_num,by omega,rfl,K7.o.symm,HST.o.drop⟩
    case measure=>simp [intOf]<;>omega
   ·have d1:((i:Int)==0)=false:=Zfk.2 (by omega);have d2:decide (la<id)=true:=Zcb k1;go_wp2;go_roundw;case rel=>exact ⟨i+1,id,by go_num,by omega,rfl,K7.o.symm,HST.o.drop⟩
    case measure=>simp [intOf]<;>omega
  ·obtain rfl:i=ms.length:=by omega
   have d0:decide (((ms.length:Nat):Int)<(ms.length:Int))=false:=by rw [Zk];omega
   have HLA:=Zh hla;clear hla;go_wp2;go_ret;rw [HLA.o];exact ⟨rfl,hst.below⟩
theorem Zkf (h:Hd) (v:Value) (w:World) (hs:SliceSrc w 4 v h.marks.length (h.marks.flatMap Mk.vals)) (h17:h.marks.length<=1000) :
  Calls prog 81 #[.agg (h.cells v)] w fun e w'=>∃ A c,e=.returned (slice A h.seen.length c)∧St w w.hp w' [HP.row 66 4 (slice A h.seen.length c) h.seen.length (h.seen.flatMap Mk.vals)]:=by
 have HS:=Zh hs;obtain ⟨A,c,rfl,_⟩:=hs;have h0:=(St.init w).alloc (cells (h.cells (slice A h.marks.length c)) 51);obtain ⟨sz,⟨o,u,cn⟩,nx,sq,ms⟩:=h;simp only [Hd.cells] at *;have H0:=Zh (h0.row_nil 66 4);unfold Hd.seen;simp only;clear h0;go_enter func81,ntmps81;go_wp2;go_loopw [3,9] (fun a3 a9 wr=>∃ (i:Nat) (z:List Mk) (B:Option Addr) (d:Nat),a9=int i64 i∧i<=ms.length∧a3=slice B z.length d∧z=(ms.take i).filter Mk.seen∧St w w.hp wr [HP.row 66 4 (slice B z.length d) z.length (z.flatMap Mk.vals),pt w.heap.size (cells #[int i64 sz,int i64 o,int i64 u,int i64 cn,int i64 nx,int i64 sq,slice A ms.length c] 51)]) (fun _ a9 _=>ms.length - (intOf a9).toNat);case atStart=>exact ⟨0,[],none,0,rfl,by omega,rfl,rfl,H0.o⟩
 case round =>
  obtain ⟨i,z,B,d,rfl,hi,rfl,hz,hst⟩:=hrel;by_cases hlt:i<ms.length
  ·have hzl:z.length<=1000000:=by
    rw [hz];have:=Zbi Mk.seen (ms.take i);rw [ZN] at this;omega
   have d0:decide ((i:Int)<(ms.length:Int))=true:=by rw [Ze];omega
   obtain ⟨m,hm⟩:∃ m,ms[i]?=some m:=⟨_,ZL hlt⟩;obtain ⟨G,off,c2,e1,hG,hc⟩:=Zco (mk:=Mk.vals) (HS.o.below hst.below) (fun _=>rfl) (by decide) hm;simp only [ZF,ZK] at e1;obtain ⟨rfl,rfl⟩:=e1;have htk:ms.take (i+1)=ms.take i++[m]:=by
    obtain ⟨hk,he⟩:=ZS.1 hm;rw [ZbG hk,he]
   have hft:(ms.take (i+1)).filter Mk.seen=if m.seen=true then z++[m] else z:=by
    rw [htk,Zca,<-hz];cases hsn:m.seen <;> simp [hsn]
   obtain ⟨id,s,n,b⟩:=m;have y0:wr.cell? ⟨G,off+i*4,none⟩=some (int i64 id):=hc 0 (by decide);have y1:wr.cell? ⟨G,off+i*4+1,none⟩=some (.string s):=hc 1 (by decide);have y2:wr.cell? ⟨G,off+i*4+2,none⟩=some (int i64 (n:Int)):=hc 2 (by decide);have y3:wr.cell? ⟨G,off+i*4+3,none⟩=some (.bool b):=hc 3 (by decide);have lt0:G<wr.heap.size:=hG;have hst2:=hst.alloc (cells #[int i64 id,.string s,int i64 n,.bool b] 66);have HST:=Zh hst2;have HSE:=Zh (ZfL id s n b);have HFT:=Zh hft;clear hc hm hst hst2 htk hft hz;cases hb:(!b&&!holdN s) with
   | false =>
    rw [hb] at HSE;go_wp2_with fail;refine (HSE.o _).mono ?_;rintro e w4 ⟨rfl,hb4⟩;have H5:=Zh (HST.o.keep hb4).drop;clear hb4;go_wp2;go_roundw;case rel=>exact ⟨i+1,z,B,d,by go_num,by omega,rfl,by rw [HFT.o];exact (Za (by unfold Mk.seen;rw [hb];decide)).symm,H5.o⟩
    case measure=>simp [intOf]<;>omega
   | true =>
    rw [hb] at HSE;go_wp2_with fail;refine (HSE.o _).mono ?_;rintro e w4 ⟨rfl,hb4⟩;have h5:=HST.o.keep hb4;clear hb4 y0 y1 y2 y3;obtain ⟨y0,y1,y2,y3⟩:=ZX h5;obtain ⟨B6,d6,w6,hr6,h6⟩:=St.row_push (ty:=49) underlying49 Zei rfl (by decide) (by decide) (mk:=Mk.vals) (fun _=>rfl) h5.drop ⟨id,s,n,b⟩ (fun u hu=>Zb6 [⟨id,s,n,b⟩] u (by simpa using hu)) hzl #[int i64 id,.string s,int i64 n,.bool b] rfl;obtain ⟨z2,hz2⟩:∃ x,z++[⟨id,s,n,b⟩]=x:=⟨_,rfl⟩;rw [hz2] at hr6 h6;have HZ2:=Zh (((HFT.o.trans (Zb (by unfold Mk.seen;exact hb))).trans hz2));have HR6:=Zh hr6;have H6:=Zh h6;clear h5 h6 hr6 hz2;go_wp2_with (at_builtin;refine Zax _ rfl (.tmp 15) (.tmp 17) 49 49 rfl _ _ rfl rfl _ _ HR6.o ?_);go_roundw;case rel=>exact ⟨i+1,z2,B6,d6,by go_num,by omega,rfl,HZ2.o.symm,H6.o⟩
    case measure=>simp [intOf]<;>omega
  ·obtain rfl:i=ms.length:=by omega
   have d0:decide (((ms.length:Nat):Int)<(ms.length:Int))=false:=by rw [Zk];omega
   rw [Zbk] at hz;have HZ:=Zh hz;clear hz;go_wp2;go_ret;rw [<-HZ.o];exact ⟨B,d,rfl,(hst.pull 1 _ rfl).drop⟩
def mkVal (x:Option Mk):Value:=match x with
 | some m=>.tuple #[.agg #[int i64 m.id,.string m.name,int i64 m.size,.bool m.gone],.bool true]
 | none=>.tuple #[.agg #[int i64 0,.string ⟨#[]⟩,int i64 0,.bool false],.bool false]
theorem find_spec (h:Hd) (nm:ByteArray) (v:Value) (w:World) (hs:SliceSrc w 4 v h.marks.length (h.marks.flatMap Mk.vals)) (h17:h.marks.length<=1000) :
  Calls prog 152 #[.agg (h.cells v),.string nm] w fun e w'=>e=.returned (mkVal (findM h nm))∧Below w.heap.size w w':=by
 have HS:=Zh hs;obtain ⟨A,c,rfl,_⟩:=hs;have h0:=(St.init w).alloc (cells (h.cells (slice A h.marks.length c)) 51);obtain ⟨sz,⟨o,u,cn⟩,nx,sq,ms⟩:=h;simp only [Hd.cells] at *;have H0:=Zh (h0.alloc (cells #[int i64 0,.string ⟨#[]⟩,int i64 0,.bool false] 66));unfold findM;simp only;clear h0;go_enter func152,ntmps152;go_wp2_with fail;have hg0:(w.alloc (cells #[int i64 sz,int i64 o,int i64 u,int i64 cn,int i64 nx,int i64 sq,slice A ms.length c] 51)).heap.size=w.heap.size+1:=Zb2 ..;rw [hg0] at H0;go_loopw [11] (fun a11 wr=>∃ (i:Nat),a11=int i64 i∧i<=ms.length∧(ms.take i).find? (fun m=>m.seen&&decide (m.name=nm))=none∧St w w.hp wr [pt (w.heap.size+1) (cells #[int i64 0,.string ⟨#[]⟩,int i64 0,.bool false] 66),pt w.heap.size (cells #[int i64 sz,int i64 o,int i64 u,int i64 cn,int i64 nx,int i64 sq,slice A ms.length c] 51)]) (fun a11 _=>ms.length - (intOf a11).toNat);case atStart=>exact ⟨0,rfl,by omega,rfl,H0.o⟩
 case round =>
  obtain ⟨i,rfl,hi,hnone,hst⟩:=hrel;by_cases hlt:i<ms.length
  ·have d0:decide ((i:Int)<(ms.length:Int))=true:=by rw [Ze];omega
   obtain ⟨m,hm⟩:∃ m,ms[i]?=some m:=⟨_,ZL hlt⟩;obtain ⟨G,off,c2,e1,hG,hc⟩:=Zco (mk:=Mk.vals) (HS.o.below hst.below) (fun _=>rfl) (by decide) hm;simp only [ZF,ZK] at e1;obtain ⟨rfl,rfl⟩:=e1;have hft:=Zke (fun m:Mk=>m.seen&&decide (m.name=nm)) hnone hm;obtain ⟨id,s,n,b⟩:=m;have y0:wr.cell? ⟨G,off+i*4,none⟩=some (int i64 id):=hc 0 (by decide);have y1:wr.cell? ⟨G,off+i*4+1,none⟩=some (.string s):=hc 1 (by decide);have y2:wr.cell? ⟨G,off+i*4+2,none⟩=some (int i64 (n:Int)):=hc 2 (by decide);have y3:wr.cell? ⟨G,off+i*4+3,none⟩=some (.bool b):=hc 3 (by decide);have lt0:G<wr.heap.size:=hG;have hst2:=hst.alloc (cells #[int i64 id,.string s,int i64 n,.bool b] 66);have HST:=Zh hst2;have HSE:=Zh (ZfL id s n b);have HFT:=Zh hft;clear hc hm hst hst2 hft hnone;cases hb:(!b&&!holdN s) with
   | false =>
    rw [hb] at HSE;go_wp2_with fail;refine (HSE.o _).mono ?_;rintro e w4 ⟨rfl,hb4⟩;have H5:=Zh (HST.o.keep hb4).drop;clear hb4;go_wp2;go_roundw;case rel=>exact ⟨i+1,by go_num,by omega,HFT.o.2 (by unfold Mk.seen;simp only [hb];rfl),H5.o⟩
    case measure=>simp [intOf]<;>omega
   | true =>
    rw [hb] at HSE;by_cases hnm:s=nm
    ·subst hnm;have d1:(s.toList==s.toList)=true:=by rw [Zh1];exact Zcb rfl
     go_wp2_with fail;refine (HSE.o _).mono ?_;rintro e w4 ⟨rfl,hb4⟩;have h5:=HST.o.keep hb4;clear hb4 y0 y1 y2 y3;obtain ⟨y0,y1,y2,y3⟩:=ZX h5;have h6:=h5.pull 1 _ rfl;obtain ⟨z0,z1,z2,z3⟩:=ZX h6;have f:=frozen_of_row h6.heap;have H7:=Zh (h6.set4 (int i64 id) (.string s) (int i64 n) (.bool b));clear h5 h6;go_wp2_with fail;have h7:=H7.o;generalize (World.setCell _ _ _:World)=w9 at h7 |-;clear y0 y1 y2 y3 z0 z1 z2 z3;obtain ⟨z0,z1,z2,z3⟩:=ZX h7;refine ZaK (v:=.tuple #[.agg #[int i64 id,.string s,int i64 n,.bool b],.bool true]) (by simp [results,results152,go_sem,z0,z1,z2,z3]) rfl ?_;rw [HFT.o.1 (by unfold Mk.seen;simp only [hb];simp)];exact ⟨rfl,h7.below⟩
    ·have d1:(s.toList==nm.toList)=false:=Zfd hnm;go_wp2_with fail;refine (HSE.o _).mono ?_;rintro e w4 ⟨rfl,hb4⟩;have h5:=HST.o.keep hb4;clear hb4 y0 y1 y2 y3;obtain ⟨y0,y1,y2,y3⟩:=ZX h5;have H5:=Zh h5.drop;clear h5;go_wp2;go_roundw;case rel=>exact ⟨i+1,by go_num,by omega,HFT.o.2 (by unfold Mk.seen;simp only [hb];simp [hnm]),H5.o⟩
     case measure=>simp [intOf]<;>omega
  ·obtain rfl:i=ms.length:=by omega
   have d0:decide (((ms.length:Nat):Int)<(ms.length:Int))=false:=by rw [Zk];omega
   rw [Zbk] at hnone;have HZ:=Zh hnone;obtain ⟨z0,z1,z2,z3⟩:=ZX hst;have f:=frozen_of_row hst.heap;have H7:=Zh (hst.set4 (int i64 0) (.string ⟨#[]⟩) (int i64 0) (.bool false));clear hnone hst;go_wp2_with fail;have h7:=H7.o;generalize (World.setCell _ _ _:World)=w9 at h7 |-;clear z0 z1 z2 z3;obtain ⟨z0,z1,z2,z3⟩:=ZX h7;refine ZaK (v:=.tuple #[.agg #[int i64 0,.string ⟨#[]⟩,int i64 0,.bool false],.bool false]) (by simp [results,results152,go_sem,z0,z1,z2,z3]) rfl ?_;rw [HZ.o];exact ⟨rfl,h7.below⟩
end
structure IsObjs (l:Ly) (size n:Nat):Prop where
 all:∀ x,x<size->(ZB l x).1<n
 top:n=0∨∃ x,x<size∧(ZB l x).1+1=n
theorem IsObjs.zero (l:Ly):IsObjs l 0 0:=⟨fun x hx=>by omega,.inl rfl⟩
theorem ZnB (l:Ly) (x:Nat):(ZB l x).1=(ZB l (x / l.U*l.U)).1:=by
 have hU:=l.Upos;have h:=Zcl x l.U;have h2:=ZaU x hU;have e:x / l.U*l.U+x % l.U=x:=by rw [Zcc];exact h
 have:=Zjf (l:=l) (x:=x / l.U*l.U) (d:=x % l.U) (by rw [Nat.mul_mod_left];omega);rw [e] at this;rw [this]
theorem IsObjs.unit {l:Ly} {k size n:Nat} (h:IsObjs l (k*l.U) n) (h1:k*l.U<size) (h2:size<=(k+1)*l.U):IsObjs l size (max n ((ZB l (k*l.U)).1+1)):=by
 have hU:=l.Upos;refine ⟨fun x hx=>?_,?_⟩
 ·by_cases e:x<k*l.U
  ·have:=h.all x e;omega
  ·have hk:x / l.U=k:=by
    refine Nat.le_antisymm (Nat.lt_succ_iff.1 ?_) ?_
    ·rw [Nat.div_lt_iff_lt_mul hU];show x<(k+1)*l.U;omega
    ·rw [Nat.le_div_iff_mul_le hU];omega
   rw [ZnB l x,hk];omega
 ·by_cases e:n<=(ZB l (k*l.U)).1+1
  ·exact .inr ⟨k*l.U,h1,by omega⟩
  ·rcases h.top with q|⟨x,hx,q⟩
   ·omega
   ·exact .inr ⟨x,by omega,by omega⟩
structure IsBytes (l:Ly) (size o n:Nat):Prop where
 all:∀ x,x<size->(ZB l x).1=o->(ZB l x).2<n
 top:n=0∨∃ x,x<size∧(ZB l x).1=o∧(ZB l x).2+1=n
theorem ZqH {l:Ly} (h:l.ok) (size o:Nat):IsBytes l size o (ZI l size o):=by
 refine ⟨fun x hx e=>?_,?_⟩
 ·have:=(Zec h (size:=size) (x:=x)).2 hx;rw [e] at this;exact this
 ·by_cases e:ZI l size o=0
  ·exact .inl e
  ·have h1:=ZhE l size o;have h2:=(ZfV h size o (i:=ZI l size o - 1) (by omega)).1 (by omega);refine .inr ⟨_,h2,?_⟩;rw [Znl h (by omega)];exact ⟨rfl,by show ZI l size o - 1+1=_;omega⟩
end Go.Proofs.YtcbdghojlbpomaaGreat
