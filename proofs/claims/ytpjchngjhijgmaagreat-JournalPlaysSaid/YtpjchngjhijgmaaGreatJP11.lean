import Derived.Test.YtpjchngjhijgmaaGreatJP10
set_option linter.all false
set_option maxRecDepth 4000
set_option maxHeartbeats 8000000
open Go.RowKit
open Go.IntKind (i64 u64)
open Go.Value (int pointer slice)
open Go.Obj (cells)
namespace Go.Proofs.YtpjchngjhijgmaaGreat
open Tryz
open HP (pt mapOf)
variable {W w w':World} {I:Hp} {l:List HP}
theorem Zpy {t:Tag} (h:∀ x ∈ t.nums,0<=x∧x<=1099511627776) (k:Nat):∀ x ∈ tagB t k,isByte x:=by
 intro x hx;obtain ⟨y,hy,hx⟩:=Zcs.1 hx;exact Zkv (by have:=h y (ZbI hy);omega) x hx
theorem ZgR {l:List Tag} (h:Z3 l=true):∀ x ∈ ZaX l,isByte x:=by
 intro x hx;rcases Za6.1 hx with hx|hx
 ·exact Zkv (by have:=ZeD h;omega) x hx
 ·obtain ⟨t,ht,hx⟩:=Zcs.1 hx;exact Zpy (Zhj h t (ZbI ht)) 4 x hx
theorem Znu {l:List Tag} {i:Nat} {t:Tag} (h:l[i]?=some t) (j:Nat) (hj:j<4):∃ y rest,t.nums[j]?=some y∧(ZaX l).drop (Zax l i++tagB t j).length=varB y++rest:=by
 obtain ⟨y,hy⟩:∃ y,t.nums[j]?=some y:=⟨_,Zy (by simpa [Tag.nums] using hj)⟩;have hil:=(ZH.1 h).1;have e1:ZaX l=Zax l (i+1)++(l.drop (i+1)).flatMap fun t=>tagB t 4:=by
  unfold ZaX Zax;rw [ZV,<-Zcu,Zck,ZbJ]
 have e2:tagB t 4=tagB t j++(varB y++(t.nums.drop (j+1)).flatMap varB):=by
  unfold tagB;have h1:t.nums.take 4=t.nums:=by simp [Tag.nums]
  have h2:t.nums=t.nums.take j++y::t.nums.drop (j+1):=by
   obtain ⟨hjl,he⟩:=ZH.1 hy;rw [<-he,<-ZaS hjl,Zck]
  rw [h1];conv=>lhs;rw [h2]
  rw [Zcu,Za0]
 refine ⟨y,((t.nums.drop (j+1)).flatMap varB)++(l.drop (i+1)).flatMap fun t=>tagB t 4,hy,?_⟩;rw [e1,ZgT h,e2,ZV,ZV,<-ZV (Zax l i),List.drop_left,ZV]
section
theorem St.tags_append {v v2:Value} {n m:Nat} {xs ys:List Value} (ty:TypeId) (h:St W I w (HP.row 80 4 v n xs::l)) (hs:SliceSrc w 4 v2 m ys) (hb:n+m<=1000000000) :
  ∃ v' w',(Builtin.append_ #[65,65] ty #[v,v2]).run prog w=.ok v' w'∧St W I w' (HP.row 80 4 v' (n+m) (xs++ys)::l):=by
 obtain ⟨A,c,rfl,hsrc,hA⟩:=hs;obtain ⟨i0,hi0,hz0,hz1,hz2⟩:=info_parts Zie;obtain ⟨v',w',hr,ho',hgr,hv'⟩:=Zds (P:=prog) w 0 65 ty 80 i0 _ 4 32 underlying65 hi0 hz0 hz1 hz2 rfl (by decide) v n xs h.row_owns A m c ys hsrc hA (by unfold maxLen;omega) (by omega) (ZL _);exact ⟨v',w',hr,h.row_grown ho' hgr hv'⟩
theorem Ziz (w:World) (t:Tag):SliceSrc (w.alloc (cells #[int i64 t.id,int i64 t.own,int i64 t.heir,int i64 t.at_] 80)) 4 (slice (some ⟨w.heap.size,0,none⟩) 1 1) 1 t.vals:=by
 refine ⟨_,_,rfl,⟨rfl,fun _=>⟨_,rfl,fun j u hu=>?_⟩,fun u hu=>?_⟩,fun e=>by cases e⟩
 ·rw [add_plain,ZX,Zc (Za3 _ _) j,<-hu];simp [Tag.vals]
 ·simp only [Tag.vals,Z4,Zbv,Zbi] at hu;rcases hu with rfl|rfl|rfl|rfl <;> rfl
def Ztl (t:Tag) (j:Nat):Array Value:=#[int i64 (if 0<j then t.id else 0),int i64 (if 1<j then t.own else 0),int i64 (if 2<j then t.heir else 0),int i64 (if 3<j then t.at_ else 0)]
theorem ZoA (v:Value) (l:List Tag) (w:World) (hs:SliceSrc w 1 v (ZaX l).length ((ZaX l).map byteV)) (hr:Z3 l=true) :
  Calls prog 203 #[v] w fun e w'=>∃ A' c',e=.returned (.tuple #[slice A' l.length c',.bool true])∧St w w.hp w' [HP.row 80 4 (slice A' l.length c') l.length (flat l)]:=by
 have hsm:=ZeD hr;have hcl:=Zea l l.length;have hg0:=Zfd v (ZaX l) ((l.take l.length).flatMap fun t=>tagB t 4) 0 l.length w hs (by unfold ZaX Zax;rw [Zdo]) (by omega) (by show (Zax l l.length).length<=_;omega);rw [ZX] at hg0;have HG0:=Zh hg0;have HN:=Zh (Zhj hr);have HSR:=Zh hs;obtain ⟨A,c,rfl,_⟩:=hs;have HCL:=Zh hcl;have d32:decide ((32:Int)<(l.length:Int))=false:=by rw [ZT];omega
 obtain ⟨n0,hn0⟩:∃ n0,(varB (l.length:Int)).length=n0:=⟨_,rfl⟩;rw [hn0] at HG0;have HN0:=Zh hn0;clear hg0 hr hcl hn0;go_enter func203,ntmps203;go_wp2_with fail;refine HG0.o.mono ?_;rintro e w2 ⟨rfl,rfl⟩;go_wp2;go_loopw [5,7,24] (fun a5 a7 a24 wr=>∃ (i n:Nat) (A':Option Addr) (c':Nat),a24=int i64 i∧i<=l.length∧a5=int i64 n∧n=(Zax l i).length∧a7=slice A' i c'∧St w w.hp wr [HP.row 80 4 (slice A' i c') i (flat (l.take i))]) (fun _ _ a24 _=>l.length - (intOf a24).toNat);case atStart=>exact ⟨0,n0,none,0,rfl,ZL _,rfl,by rw [<-HN0.o];simp [Zax],rfl,(St.init w).row_nil _ _⟩
 case round =>
  obtain ⟨i,n,A',c',rfl,hi,rfl,hn,rfl,hst⟩:=hrel;have HNN:=Zh hn;clear hn;by_cases hlt:i<l.length
  ·have d0:decide ((i:Int)<(l.length:Int))=true:=by rw [Zk];omega
   obtain ⟨t,ht⟩:∃ t,l[i]?=some t:=⟨_,Zy hlt⟩;have HNT:=Zh (HN.o t (ZaG ht));have HDR:=Zh (fun j hj=>Znu ht j hj);have HPS:=Zh (ZgT ht);have HTS:=Zh (show flat (l.take (i+1))=flat (l.take i)++t.vals by rw [Zb9,ht];simp [flat]);have hin:(i:Int)<(l.length:Int):=by omega
   obtain ⟨tid,town,their,tat⟩:=t;have hst1:=hst.alloc (cells #[int i64 0,int i64 0,int i64 0,int i64 0] 80);obtain ⟨g,hg⟩:∃ g,wr.heap.size=g:=⟨_,rfl⟩;rw [hg] at hst1;have HST:=Zh hst1;have HGG:=Zh hg;clear hst hst1 ht hg;have i0:∀ w:World,(Instr.index 273 (.agg #[pointer (some ⟨g,0,none⟩),pointer (some ⟨g,1,none⟩),pointer (some ⟨g,2,none⟩),pointer (some ⟨g,3,none⟩)]) (int i64 0)).run prog w=.ok (pointer (some ⟨g,0,none⟩)) w:=fun _=>by kernel_rfl
   have i1:∀ w:World,(Instr.index 273 (.agg #[pointer (some ⟨g,0,none⟩),pointer (some ⟨g,1,none⟩),pointer (some ⟨g,2,none⟩),pointer (some ⟨g,3,none⟩)]) (int i64 1)).run prog w=.ok (pointer (some ⟨g,1,none⟩)) w:=fun _=>by kernel_rfl
   have i2:∀ w:World,(Instr.index 273 (.agg #[pointer (some ⟨g,0,none⟩),pointer (some ⟨g,1,none⟩),pointer (some ⟨g,2,none⟩),pointer (some ⟨g,3,none⟩)]) (int i64 2)).run prog w=.ok (pointer (some ⟨g,2,none⟩)) w:=fun _=>by kernel_rfl
   have i3:∀ w:World,(Instr.index 273 (.agg #[pointer (some ⟨g,0,none⟩),pointer (some ⟨g,1,none⟩),pointer (some ⟨g,2,none⟩),pointer (some ⟨g,3,none⟩)]) (int i64 3)).run prog w=.ok (pointer (some ⟨g,3,none⟩)) w:=fun _=>by kernel_rfl
   go_wp2_with fail;rw [HGG.o];go_loopw [5,6,31] (fun a5 a6 a31 wr=>∃ (j n:Nat),a31=int i64 j∧j<=4∧a5=int i64 n∧n=(Zax l i++tagB (⟨tid,town,their,tat⟩:Tag) j).length∧St w w.hp wr [pt g (cells (Ztl (⟨tid,town,their,tat⟩:Tag) j) 80),HP.row 80 4 (slice A' i c') i (flat (l.take i))]) (fun _ _ a31 _=>4 - (intOf a31).toNat);case atStart=>exact ⟨0,n,rfl,ZL _,rfl,by rw [HNN.o];simp [tagB],HST.o⟩
   case round =>
    obtain ⟨j,m,rfl,hj,rfl,hm,hst2⟩:=hrel;clear HST HNN;rcases (show j=0∨j=1∨j=2∨j=3∨j=4 by omega) with rfl|rfl|rfl|rfl|rfl
    ·have h4:St w w.hp wr [pt g (cells #[int i64 0,int i64 0,int i64 0,int i64 0] 80),HP.row 80 4 (slice A' i c') i (flat (l.take i))]:=hst2;have f:=frozen_of_row h4.heap;have y:=Zc h4.heap 0;simp at y;obtain ⟨yy,rest,hy,hdr⟩:=HDR.o 0 (by omega);obtain rfl:tid=yy:=by simpa [Tag.nums] using hy
     have hb:=HNT.o tid (by simp [Tag.nums]);obtain ⟨X,hX⟩:∃ X:Nat,tid=X:=⟨(tid).toNat,by omega⟩;rw [<-hm,hX] at hdr;have hgv:=Zfd (slice A (ZaX l).length c) (ZaX l) rest m X wr (HSR.o.below h4.below) hdr (by omega) (by have:=HCL.o;show (Zax l l.length).length<=_;omega);rw [<-hX] at hgv;have HM:=Zh (show m+(varB tid).length=(Zax l i++tagB (⟨tid,town,their,tat⟩:Tag) 1).length by rw [hm,Zs,Zs,Zbb];simp [tagB,Tag.nums,Zbb]);obtain ⟨m2,hm2⟩:∃ m2,m+(varB tid).length=m2:=⟨_,rfl⟩;rw [hm2] at hgv HM;have HGV:=Zh hgv;have H5:=Zh (h4.setCell 0 (int i64 tid));clear hgv h4 hst2 hdr hy hX hb hm hm2 rest X;go_wp2_with fail;refine HGV.o.mono ?_;clear HGV;rintro e w5 ⟨rfl,rfl⟩;go_wp2;go_roundw;case rel=>exact ⟨1,m2,rfl,by omega,rfl,HM.o,H5.o⟩
     case measure=>simp [intOf]
    ·have h4:St w w.hp wr [pt g (cells #[int i64 tid,int i64 0,int i64 0,int i64 0] 80),HP.row 80 4 (slice A' i c') i (flat (l.take i))]:=hst2;have f:=frozen_of_row h4.heap;have y:=Zc h4.heap 1;simp at y;obtain ⟨yy,rest,hy,hdr⟩:=HDR.o 1 (by omega);obtain rfl:town=yy:=by simpa [Tag.nums] using hy
     have hb:=HNT.o town (by simp [Tag.nums]);obtain ⟨X,hX⟩:∃ X:Nat,town=X:=⟨(town).toNat,by omega⟩;rw [<-hm,hX] at hdr;have hgv:=Zfd (slice A (ZaX l).length c) (ZaX l) rest m X wr (HSR.o.below h4.below) hdr (by omega) (by have:=HCL.o;show (Zax l l.length).length<=_;omega);rw [<-hX] at hgv;have HM:=Zh (show m+(varB town).length=(Zax l i++tagB (⟨tid,town,their,tat⟩:Tag) 2).length by rw [hm,Zs,Zs,Zbb];simp [tagB,Tag.nums,Zbb]);obtain ⟨m2,hm2⟩:∃ m2,m+(varB town).length=m2:=⟨_,rfl⟩;rw [hm2] at hgv HM;have HGV:=Zh hgv;have H5:=Zh (h4.setCell 1 (int i64 town));clear hgv h4 hst2 hdr hy hX hb hm hm2 rest X;go_wp2_with fail;refine HGV.o.mono ?_;clear HGV;rintro e w5 ⟨rfl,rfl⟩;go_wp2;go_roundw;case rel=>exact ⟨2,m2,rfl,by omega,rfl,HM.o,H5.o⟩
     case measure=>simp [intOf]
    ·have h4:St w w.hp wr [pt g (cells #[int i64 tid,int i64 town,int i64 0,int i64 0] 80),HP.row 80 4 (slice A' i c') i (flat (l.take i))]:=hst2;have f:=frozen_of_row h4.heap;have y:=Zc h4.heap 2;simp at y;obtain ⟨yy,rest,hy,hdr⟩:=HDR.o 2 (by omega);obtain rfl:their=yy:=by simpa [Tag.nums] using hy
     have hb:=HNT.o their (by simp [Tag.nums]);obtain ⟨X,hX⟩:∃ X:Nat,their=X:=⟨(their).toNat,by omega⟩;rw [<-hm,hX] at hdr;have hgv:=Zfd (slice A (ZaX l).length c) (ZaX l) rest m X wr (HSR.o.below h4.below) hdr (by omega) (by have:=HCL.o;show (Zax l l.length).length<=_;omega);rw [<-hX] at hgv;have HM:=Zh (show m+(varB their).length=(Zax l i++tagB (⟨tid,town,their,tat⟩:Tag) 3).length by rw [hm,Zs,Zs,Zbb];simp [tagB,Tag.nums,Zbb]);obtain ⟨m2,hm2⟩:∃ m2,m+(varB their).length=m2:=⟨_,rfl⟩;rw [hm2] at hgv HM;have HGV:=Zh hgv;have H5:=Zh (h4.setCell 2 (int i64 their));clear hgv h4 hst2 hdr hy hX hb hm hm2 rest X;go_wp2_with fail;refine HGV.o.mono ?_;clear HGV;rintro e w5 ⟨rfl,rfl⟩;go_wp2;go_roundw;case rel=>exact ⟨3,m2,rfl,by omega,rfl,HM.o,H5.o⟩
     case measure=>simp [intOf]
    ·have h4:St w w.hp wr [pt g (cells #[int i64 tid,int i64 town,int i64 their,int i64 0] 80),HP.row 80 4 (slice A' i c') i (flat (l.take i))]:=hst2;have f:=frozen_of_row h4.heap;have y:=Zc h4.heap 3;simp at y;obtain ⟨yy,rest,hy,hdr⟩:=HDR.o 3 (by omega);obtain rfl:tat=yy:=by simpa [Tag.nums] using hy
     have hb:=HNT.o tat (by simp [Tag.nums]);obtain ⟨X,hX⟩:∃ X:Nat,tat=X:=⟨(tat).toNat,by omega⟩;rw [<-hm,hX] at hdr;have hgv:=Zfd (slice A (ZaX l).length c) (ZaX l) rest m X wr (HSR.o.below h4.below) hdr (by omega) (by have:=HCL.o;show (Zax l l.length).length<=_;omega);rw [<-hX] at hgv;have HM:=Zh (show m+(varB tat).length=(Zax l i++tagB (⟨tid,town,their,tat⟩:Tag) 4).length by rw [hm,Zs,Zs,Zbb];simp [tagB,Tag.nums,Zbb]);obtain ⟨m2,hm2⟩:∃ m2,m+(varB tat).length=m2:=⟨_,rfl⟩;rw [hm2] at hgv HM;have HGV:=Zh hgv;have H5:=Zh (h4.setCell 3 (int i64 tat));clear hgv h4 hst2 hdr hy hX hb hm hm2 rest X;go_wp2_with fail;refine HGV.o.mono ?_;clear HGV;rintro e w5 ⟨rfl,rfl⟩;go_wp2;go_roundw;case rel=>exact ⟨4,m2,rfl,by omega,rfl,HM.o,H5.o⟩
     case measure=>simp [intOf]
    ·have h4:St w w.hp wr [pt g (cells #[int i64 tid,int i64 town,int i64 their,int i64 tat] 80),HP.row 80 4 (slice A' i c') i (flat (l.take i))]:=hst2;have y:=Zc h4.heap;have y0:=y 0;have y1:=y 1;have y2:=y 2;have y3:=y 3;simp at y0 y1 y2 y3;have h5:=h4.drop.keep (ZS wr (cells #[int i64 tid,int i64 town,int i64 their,int i64 tat] 80));obtain ⟨v',w',hr,h6⟩:=St.tags_append 65 h5 (Ziz wr (⟨tid,town,their,tat⟩:Tag)) (by omega);obtain ⟨A2,c2,rfl⟩:=ZA h6.row_owns;rw [<-HTS.o] at h6;have HR:=Zh hr;have H6:=Zh h6;have HM:=Zh (show m=(Zax l (i+1)).length by rw [hm,HPS.o]);clear hst2 h4 y h5 hr h6 hm;go_wp2_with (at_builtin;refine ZZ _ rfl (.tmp 46) (.tmp 48) 65 65 rfl _ _ rfl rfl _ _ HR.o ?_);go_roundw;case rel=>exact ⟨i+1,m,A2,c2,by go_num,by omega,rfl,HM.o,rfl,H6.o⟩
     case measure=>simp [intOf]<;>omega
  ·obtain rfl:i=l.length:=by omega
   have d0:decide (((l.length:Nat):Int)<(l.length:Int))=false:=by rw [ZT];omega
   rw [ZbJ] at hst;have HST:=Zh hst;clear hst;go_wp2;go_ret2;exact ⟨A',c',rfl,HST.o⟩
theorem St.row_cap {e:TypeId} {size:Nat} {A:Option Addr} {m c n:Nat} {xs:List Value} (h:St W I w (HP.row e size (slice A m c) n xs::l)):m=n∧n<=c:=by
 obtain ⟨_,⟨e1,e2,_⟩|⟨g,cap,cur,e1,h3,_⟩⟩:=h.row_open
 ·simp only [Zz] at e1;omega
 ·simp only [Zz] at e1;omega
theorem ZqZ (v:Value) (l:List Tag) (w:World) (hs:SliceSrc w 1 v (ZaX l).length ((ZaX l).map byteV)) (hr:Z3 l=true) :
  Calls prog 183 #[v] w fun e w'=>∃ A' c',e=.returned (.tuple #[slice A' l.length c',int i64 0])∧St w w.hp w' [HP.row 80 4 (slice A' l.length c') l.length (flat l)]:=by
 have hp:=ZoA v l w hs hr;have HP:=Zh hp;have HS:=Zh hs;have HRR:=Zh hr;have hsm:=ZeD hr;obtain ⟨A,c,rfl,_⟩:=hs;clear hp hr;go_enter func183,ntmps183;go_wp2_with fail;refine HP.o.mono ?_;rintro e w2 ⟨A2,c2,rfl,h2⟩;have hcap:=h2.row_cap.2;have hpu:=Zlo A2 c2 l w2 (TagsAt.of_own h2.row_owns) (by omega) hcap;have e0:chainB l=ZaX l:=by unfold chainB;rw [HRR.o];rfl
 rw [HRR.o,e0] at hpu;have HPU:=Zh hpu;have H2:=Zh h2;clear hpu h2 hcap e0;go_wp2_with fail;refine HPU.o.mono ?_;rintro e w3 ⟨A3,c3,rfl,h3⟩;have heq:=ZfZ (slice A3 (ZaX l).length c3) (slice A (ZaX l).length c) (ZaX l) (ZaX l) w3 (SliceSrc.of_owns h3.row_owns (Zcb _)) (HS.o.below (H2.o.below.trans (h3.below.mono H2.o.below.size))) (ZgR HRR.o) (ZgR HRR.o);rw [Zt rfl] at heq;have HEQ:=Zh heq;have H3:=Zh (H2.o.keep h3.below);clear heq h3;go_wp2_with fail;refine HEQ.o.mono ?_;rintro e w4 ⟨rfl,rfl⟩;go_wp2;go_ret2;exact ⟨A2,c2,rfl,H3.o⟩
end
def Cl.vals (c:Cl):List Value:=[int i64 c.id,int i64 c.pos,.bool c.off]
section
theorem Zs0 {id pos:Int} {b:Bool} (h:b=true↔(1<=id∧id<=1073741824∧0<=pos∧pos<=1099511627776)):b=mayC id pos:=by
 rw [Zb8,h,mayC,Zk]
theorem Zhw (id pos:Int) (w:World):Calls prog 158 #[int i64 id,int i64 pos] w fun e w'=>e=.returned (.bool (mayC id pos))∧w=w':=by
 go_enter func158,ntmps158;go_wp2;all_goals
  go_ret;refine ⟨ret_bool (Zs0 ?_),rfl⟩;simp only [Zk,Zbu,false_iff];omega
def Zcy (s:Int × Bool) (c:Cl):Int × Bool:=if c.off then s else if s.2=false∨c.pos<s.1 then (c.pos,true) else s
theorem Zhk:∀ (l:List Cl) (c:Cl) (s:Int × Bool),ZdY (l++[c]) s=Zcy (ZdY l s) c
 | [],c,s=>rfl
 | a::l,c,s=>Zhk l c _
theorem Znh (v:Value) (cs:List Cl) (h:St W I w l) (hv:RowI I 3 v cs.length (cs.flatMap Cl.vals)) (hn:cs.length<=1000000) :
  Calls prog 153 #[v] w fun e w'=>e=.returned (.tuple #[int i64 (slowC cs).1,.bool (slowC cs).2])∧Below w.heap.size w w':=by
 have HV:=Zh hv;have H:=Zh h;obtain ⟨A,c,rfl,_⟩:=hv;clear h;go_enter func153,ntmps153;go_wp2;go_loopw [4,5,7,10] (fun a4 a5 a7 a10 wr=>∃ (i:Nat) (s:Int × Bool),a10=int i64 i∧i<=cs.length∧a4=int i64 s.1∧a5=.bool s.2∧ZdY (cs.take i) (0,false)=s∧Below w.heap.size w wr) (fun _ _ _ a10 _=>cs.length - (intOf a10).toNat);case atStart=>exact ⟨0,(0,false),rfl,ZL _,rfl,rfl,rfl,ZI _ _⟩
 case round =>
  obtain ⟨i,⟨s1,s2⟩,rfl,hi,rfl,rfl,hs,hb⟩:=hrel;by_cases hlt:i<cs.length
  ·have d0:decide ((i:Int)<(cs.length:Int))=true:=by rw [Zk];omega
   obtain ⟨k,hk⟩:∃ k,cs[i]?=some k:=⟨_,Zy hlt⟩;obtain ⟨b,off,e1,hc⟩:=ZbL (i:=i) HV.o (Hp.sub.refl I) (H.o.keep hb) (fun _=>rfl) hk;simp only [Zz,Zap] at e1;subst e1;have y0:=hc 0 (by omega);have y1:=hc 1 (by omega);have y2:=hc 2 (by omega);obtain ⟨kid,kpos,koff⟩:=k;simp only [Cl.vals,Zg,Zi,ZaP] at y0 y1 y2;have hin:(i:Int)<(cs.length:Int):=by omega
   have HN:=Zh (show ZdY (cs.take (i+1)) (0,false)=Zcy (s1,s2) ⟨kid,kpos,koff⟩ by
    obtain ⟨hil,he⟩:=ZH.1 hk
    rw [Zc8 hil,he,Zhk,hs])
   have HB:=Zh (hb.trans ((ZS wr (cells #[int i64 kid,int i64 kpos,.bool koff] 212)).mono hb.size));clear hc hk hs hb;simp only at *;cases koff with
   | true =>
    go_wp2;go_roundw;case rel=>exact ⟨i+1,(s1,s2),by go_num,by omega,rfl,rfl,by rw [HN.o];rfl,HB.o⟩
    case measure=>simp [intOf]<;>omega
   | false =>
    cases s2 with
    | false =>
     go_wp2;go_roundw;case rel=>exact ⟨i+1,(kpos,true),by go_num,by omega,rfl,rfl,by rw [HN.o];simp [Zcy],HB.o⟩
     case measure=>simp [intOf]<;>omega
    | true =>
     by_cases hp:kpos<s1
     ·have dp:decide (kpos<s1)=true:=Zt hp;have HS:=Zh (show Zcy (s1,true) ⟨kid,kpos,false⟩=(kpos,true) by simp [Zcy,hp]);go_wp2;go_roundw;case rel=>exact ⟨i+1,(kpos,true),by go_num,by omega,rfl,rfl,by rw [HN.o,HS.o],HB.o⟩
      case measure=>simp [intOf]<;>omega
     ·have dp:decide (kpos<s1)=false:=Zq hp;have HS:=Zh (show Zcy (s1,true) ⟨kid,kpos,false⟩=(s1,true) by simp [Zcy];omega);go_wp2;go_roundw;case rel=>exact ⟨i+1,(s1,true),by go_num,by omega,rfl,rfl,by rw [HN.o,HS.o],HB.o⟩
      case measure=>simp [intOf]<;>omega
  ·obtain rfl:i=cs.length:=by omega
   have d0:decide (((cs.length:Nat):Int)<(cs.length:Int))=false:=by rw [ZT];omega
   rw [ZbJ] at hs;have HS:=Zh (show slowC cs=(s1,s2) from hs);have HB:=Zh hb;clear hs hb;go_wp2;go_ret2;rw [HS.o];exact ⟨rfl,HB.o⟩
theorem Zg2 (v:Value) (cs:List Cl) (h:St W I w l) (hv:RowI I 3 v cs.length (cs.flatMap Cl.vals)) (hn:cs.length<=1000000) :
  Calls prog 157 #[v] w fun e w'=>e=.returned (.bool (Zae cs))∧Below w.heap.size w w':=by
 have HV:=Zh hv;have H:=Zh h;obtain ⟨A,c,rfl,_⟩:=hv;clear h;go_enter func157,ntmps157;go_wp2;go_loopw [3,5,8] (fun a3 a5 a8 wr=>∃ (i:Nat) (last:Int),a8=int i64 i∧i<=cs.length∧a3=int i64 last∧clsGo cs 0=clsGo (cs.drop i) last∧Below w.heap.size w wr) (fun _ _ a8 _=>cs.length - (intOf a8).toNat);case atStart=>exact ⟨0,0,rfl,ZL _,rfl,rfl,ZI _ _⟩
 case round =>
  obtain ⟨i,last,rfl,hi,rfl,hs,hb⟩:=hrel;by_cases hlt:i<cs.length
  ·have d0:decide ((i:Int)<(cs.length:Int))=true:=by rw [Zk];omega
   obtain ⟨k,hk⟩:∃ k,cs[i]?=some k:=⟨_,Zy hlt⟩;obtain ⟨b,off,e1,hc⟩:=ZbL (i:=i) HV.o (Hp.sub.refl I) (H.o.keep hb) (fun _=>rfl) hk;simp only [Zz,Zap] at e1;subst e1;have y0:=hc 0 (by omega);have y1:=hc 1 (by omega);have y2:=hc 2 (by omega);obtain ⟨kid,kpos,koff⟩:=k;simp only [Cl.vals,Zg,Zi,ZaP] at y0 y1 y2;have hin:(i:Int)<(cs.length:Int):=by omega
   have hdr:cs.drop i=⟨kid,kpos,koff⟩::cs.drop (i+1):=by
    obtain ⟨hil,he⟩:=ZH.1 hk;rw [ZaS hil,he]
   have HN:=Zh (show clsGo cs 0=(mayC kid kpos&&decide (last<kid)&&clsGo (cs.drop (i+1)) kid) by rw [hs,hdr];rfl);have HB:=Zh (hb.trans ((ZS wr (cells #[int i64 kid,int i64 kpos,.bool koff] 212)).mono hb.size));have HM:=Zh (Zhw kid kpos);clear hc hk hs hb hdr;cases hm:mayC kid kpos with
   | false =>
    have HF:Hid (Zae cs=false):=Zh (by unfold Zae;rw [HN.o,hm];rfl);rw [hm] at HM;go_wp2_with fail;refine (HM.o _).mono ?_;rintro e w2 ⟨rfl,rfl⟩;go_wp2;go_ret;rw [HF.o];exact ⟨rfl,HB.o⟩
   | true =>
    rw [hm] at HM;by_cases hle:kid<=last
    ·have HF:Hid (Zae cs=false):=Zh (by unfold Zae;rw [HN.o,hm,Zq (by omega:¬ last<kid)];rfl);have dl:decide (kid<=last)=true:=Zt hle;go_wp2_with fail;refine (HM.o _).mono ?_;rintro e w2 ⟨rfl,rfl⟩;go_wp2;go_ret;rw [HF.o];exact ⟨rfl,HB.o⟩
    ·have HF:Hid (clsGo cs 0=clsGo (cs.drop (i+1)) kid):=Zh (by rw [HN.o,hm,Zt (by omega:last<kid)];simp);have dl:decide (kid<=last)=false:=Zq hle;go_wp2_with fail;refine (HM.o _).mono ?_;rintro e w2 ⟨rfl,rfl⟩;go_wp2;go_roundw;case rel=>exact ⟨i+1,kid,by go_num,by omega,rfl,HF.o,HB.o⟩
     case measure=>simp [intOf]<;>omega
  ·obtain rfl:i=cs.length:=by omega
   have d0:decide (((cs.length:Nat):Int)<(cs.length:Int))=false:=by rw [ZT];omega
   rw [Zex] at hs;have HS:=Zh (show Zae cs=decide (cs.length<=4) by unfold Zae;rw [hs];simp [clsGo]);have HB:=Zh hb;clear hs hb;by_cases h4:cs.length<=4
   ·have d4:decide ((cs.length:Int)<=4)=true:=by rw [Zk];omega
    have HT:=Zh (HS.o.trans (Zt h4));go_wp2;go_ret;rw [HT.o];exact ⟨rfl,HB.o⟩
   ·have d4:decide ((cs.length:Int)<=4)=false:=by rw [ZT];omega
    have HT:=Zh (HS.o.trans (Zq h4));go_wp2;go_ret;rw [HT.o];exact ⟨rfl,HB.o⟩
theorem ZhX:∀ (l:List Cl) (id:Int) (i:Nat),(∀ j c,j<i->l[j]?=some c->c.id<id)->i<=l.length->Zaf l id=((Zaf (l.drop i) id).1+i,(Zaf (l.drop i) id).2)
 | l,id,0,_,_=>by simp
 | [],id,i+1,_,h=>by simp at h
 | c::l,id,i+1,h,hl=>by
  have h0:=h 0 c (by omega) rfl;have ih:=ZhX l id i (fun j d hj hd=>h (j+1) d (by omega) (by simpa using hd)) (by simpa using hl);rw [Zd9];show (if id<=c.id then (0,decide (c.id=id)) else ((Zaf l id).1+1,(Zaf l id).2))=_;rw [Za (by omega),ih];simp only [Zv,Zap];omega
theorem Zjw (v:Value) (cs:List Cl) (id:Int) (h:St W I w l) (hv:RowI I 3 v cs.length (cs.flatMap Cl.vals)) (hn:cs.length<=1000000) :
  Calls prog 159 #[v,int i64 id] w fun e w'=>e=.returned (.tuple #[int i64 (Zaf cs id).1,.bool (Zaf cs id).2])∧Below w.heap.size w w':=by
 have HV:=Zh hv;have H:=Zh h;obtain ⟨A,c,rfl,_⟩:=hv;clear h;go_enter func159,ntmps159;go_wp2;go_loopw [6,7,10] (fun a6 a7 a10 wr=>∃ i:Nat,a10=int i64 i∧i<=cs.length∧(∀ j c,j<i->cs[j]?=some c->c.id<id)∧Below w.heap.size w wr) (fun _ _ a10 _=>cs.length - (intOf a10).toNat);case atStart=>exact ⟨0,rfl,ZL _,fun j c h=>by omega,ZI _ _⟩
 case round =>
  obtain ⟨i,rfl,hi,hall,hb⟩:=hrel;have HP:=Zh (ZhX cs id i hall hi);by_cases hlt:i<cs.length
  ·have d0:decide ((i:Int)<(cs.length:Int))=true:=by rw [Zk];omega
   obtain ⟨k,hk⟩:∃ k,cs[i]?=some k:=⟨_,Zy hlt⟩;obtain ⟨b,off,e1,hc⟩:=ZbL (i:=i) HV.o (Hp.sub.refl I) (H.o.keep hb) (fun _=>rfl) hk;simp only [Zz,Zap] at e1;subst e1;have y0:=hc 0 (by omega);have y1:=hc 1 (by omega);have y2:=hc 2 (by omega);obtain ⟨kid,kpos,koff⟩:=k;simp only [Cl.vals,Zg,Zi,ZaP] at y0 y1 y2;have hin:(i:Int)<(cs.length:Int):=by omega
   have hdr:cs.drop i=⟨kid,kpos,koff⟩::cs.drop (i+1):=by
    obtain ⟨hil,he⟩:=ZH.1 hk;rw [ZaS hil,he]
   have HB:=Zh (hb.trans ((ZS wr (cells #[int i64 kid,int i64 kpos,.bool koff] 212)).mono hb.size));by_cases hge:id<=kid
   ·have dg:decide (id<=kid)=true:=Zt hge
    have HV2:Hid (Zaf cs id=(i,decide (kid=id))):=Zh (by
     rw [HP.o,hdr];show ((if id<=kid then (0,decide (kid=id)) else _:Nat × Bool).1+i,(if id<=kid then (0,decide (kid=id)) else _:Nat × Bool).2)=_;rw [Zb hge]
     simp)
    obtain ⟨q,hq⟩:∃ q,(kid==id)=q:=⟨_,rfl⟩;have HQ:=Zh (show decide (kid=id)=q by rw [<-hq];rfl);clear hc hk hb hdr hall hge;go_upto_region 5 with fail;go_quiet (fail);go_wp2;go_ret2;rw [HV2.o,HQ.o];exact ⟨rfl,HB.o.trans ⟨rfl,rfl,rfl,ZC _,fun _ _=>rfl⟩⟩
   ·have dg:decide (id<=kid)=false:=Zq hge
    have HA:=Zh (show ∀ j c,j<i+1->cs[j]?=some c->c.id<id from fun j c hj hc'=>by
     by_cases e:j=i
     ·subst e;rw [hk] at hc';cases hc';show kid<id;omega
     ·exact hall j c (by omega) hc')
    clear hc hk hb hdr hall hge;go_wp2;go_roundw;case rel=>exact ⟨i+1,by go_num,by omega,HA.o,HB.o⟩
    case measure=>simp [intOf]<;>omega
  ·obtain rfl:i=cs.length:=by omega
   have d0:decide (((cs.length:Nat):Int)<(cs.length:Int))=false:=by rw [ZT];omega
   have HV2:Hid (Zaf cs id=(cs.length,false)):=Zh (by rw [HP.o,Zex];simp [Zaf]);have HB:=Zh hb;clear hb hall;go_wp2;go_ret2;rw [HV2.o];exact ⟨rfl,HB.o⟩
end
end Go.Proofs.YtpjchngjhijgmaaGreat
