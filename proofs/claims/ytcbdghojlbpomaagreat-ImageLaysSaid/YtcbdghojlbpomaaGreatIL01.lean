import Derived.Test.YtcbdghojlbpomaaGreatIL00
set_option linter.all false
namespace Go.Proofs.YtcbdghojlbpomaaGreat
open Tryz
open HP (pt mapOf)
open Go.IntKind (i64 u64)
open Go.Value (int pointer slice)
open Go.Obj (cells)
open Go.RowKit
theorem heldL_len (ms:List Mk):(heldL ms).length<=ms.length:=by
 unfold heldL;split
 ·simp
 ·rw [ZE];exact Zbi ..
theorem cell_ltH {w:World} {b i:Nat} {v:Value} (h:w.cell? ⟨b,i,none⟩=some v):b<w.heap.size:=by
 by_cases hb:b<w.heap.size
 ·exact hb
 ·exfalso;unfold World.cell? at h;simp [Array.getElem?_eq_none (by omega:w.heap.size<=b)] at h
section
variable {W w : World} {I : Hp} {l : List HP} {p q : Nat} {S : Str}
set_option maxRecDepth 4000
set_option maxHeartbeats 8000000
theorem iheldL_spec (h:Hd) (hnm:∀ m ∈ h.marks,1<=m.name.size) (x:Mk) (hx:heldM h.marks=some x) (h17:h.marks.length<=1000) (hs:St W I w (imgHP q p h::l)) :
  Calls prog 27 #[pointer (some ⟨q,0,none⟩)] w fun e w'=>∃ I' A c,I.sub I'∧e=.returned (slice A (heldL h.marks).length c)∧RowI I' 4 (slice A (heldL h.marks).length c) (heldL h.marks).length ((heldL h.marks).flatMap Mk.vals)∧St W I' w' (imgHP q p h::l):=by
 obtain ⟨v,hv,hi⟩:=hs.img_open;have hh:=Zjs h hnm v w (ZbW hi hv) h17;rw [hx] at hh;rw [heldL_some hx];obtain ⟨c0,c1,c2,c3,c4,c5,c6,c7,c8,c9⟩:=Zz hi;have HH:=Zh hh;have HI:=Zh hi;have HV:=Zh hv;obtain ⟨A,c,rfl,_⟩:=RowI.cap hv;clear hs hi hv hh hx hnm;obtain ⟨sz,⟨o,u,cn⟩,nx,sq,ms⟩:=h;obtain ⟨xi,xn,xs,xg⟩:=x;simp only [Hd.cells,mkVal] at *;go_enter func27,ntmps27;go_wp2_with fail;refine HH.o.mono ?_;rintro e w2 ⟨rfl,hb2⟩;have h2:=HI.o.keep hb2;have h3:=h2.alloc (cells #[int i64 xi,.string xn,int i64 xs,.bool xg] 66);obtain ⟨g3,hg3⟩:∃ g,w2.heap.size=g:=⟨_,rfl⟩;rw [hg3] at h3;have HG3:=Zh hg3;have H3:=Zh (h3.row_nil 66 4);clear h2 h3 hb2 hg3 c0 c1 c2 c3 c4 c5 c6 c7 c8 c9 HH HI;go_upto_region 4 with fail;rw [HG3.o];have h3:=H3.o;generalize (World.alloc _ _:World)=w3 at h3 |-;have H4:=Zh h3;have c8:=(Zz (h3.pull 2 _ rfl)).c8;clear h3 H3 HG3;go_wp2;go_loopw [5,26] (fun a5 a26 wr=>∃ (i:Nat) (z:List Mk) (B:Option Addr) (d:Nat),a26=int i64 i∧i<=ms.length∧a5=slice B z.length d∧z=((ms.take i).filter fun m=>decide (m.id<=xi)).map Mk.clr∧St W I wr (HP.row 66 4 (slice B z.length d) z.length (z.flatMap Mk.vals)::pt g3 (cells #[int i64 xi,.string xn,int i64 xs,.bool xg] 66)::pt q (cells (ZdT p ⟨sz,⟨o,u,cn⟩,nx,sq,ms⟩ (slice A ms.length c)) 119)::l)) (fun _ a26 _=>ms.length - (intOf a26).toNat);case atStart=>exact ⟨0,[],none,0,rfl,by omega,rfl,rfl,H4.o⟩
 case round =>
  obtain ⟨i,z,B,d,rfl,hi,rfl,hz,hst⟩:=hrel;clear c8 H4;by_cases hlt:i<ms.length
  ·have hzl:z.length<=1000000:=by
    rw [hz,ZE];refine ZQ (Zbi ..) ?_;rw [ZN];omega
   have d0:decide ((i:Int)<(ms.length:Int))=true:=by rw [Ze];omega
   obtain ⟨m,hm⟩:∃ m,ms[i]?=some m:=⟨_,ZL hlt⟩;obtain ⟨G,off,e1,hc⟩:=ZbJ (i:=i) (mk:=Mk.vals) (k:=4) HV.o (Hp.sub.refl _) hst (fun _=>rfl) hm;simp only [ZF,Zae,ZK] at e1;subst e1;have hft:((ms.take (i+1)).filter fun m=>decide (m.id<=xi)).map Mk.clr=z++(if m.id<=xi then [m.clr] else []):=by
    obtain ⟨hk,he⟩:=ZS.1 hm;rw [ZbG hk,he,Zca,Z4,<-hz];congr 1;by_cases q:m.id<=xi
    ·rw [Zb q,Zfn (by rw [Ze];exact q)];rfl
    ·rw [Za q,ZdZ (by rw [Ze];exact q)];rfl
   obtain ⟨z0,z1,z2,z3⟩:=ZX (hst.pull 1 _ rfl);obtain ⟨id2,s,n,b⟩:=m;have y0:wr.cell? ⟨G,off+i*4,none⟩=some (int i64 id2):=hc 0 (by decide);have y1:wr.cell? ⟨G,off+i*4+1,none⟩=some (.string s):=hc 1 (by decide);have y2:wr.cell? ⟨G,off+i*4+2,none⟩=some (int i64 (n:Int)):=hc 2 (by decide);have y3:wr.cell? ⟨G,off+i*4+3,none⟩=some (.bool b):=hc 3 (by decide);have lt0:G<wr.heap.size:=cell_ltH y0;have lt5:g3<wr.heap.size:=(hst.pull 1 _ rfl).lt;have HST:=Zh (hst.alloc (cells #[int i64 id2,.string s,int i64 n,.bool b] 66));clear hc hm hst hz;simp only at hft;by_cases hid:id2<=xi
   ·rw [Zb hid] at hft;have hft:_=z++[⟨id2,s,n,false⟩]:=hft;have d2:decide (id2<=xi)=true:=by rw [Ze];exact hid
    have HFT:=Zh hft;clear hft hid;go_upto_region 11 with fail;have h4:=HST.o;obtain ⟨g9,hg9⟩:∃ g,wr.heap.size=g:=⟨_,rfl⟩;rw [hg9] at h4;simp only [hg9];generalize (World.alloc _ _:World)=w4 at h4 |-;clear y0 y1 y2 y3 lt0 HST hg9 z0 z1 z2 z3 lt5;obtain ⟨y0,y1,y2,y3⟩:=ZX h4;have f:=frozen_of_row h4.heap;have HST:=Zh (h4.setCell 3 (.bool false));clear h4;go_upto_region 12 with fail;have h5:=HST.o;generalize (World.setCell _ _ _:World)=w5 at h5 |-;clear y0 y1 y2 y3 HST f;have h5:St W I w5 (pt g9 (cells #[int i64 id2,.string s,int i64 n,.bool false] 66)::_):=h5;obtain ⟨y0,y1,y2,y3⟩:=ZX h5;obtain ⟨B6,d6,w6,hr6,h6⟩:=St.row_push (ty:=49) underlying49 Zei rfl (by decide) (by decide) (mk:=Mk.vals) (fun _=>rfl) h5.drop ⟨id2,s,n,false⟩ (fun u hu=>Zb6 [⟨id2,s,n,false⟩] u (by simpa using hu)) hzl #[int i64 id2,.string s,int i64 n,.bool false] rfl;obtain ⟨z2,hz2⟩:∃ x,z++[⟨id2,s,n,false⟩]=x:=⟨_,rfl⟩;rw [hz2] at hr6 h6;have HZ2:=Zh (HFT.o.trans hz2);have HR6:=Zh hr6;have H6:=Zh h6;clear h5 h6 hr6 hz2;go_wp2_with (at_builtin;refine Zax _ rfl (.tmp 36) (.tmp 38) 49 49 rfl _ _ rfl rfl _ _ HR6.o ?_);go_roundw;case rel=>exact ⟨i+1,z2,B6,d6,by go_num,by omega,rfl,HZ2.o.symm,H6.o⟩
    case measure=>simp [intOf]<;>omega
   ·rw [Za hid,ZdG] at hft;have d2:decide (id2<=xi)=false:=by rw [Zk];exact hid
    have HFT:=Zh hft;clear hft;go_wp2;go_roundw;case rel=>exact ⟨i+1,z,B,d,by go_num,by omega,rfl,HFT.o.symm,HST.o.drop⟩
    case measure=>simp [intOf]<;>omega
  ·obtain rfl:i=ms.length:=by omega
   have d0:decide (((ms.length:Nat):Int)<(ms.length:Int))=false:=by rw [Zk];omega
   rw [Zbk] at hz;have HZ:=Zh hz;clear hz;go_wp2;go_ret;rw [<-HZ.o];obtain ⟨I6,hs6,hr6,h6⟩:=hst.freeze_row;exact ⟨I6,B,d,hs6,rfl,hr6,St.img_shut ((mksIP _ _).mono hs6 HV.o) h6.drop⟩
end
end Go.Proofs.YtcbdghojlbpomaaGreat
namespace Go.Proofs.YtcbdghojlbpomaaGreat
open Tryz
open HP (pt mapOf)
open Go.IntKind (i64 u64)
open Go.Value (int pointer slice)
open Go.Obj (cells)
open Go.RowKit
def outF (l:Ly) (B:List Int) (num k x:Nat):Int:=if (ZB l x).1<num∨((ZB l x).1=num∧(ZB l x).2<k) then B.getD x 0 else 0
def outAt (l:Ly) (B:List Int) (size num k:Nat):List Int:=(List.range size).map (outF l B num k)
structure PartB (l:Ly) (B:List Int) (size num:Nat) (p:List Int):Prop where
 le:p.length<=ZI l size num
 at_:∀ k,k<p.length->p.getD k 0=B.getD (backN l num k) 0
 no:∀ k,p.length<=k->k<ZI l size num->B.getD (backN l num k) 0=0
def partR (h:Hd) (R:List RO) (m:Mk) (num:Nat):List Int :=
 if (ratR (objAt R num) m.id).isSome then (List.range (ZI h.l m.size num)).map fun k=>byteO (objAt R num) m.id k else []
theorem part_B {h:Hd} {R:List RO} (hl:h.l.ok) (m:Mk) (num:Nat):PartB h.l (Zag h.l R m.id m.size) m.size num (partR h R m num):=by
 unfold partR;cases hs:(ratR (objAt R num) m.id).isSome with
 | true =>
  rw [Zb rfl];refine ⟨by simp,fun k hk=>?_,fun k h1 h2=>?_⟩
  ·have hk:k<ZI h.l m.size num:=by simpa using hk
   rw [ZbF,ZaN,Zdd hk];exact held_byte hl hk
  ·simp at h1;omega
 | false =>
  rw [Za (by simp)];refine ⟨by simp,fun k hk=>(by simp at hk),fun k _ h2=>?_⟩;rw [<-held_byte hl h2];unfold byteO;have:ratR (objAt R num) m.id=none:=by
   cases q:ratR (objAt R num) m.id with
   | none=>rfl
   | some b=>rw [q] at hs;cases hs
  rw [this];simp
end Go.Proofs.YtcbdghojlbpomaaGreat
namespace Go.Proofs.YtcbdghojlbpomaaGreat
open Tryz
open HP (pt mapOf)
open Go.IntKind (i64 u64)
open Go.Value (int pointer slice)
open Go.Obj (cells)
open Go.RowKit
section
variable {W w : World} {I : Hp} {l : List HP} {p q : Nat} {S : Str}
theorem Zqf (h:Hd) (R:List RO) (e:Ev) (ev:Value) (seq:Int) {m:Nat} (hs:St W I w (Zd p S::imgHP q p h::l)) (J:IJ S h R) (hk:Keeps S (m+2080)) (hm:m<=90000) (hev:Zw I ev e.data) (hby:∀ x ∈ e.data,isByte x) (hkt:Keeps S 3000) (hx:h.next<1073741824) :
  Calls prog 17 #[pointer (some ⟨q,0,none⟩),e.val ev,int i64 seq] w fun x w'=>∃ ans h' R',DoR h R e seq ans h' R'∧DoneW W w' I p q l m x ans h' R':=by
 by_cases hw:ZU e=false∨seq<0∨1099511627776<seq
 ·have D:DoR h R e seq 1 h R:=by unfold DoR;rw [Zb hw];exact ⟨rfl,rfl,rfl⟩
  cases hr:ZU e with
  | false=>exact (ZnZ h R e ev seq hs J hk hm hev hby hr).mono fun x w' q=>⟨1,h,R,D,q⟩
  | true =>
   by_cases h1:seq<0
   ·exact (Zn0 h R e ev seq hs J hk hm hev hby hr h1).mono fun x w' q=>⟨1,h,R,D,q⟩
   ·have h2:1099511627776<seq:=by
     rcases hw with q|q|q
     ·rw [hr] at q;cases q
     ·exact absurd q h1
     ·exact q
    exact (Zn1 h R e ev seq hs J hk hm hev hby hr h2).mono fun x w' q=>⟨1,h,R,D,q⟩
 have hr:ZU e=true:=by
  cases q:ZU e with
  | true=>rfl
  | false=>exact absurd (.inl q) hw
 have hq:0<=seq∧seq<=1099511627776:=by omega
 by_cases k8:e.kind=8
 ·have D:DoR h R e seq 0 h R:=by unfold DoR;rw [Za hw,Zb k8];exact ⟨rfl,rfl,rfl⟩
  exact (Zpr h R e ev seq hs J hk hm hev hby hr hq k8).mono fun x w' q=>⟨0,h,R,D,q⟩
 by_cases k3:e.kind=1∨e.kind=2∨e.kind=3
 ·by_cases hc:ZJ (viewI h R) e=0
  ·refine (Zps h R e ev seq hs J hk hm hev hby hr hq k8 k3 hc).mono ?_;rintro x w' ⟨R',P,q⟩;refine ⟨0,h,R',?_,q⟩;unfold DoR;rw [Za hw,Za k8,Zb k3,Zb hc];exact ⟨rfl,rfl,P⟩
  ·have D:DoR h R e seq (ZJ (viewI h R) e) h R:=by unfold DoR;rw [Za hw,Za k8,Zb k3,Za hc];exact ⟨rfl,rfl,rfl⟩
   exact (ZmY h R e ev seq hs J hk hm hev hby hr hq k8 k3 hc).mono fun x w' q=>⟨_,h,R,D,q⟩
 by_cases hsk:0<seq∧seq<h.seq
 ·have D:DoR h R e seq 0 h R:=by unfold DoR;rw [Za hw,Za k8,Za k3,Zb hsk];exact ⟨rfl,rfl,rfl⟩
  exact (Zqe h R e ev seq hs J hk hm hev hby hr hq k8 k3 hsk.1 hsk.2).mono fun x w' q=>⟨0,h,R,D,q⟩
 have three:seq=0∨(0<seq∧h.seq<seq)∨(0<seq∧seq=h.seq):=by omega
 by_cases hc:ZJ (viewI h R) e=0
 ·have D:DoR h R e seq 0 (ZaG h e seq) (ZbE h e R):=by unfold DoR;rw [Za hw,Za k8,Za k3,Za hsk,Zb hc];exact ⟨rfl,rfl,rfl⟩
  rcases three with h0|⟨h0,h1⟩|⟨h0,h1⟩
  ·exact (Zn2 h R e ev seq hs J hk hm hev hby hr hq k8 k3 h0 hc hx).mono fun x w' q=>⟨0,_,_,D,q⟩
  ·exact (Zn3 h R e ev seq hs J hk hm hev hby hr hq k8 k3 h0 h1 hc hx).mono fun x w' q=>⟨0,_,_,D,q⟩
  ·exact (ZmZ h R e ev seq hs J hk hm hev hby hr hq k8 k3 h0 h1 hc hx).mono fun x w' q=>⟨0,_,_,D,q⟩
 ·by_cases ha:0<seq∧seq=h.seq
  ·have D:DoR h R e seq 0 h (Za1 h.ids R):=by unfold DoR;rw [Za hw,Za k8,Za k3,Za hsk,Za hc,Zb ha];exact ⟨rfl,rfl,rfl⟩
   exact (Zl1 h R e ev seq hs J hk hm hev hby hr hq k8 k3 ha.1 ha.2 hc hkt).mono fun x w' q=>⟨0,_,_,D,q⟩
  ·have D:DoR h R e seq (ZJ (viewI h R) e) h R:=by unfold DoR;rw [Za hw,Za k8,Za k3,Za hsk,Za hc,Za ha];exact ⟨rfl,rfl,rfl⟩
   rcases three with h0|⟨h0,h1⟩|h0
   ·exact (Zmc h R e ev seq hs J hk hm hev hby hr hq k8 k3 h0 hc).mono fun x w' q=>⟨_,_,_,D,q⟩
   ·exact (Zmd h R e ev seq hs J hk hm hev hby hr hq k8 k3 h0 h1 hc).mono fun x w' q=>⟨_,_,_,D,q⟩
   ·exact absurd h0 ha
theorem Zn4 (h:Hd) (R:List RO) (e:Ev) (ev:Value) (seq:Int) {m:Nat} (hs:St W I w (Zd p S::imgHP q p h::l)) (J:IJ S h R) (hk:Keeps S (m+2080)) (hm:m<=90000) (hev:Zw I ev e.data) (hby:∀ x ∈ e.data,isByte x) (hkt:Keeps S 3000) (hx:h.next<1073741824) :
  Calls prog 17 #[pointer (some ⟨q,0,none⟩),e.val ev,int i64 seq] w fun x w'=>∃ I',I.sub I'∧∃ ans,x=.returned (int i64 ans)∧∃ S' h' R',St W I' w' (Zd p S'::imgHP q p h'::l)∧DoR h R e seq ans h' R'∧IJ S' h' R'∧Keeps S' m:=by
 refine (Zqf h R e ev seq hs J hk hm hev hby hkt hx).mono ?_;rintro x w' ⟨ans,h',R',D,I',q1,q2,S',q3,q4,q5,q6⟩;exact ⟨I',q1,ans,q2,S',h',R',q3,D,(D.hd J.hd hx).ij q4 q5,q6⟩
end
end Go.Proofs.YtcbdghojlbpomaaGreat
