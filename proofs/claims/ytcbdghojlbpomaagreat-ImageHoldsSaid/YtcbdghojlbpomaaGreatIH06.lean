import Derived.Test.YtcbdghojlbpomaaGreatIH05
set_option linter.all false
namespace Go.Proofs.YtcbdghojlbpomaaGreat
open Tryz
open HP (pt mapOf)
open Go.IntKind (i64 u64)
open Go.Value (int pointer slice)
open Go.Obj (cells)
open Go.RowKit
theorem del_keep {ms M:List Mk} {i j:Nat} {m:Mk} (h1:M.take i=(ms.take j).filter fun m=>!goneB m) (h2:M.drop j=ms.drop j) (hij:i<j) (hl:M.length=ms.length) (hm:ms[j]?=some m) :
  M[j]?=some m∧(goneB m=true->M.take i=(ms.take (j+1)).filter fun m=>!goneB m)∧(goneB m=false->(M.set i m).take (i+1)=(ms.take (j+1)).filter fun m=>!goneB m)∧M.drop (j+1)=ms.drop (j+1)∧(M.set i m).drop (j+1)=ms.drop (j+1):=by
 have hj:=(ZS.1 hm).1;have h3:M[j]?=some m:=by
  have:=congrArg (fun l:List Mk=>l[0]?) h2;simp only [Zb9,Zbg] at this;rw [this,hm]
 have h4:M.drop (j+1)=ms.drop (j+1):=by
  rw [<-List.drop_drop,<-List.drop_drop,h2]
 have h5:(ms.take (j+1)).filter (fun m=>!goneB m)=(ms.take j).filter (fun m=>!goneB m)++(if goneB m=true then [] else [m]):=by
  rw [take_snocM hm,Zca];congr 1;cases hg:goneB m with
  | true=>rw [ZdZ (by simp [hg]),Zb rfl];rfl
  | false=>rw [Zfn (by simp [hg]),Za (by simp)];rfl
 refine ⟨h3,fun hg=>?_,fun hg=>?_,h4,?_⟩
 ·rw [h5,Zb hg,ZdG,h1]
 ·rw [h5,Za (by rw [hg];simp),<-h1];have:(M.set i m)[i]?=some m:=List.getElem?_set_self (by omega);rw [take_snocM this,List.take_set,List.set_eq_of_length_le (by rw [ZN];omega)]
 ·rw [List.drop_set,Zb (by omega),h4]
section
variable {W w : World} {I : Hp} {l : List HP}
set_option maxRecDepth 4000
set_option maxHeartbeats 8000000
theorem mdelete_spec (ms:List Mk) {A:Option Addr} {c:Nat} (hst:St W I w (HP.win 66 4 (slice A ms.length c) ms.length (ms.flatMap Mk.vals)::l)) (hnm:∀ m ∈ ms,1<=m.name.size) (hex:∃ m ∈ ms,goneB m=true) (h17:ms.length<=1000) :
  Calls prog 93 #[slice A ms.length c,.func (.func 94) #[] #[]] w fun e w'=>∃ A' c',e=.returned (slice A' (ms.filter fun m=>!goneB m).length c')∧St W I w' (HP.win 66 4 (slice A' (ms.filter fun m=>!goneB m).length c') (ms.filter fun m=>!goneB m).length ((ms.filter fun m=>!goneB m).flatMap Mk.vals)::l):=by
 have HIX:=Zh (mindex_spec ms (slice A ms.length c) w (hst.win_src (Zb6 ms) (by decide)) hnm hex h17);obtain ⟨m0,hm0,_⟩:=hex;have hpos:=List.length_pos_of_mem hm0;obtain ⟨g,q,c1,e1,_,hcn,_⟩:=hst.win_cell (by rw [hst.win_len];omega);simp only [ZF,ZK] at e1;obtain ⟨rfl,rfl⟩:=e1;have HST:=Zh hst;have HN:=Zh hnm;obtain ⟨n,hn⟩:∃ n,ms.length=n:=⟨_,rfl⟩;rw [hn] at HIX HST h17 hpos hcn |-;have HNN:=Zh hn;clear hst hnm hm0 hn;go_enter func93,ntmps93;go_wp2_with fail;refine HIX.o.mono ?_;rintro e w2 ⟨i0,mi,rfl,hmi,hgi,hno,hb2⟩;have hi0:i0<n:=by have:=(ZS.1 hmi).1;have:=HNN.o;omega
 have hk0:ms.take i0=(ms.take (i0+1)).filter fun m=>!goneB m:=by
  rw [take_snocM hmi,Zca,Zcy.2 (fun x hx=>by rw [hno x hx];rfl),ZdZ (by rw [hgi];simp)];simp
 have HK0:=Zh hk0;have H2:=Zh (HST.o.keep hb2);have d0:((i0:Int)==-1)=false:=by rw [Zfk];omega
 clear hmi hgi hno hb2 hk0 HIX HST;go_wp2;go_loopw [5,6] (fun a5 a6 wr=>∃ (i j:Nat) (M:List Mk),a5=int i64 i∧a6=int i64 j∧j<=n∧i<j∧M.length=n∧M.take i=(ms.take j).filter (fun m=>!goneB m)∧M.drop j=ms.drop j∧St W I wr (HP.win 66 4 (slice (some ⟨g,q,none⟩) n c) n (M.flatMap Mk.vals)::l)) (fun _ a6 _=>n - (intOf a6).toNat);case atStart=>exact ⟨i0,i0+1,ms,rfl,by go_num,by omega,by omega,HNN.o,HK0.o,rfl,H2.o⟩
 case round =>
  obtain ⟨i,j,M,rfl,rfl,hj,hij,hMl,hMt,hMd,hst⟩:=hrel;clear H2 HK0 hi0 d0;by_cases hlt:j<n
  ·have d0:decide ((j:Int)<(n:Int))=true:=by rw [Ze];omega
   obtain ⟨m,hm⟩:∃ m,ms[j]?=some m:=⟨_,ZL (by have:=HNN.o;omega)⟩;obtain ⟨k1,k2,k3,k4,k5⟩:=del_keep hMt hMd hij (hMl.trans HNN.o.symm) hm;obtain ⟨mo,hmo⟩:∃ x,M[i]?=some x:=⟨_,ZL (by omega)⟩;have hgo:=igone_spec m (HN.o m (Zay hm));obtain ⟨gb,hgb⟩:∃ x,goneB m=x:=⟨_,rfl⟩;simp only [hgb] at hgo;rw [hgb] at k2 k3;have HGO:=Zh hgo;obtain ⟨fz,hlw,_⟩:=hst.win_free;obtain ⟨id,s,z,b⟩:=m;simp only at HGO;have y0:wr.cell? ⟨g,q+j*4,none⟩=some (int i64 id):=hst.win_elem (mk:=Mk.vals) (fun _=>rfl) k1 0 (by decide);have y1:wr.cell? ⟨g,q+j*4+1,none⟩=some (.string s):=hst.win_elem (mk:=Mk.vals) (fun _=>rfl) k1 1 (by decide);have y2:wr.cell? ⟨g,q+j*4+2,none⟩=some (int i64 (z:Int)):=hst.win_elem (mk:=Mk.vals) (fun _=>rfl) k1 2 (by decide);have y3:wr.cell? ⟨g,q+j*4+3,none⟩=some (.bool b):=hst.win_elem (mk:=Mk.vals) (fun _=>rfl) k1 3 (by decide);have ha:=hst.alloc (cells #[int i64 id,.string s,int i64 z,.bool b] 66);obtain ⟨g7,hg7⟩:∃ x,wr.heap.size=x:=⟨_,rfl⟩;rw [hg7] at ha;have HG7:=Zh hg7;have HA:=Zh ha;have K2:=Zh k2;have K3:=Zh k3;have K4:=Zh k4;have K5:=Zh k5;have HMO:=Zh hmo;clear hst ha hg7 k1 k2 k3 k4 k5 hm hMt hMd hgo hmo hgb;go_upto_region 8 with fail;rw [HG7.o];have h3:=HA.o;generalize (World.alloc _ _:World)=w3 at h3 |-;clear y0 y1 y2 y3 fz hlw HG7 HA;obtain ⟨z0,z1,z2,z3⟩:=ZX h3;have HG:=Zh (HGO.o w3);have H3:=Zh h3;clear h3 HGO;cases gb with
   | true =>
    go_wp2_with fail;refine HG.o.mono ?_;rintro e w4 ⟨rfl,hb4⟩;have H4:=Zh (H3.o.keep hb4);clear z0 z1 z2 z3 hb4 H3 HG;go_wp2;go_roundw;case rel=>exact ⟨i,j+1,M,rfl,by go_num,by omega,by omega,hMl,K2.o (by first|trivial|rfl),K4.o,H4.o.drop⟩
    case measure=>simp [intOf]<;>omega
   | false =>
    go_wp2_with fail;refine HG.o.mono ?_;rintro e w4 ⟨rfl,hb4⟩;have h4:=H3.o.keep hb4;clear z0 z1 z2 z3;obtain ⟨z0,z1,z2,z3⟩:=ZX h4;have h5:=h4.pull 1 _ rfl;have hmo:=HMO.o;obtain ⟨mo0,mo1,mo2,mo3⟩:=mo;have hiM:i<M.length:=by omega
    have s1:=h5.win_set hMl (mk:=Mk.vals) (fun _=>rfl) ⟨id,mo1,mo2,mo3⟩ (v:=int i64 id) hmo (show 0<4 by decide) rfl;have s2:=s1.win_set (by rw [Zde];exact hMl) (mk:=Mk.vals) (fun _=>rfl) ⟨id,s,mo2,mo3⟩ (v:=.string s) (List.getElem?_set_self hiM) (show 1<4 by decide) rfl;rw [List.set_set] at s2;have s3:=s2.win_set (by rw [Zde];exact hMl) (mk:=Mk.vals) (fun _=>rfl) ⟨id,s,z,mo3⟩ (v:=int i64 z) (List.getElem?_set_self hiM) (show 2<4 by decide) rfl;rw [List.set_set] at s3;have s4:=s3.win_set (by rw [Zde];exact hMl) (mk:=Mk.vals) (fun _=>rfl) ⟨id,s,z,b⟩ (v:=.bool b) (List.getElem?_set_self hiM) (show 3<4 by decide) rfl;rw [List.set_set] at s4;have y0:w4.cell? ⟨g,q+i*4,none⟩=some (int i64 mo0):=h5.win_elem (mk:=Mk.vals) (fun _=>rfl) hmo 0 (by decide);have y1:w4.cell? ⟨g,q+i*4+1,none⟩=some (.string mo1):=h5.win_elem (mk:=Mk.vals) (fun _=>rfl) hmo 1 (by decide);have y2:w4.cell? ⟨g,q+i*4+2,none⟩=some (int i64 (mo2:Int)):=h5.win_elem (mk:=Mk.vals) (fun _=>rfl) hmo 2 (by decide);have y3:w4.cell? ⟨g,q+i*4+3,none⟩=some (.bool mo3):=h5.win_elem (mk:=Mk.vals) (fun _=>rfl) hmo 3 (by decide);obtain ⟨fz,hlw,_⟩:=h5.win_free;have d1:(i:Int)<(n:Int):=by omega
    have H6:=Zh s4;clear h4 h5 hb4 s1 s2 s3 s4 hmo HG H3;go_wp2;go_roundw;case rel=>exact ⟨i+1,j+1,M.set i ⟨id,s,z,b⟩,by go_num,by go_num,by omega,by omega,by rw [Zde];exact hMl,K3.o (by first|trivial|rfl),K5.o,(H6.o.pull 1 _ rfl).drop⟩
    case measure=>simp [intOf]<;>omega
  ·obtain rfl:j=n:=by omega
   have d0:decide ((j:Int)<(j:Int))=false:=by rw [Zk];omega
   have hmt:ms.take j=ms:=Zew (by have:=HNN.o;omega);rw [hmt] at hMt;have hkl:(ms.filter fun m=>!goneB m).length=i:=by rw [<-hMt,ZN];omega
   obtain ⟨w5,hr5,h5⟩:=hst.win_clearM hij (c - i) 0;have hf:(M.flatMap Mk.vals).take (i*4)=(ms.filter fun m=>!goneB m).flatMap Mk.vals:=by
    rw [<-hMt];have e:M.flatMap Mk.vals=(M.take i).flatMap Mk.vals++(M.drop i).flatMap Mk.vals:=by rw [<-ZcX,ZdH]
    have e2:((M.take i).flatMap Mk.vals).length=i*4:=by rw [ZeY (mk:=Mk.vals) (k:=4) (fun _=>rfl),ZN];congr 1;omega
    rw [e,<-e2];exact Zgm
   rw [hf] at h5;have HR5:=Zh hr5;have H5:=Zh h5;have HKL:=Zh hkl;have d1:(i:Int)<=(j:Int):=by omega
   have d2:(i:Int)<=(c:Int):=by omega
   have d3:¬ c=i:=by omega
   clear hst hr5 h5 hf hkl hmt hMt hMd;have hr5:=HR5.o;go_wp2;go_ret;rw [HKL.o];exact ⟨_,_,rfl,H5.o⟩
end
end Go.Proofs.YtcbdghojlbpomaaGreat
namespace Go.Proofs.YtcbdghojlbpomaaGreat
open Tryz
open HP (pt mapOf)
open Go.IntKind (i64 u64)
open Go.Value (int pointer slice)
open Go.Obj (cells)
open Go.RowKit
section
variable {W w : World} {I : Hp} {l : List HP} {p q : Nat} {S : Str}
set_option maxRecDepth 4000
set_option maxHeartbeats 8000000
theorem ifree_none (h:Hd) (R:List RO) (hs:St W I w (Zd p S::imgHP q p h::l)) (J:IJ S h R) (hx:heldM h.marks=none) :
  Calls prog 30 #[pointer (some ⟨q,0,none⟩)] w fun x w'=>x=.returned (int i64 4)∧Below w.heap.size w w':=by
 have HM:=Zh (ZbK hs J.st.live.on);have hnm:∀ x ∈ h.marks,1<=x.name.size:=fun x hx=>(Mk.named_size (J.ok.names x hx)).1;obtain ⟨v,hv,hi⟩:=(hs.pull 1 _ rfl).img_open;have hh:=Zjs h hnm v w (ZbW hi hv) (ZQ J.ok.many (by decide));rw [hx] at hh;obtain ⟨c0,c1,c2,c3,c4,c5,c6,c7,c8,c9⟩:=Zz hi;have HH:=Zh hh;clear hs J hi hv hh hnm hx;obtain ⟨sz,⟨o,u,cn⟩,nx,sq,ms⟩:=h;simp only [Hd.cells,mkVal] at *;go_enter func30,ntmps30;go_wp2_with fail;refine HM.o.mono ?_;rintro x w2 ⟨rfl,rfl⟩;go_wp2_with fail;refine HH.o.mono ?_;rintro e w2 ⟨rfl,hb2⟩;have HB:=Zh (hb2.trans ((ZM w2 (cells #[int i64 0,.string ⟨#[]⟩,int i64 0,.bool false] 66)).mono hb2.size));clear hb2 c0 c1 c2 c3 c4 c5 c6 c7 c8 c9 HH;go_wp2;go_ret;exact ⟨rfl,HB.o⟩
theorem ifree_spec (h:Hd) (R:List RO) {m:Nat} (hs:St W I w (Zd p S::imgHP q p h::l)) (J:IJ S h R) (hk:Keeps S (m+2)) (hm:m<=90000) {x:Mk} (hx:heldM h.marks=some x) :
  Calls prog 30 #[pointer (some ⟨q,0,none⟩)] w fun x w'=>∃ I',I.sub I'∧x=.returned (int i64 0)∧∃ S',St W I' w' (Zd p S'::imgHP q p (freeH h)::l)∧IJ S' (freeH h) (freeR h R)∧Keeps S' m:=by
 have HM:=Zh (ZbK hs J.st.live.on);have hnm:∀ x ∈ h.marks,1<=x.name.size:=fun x hx=>(Mk.named_size (J.ok.names x hx)).1;have h17:h.marks.length<=1000:=ZQ J.ok.many (by decide)
 have hex:∃ m ∈ h.marks,goneB m=true:=⟨x,Zd7 hx,by
  have:=List.find?_some hx;unfold goneB
  rw [this,Bool.or_true]⟩
 obtain ⟨b1,B⟩:=J.st.bar J.hd.mid.uok;have hr1:=J.recd.seen (S':=(Zr S).2) (by rw [B.seen]);have hkb:Keeps (Zr S).2 (m+2):=ZbS hk;have M:=J.hd.mid;have HG:HdI (freeH h) (freeR h R):=J.hd.free;obtain ⟨h2,hh2⟩:∃ x:Hd,freeH h=x:=⟨_,rfl⟩;obtain ⟨R2,hR2⟩:∃ x,freeR h R=x:=⟨_,rfl⟩;have e3:Za1 h2.ids R=R2:=by rw [<-hR2,<-hh2];rfl
 rw [hh2,hR2] at HG |-;have hok2:=HG.ok;have sv:=B.st.save M hr1 hok2 (roll:=0) M;obtain ⟨S2,hS2⟩:∃ x,(saveH (Zr S).2 h2 0).2=x:=⟨_,rfl⟩;have sv1:=sv.1;rw [hS2] at sv;have hk2:Keeps S2 98000:=sv.2.1.fresh M.uok sv.2.2.2 (m:=m) (by rw [<-hS2];exact Zed hkb);obtain ⟨F2,hF2⟩:∃ x,imgHP q p h2=x:=⟨_,rfl⟩
 have KP:Hid (∀ (v:Value) (wx:World) (I':Hp) (l':List HP),St W I' wx (Zd p S::imgHP q p h::l')->(mksIP v h2.marks).p I'->Calls prog 95 #[pointer (some ⟨q,0,none⟩),.agg (h2.cells v),int i64 0] wx fun e w'=>∃ I'',I'.sub I''∧e=.returned (int i64 0)∧St W I'' w' (Zd p S2::F2::l')):=Zh (fun v wx I' l' hst hv=>by
  have:=ZeS h h2 hok2 0 (by decide) (by decide) v hst hk hv b1 sv1;rw [hS2,hF2] at this
  exact this)
 obtain ⟨t1,t2,t3,t4,t5⟩:=sv.2.1.tidied M (ms:=h2.ids) (by rw [e3];exact HG.mid);have hkl:=sv.2.1.keysLen M.uok;have hk3:Keeps (tidyS S2 0 h2.ids).2 90000:=ZiK (hk2.fewer (by omega));rw [e3] at t3
 have TD:Hid (∀ (wx:World) (I':Hp) (l':List HP),St W I' wx (Zd p S2::F2::l')->Calls prog 73 #[pointer (some ⟨q,0,none⟩)] wx fun e w'=>∃ I'',I'.sub I''∧e=.returned (int i64 0)∧∃ S',St W I'' w' (Zd p S'::F2::l')∧IJ S' h2 R2∧Keeps S' m):=Zh (fun wx I' l' hst=>by
  rw [<-hF2] at hst;refine (Zjt h2 (m:=90000) hst (hk2.fewer (by omega)) (ZQ hok2.many (by decide)) t1 t2 hk3).mono ?_;rintro x w' ⟨I'',q1,q2,q3⟩;rw [hF2] at q3
  exact ⟨I'',q1,q2,_,q3,HG.ij t3 (sv.2.2.1.seen t4),(ZbS hk3).fewer hm⟩)
 obtain ⟨v,hv,hi⟩:=(hs.pull 1 _ rfl).img_open;have hh:=Zjs h hnm v w (ZbW hi hv) h17;rw [hx] at hh;obtain ⟨c0,c1,c2,c3,c4,c5,c6,c7,c8,c9⟩:=Zz hi;have HH:=Zh hh;have HS:=Zh hs;have COP:=Zh (fun (v:Value) (wx:World) (l':List HP) (hst:St W I wx l') (hv:SliceSrc wx 4 v h.marks.length (h.marks.flatMap Mk.vals))=>ZeM h v wx hst hv h17);have OPEN:=Zh (fun (wx:World) (l':List HP) (hst:St W I wx (imgHP q p h::l'))=>hst.img_open);have DEL:=Zh (fun (A:Option Addr) (c:Nat) (wx:World) (l':List HP) (hst:St W I wx (HP.win 66 4 (slice A h.marks.length c) h.marks.length (h.marks.flatMap Mk.vals)::l'))=>mdelete_spec h.marks hst hnm hex h17);have e5:(h.marks.filter fun m=>!goneB m)=h2.marks:=by rw [<-hh2];rfl
 have e4:∀ v,h2.cells v=#[int i64 h.size,int i64 h.l.order,int i64 h.l.unit,int i64 h.l.count,int i64 h.next,int i64 h.seq,v]:=fun v=>by rw [<-hh2];rfl
 obtain ⟨ms2,hms2⟩:∃ x,h2.marks=x:=⟨_,rfl⟩;simp only [e5,hms2] at DEL;rw [hms2] at KP;obtain ⟨F1,hF1⟩:∃ x,imgHP q p h=x:=⟨_,rfl⟩;have HF2:=Zh hF2;simp only [hF1,e4] at KP HS OPEN;clear hs J hk hm hi hv hh hnm HG B b1 hr1 hkb M hok2 sv sv1 hk2 hS2 h17 hx hF1 hh2 e3 e4 e5 hex hms2 t1 t2 t3 t4 t5 hkl hk3 hR2;rw [hF2];clear hF2;obtain ⟨sz,⟨o,u,cn⟩,nx,sq,ms⟩:=h;obtain ⟨xi,xn,xs,xg⟩:=x;simp only [Hd.cells,mkVal] at *;go_enter func30,ntmps30;go_wp2_with fail;refine HM.o.mono ?_;rintro x w2 ⟨rfl,rfl⟩;go_wp2_with fail;refine HH.o.mono ?_;rintro e w2 ⟨rfl,hb2⟩;have H3:=Zh ((HS.o.keep hb2).alloc (cells #[int i64 xi,.string xn,int i64 xs,.bool xg] 66));clear hb2 c0 c1 c2 c3 c4 c5 c6 c7 c8 c9 HH HM HS;go_upto_region 5 with fail;have h3:=H3.o;obtain ⟨g4,hg4⟩:∃ g,w2.heap.size=g:=⟨_,rfl⟩;rw [hg4] at h3;try simp only [hg4]
 generalize (World.alloc _ _:World)=w3 at h3 |-;obtain ⟨v3,hv3,hi3⟩:=OPEN.o _ _ (h3.pull 2 _ rfl);obtain ⟨c0,c1,c2,c3,c4,c5,c6,c7,c8,c9⟩:=Zz hi3;have HCO:=Zh (COP.o v3 _ _ h3 (ZbW hi3 hv3));clear h3 H3 hv3 hi3 OPEN COP hg4;go_wp2_with fail;refine HCO.o.mono ?_;rintro e w5 ⟨A5,rfl,h5⟩;have h6:=h5.alloc (cells #[int i64 sz,int i64 o,int i64 u,int i64 cn,int i64 nx,int i64 sq,slice A5 ms.length ms.length] 51);obtain ⟨g6,hg6⟩:∃ g,w5.heap.size=g:=⟨_,rfl⟩;rw [hg6] at h6;have H6:=Zh h6;have HG6:=Zh hg6;clear h5 h6 hg6 HCO c0 c1 c2 c3 c4 c5 c6 c7 c8 c9;go_upto_region 8 with fail;rw [HG6.o];have h6:=H6.o;generalize (World.alloc _ _:World)=w6 at h6 |-;obtain ⟨x0,x1,x2,x3,x4,x5,x6⟩:=ZW h6;have HD:=Zh (DEL.o A5 ms.length w6 _ (h6.pull 1 _ rfl));clear h6 H6 HG6 DEL;go_wp2_with fail;refine HD.o.mono ?_;rintro e w7 ⟨A7,c7,rfl,h7⟩;have h8:=h7.pull 1 _ rfl;simp only [Zx,Zy] at h8;clear x0 x1 x2 x3 x4 x5 x6;obtain ⟨x0,x1,x2,x3,x4,x5,x6⟩:=ZW h8;have f:=frozen_of_row h8.heap;have h10:St W I _ (pt g6 (cells #[int i64 sz,int i64 o,int i64 u,int i64 cn,int i64 nx,int i64 sq,slice A7 ms2.length c7] 51)::_):=h8.setCell 6 (slice A7 ms2.length c7);obtain ⟨I8,hs8,hr8,h11⟩:=(h10.pull 1 _ rfl).freeze_win;simp only [Zx,Zy] at h11;have HKP:=Zh (KP.o _ _ _ _ ((h11.pull 3 _ rfl).pull 3 _ rfl) hr8);simp only [Zx,Zy] at HKP;have HS8:=Zh hs8;clear h7 h8 h10 h11 hs8 hr8 KP HD;go_wp2_with fail;refine HKP.o.mono ?_;rintro x w9 ⟨I9,hs9,rfl,h9⟩;have HCU:=Zh (TD.o _ _ _ h9);have HS9:=Zh (HS8.o.trans hs9);clear h9 hs9 x0 x1 x2 x3 x4 x5 x6 f HKP TD;go_wp2_with fail;refine HCU.o.mono ?_;rintro x w10 ⟨I10,hs10,rfl,S',h10,q1,q2⟩;have HS10:=Zh (HS9.o.trans hs10);have HR:=Zh (And.intro h10 (And.intro q1 q2));clear hs10 h10 q1 q2;go_wp2;go_ret;obtain ⟨h10,q1,q2⟩:=HR.o;exact ⟨I10,HS10.o,rfl,S',((h10.pull 2 _ rfl).drop.pull 2 _ rfl).drop,q1,q2⟩
end
end Go.Proofs.YtcbdghojlbpomaaGreat
namespace Go.Proofs.YtcbdghojlbpomaaGreat
open Tryz
open HP (pt mapOf)
open Go.IntKind (i64 u64)
open Go.Value (int pointer slice)
open Go.Obj (cells)
open Go.RowKit
theorem VwB.view {h:Hd} {R:List RO} (H:HdI h R):VwB (viewI h R):=by
 refine ⟨?_,?_,fun x hx=>?_⟩
 ·show (Zag h.l R 0 h.size).length<=512;rw [ZaO];exact H.ok.size
 ·show (h.seen.map _).length<=8;rw [ZE];exact H.ok.few
 ·obtain ⟨m,hm,rfl⟩:=ZH.1 hx;show (Zag h.l R m.id m.size).length<=512;rw [ZaO];exact H.ok.sizes m (ZcH hm)
section
variable {W w : World} {I : Hp} {l : List HP} {p q : Nat} {S : Str}
set_option maxRecDepth 8000
set_option maxHeartbeats 16000000
theorem ZhL {v:Value} {V:Vw} (hv:VwI I v V):∃ A n c B m d,v=.agg #[slice A n c,slice B m d]∧n=V.data.length:=by
 obtain ⟨vd,vs,M,rfl,hd,hr,ho⟩:=hv;obtain ⟨A0,c0,rfl,_⟩:=hd.cap;obtain ⟨B0,d0,rfl,_⟩:=hr.cap;exact ⟨_,_,_,_,_,_,rfl,rfl⟩
end
end Go.Proofs.YtcbdghojlbpomaaGreat
namespace Go.Proofs.YtcbdghojlbpomaaGreat
open Tryz
open HP (pt mapOf)
open Go.IntKind (i64 u64)
open Go.Value (int pointer slice)
open Go.Obj (cells)
open Go.RowKit
section
variable {W w : World} {I : Hp} {l : List HP}
set_option maxRecDepth 4000
set_option maxHeartbeats 8000000
theorem kafter_spec (es:List (Ev × Value)) (n:Nat) (hn:n<=512) (vl:Value) (hs:St W I w l) (he:EvsI I vl es) (hnm:∀ x ∈ es,x.1.name.size<=1000) :
  Calls prog 25 #[int i64 n,vl] w fun x w'=>∃ I',I.sub I'∧∃ v',x=.returned v'∧VwI I' v' (foldV ⟨List.replicate n 0,[]⟩ (es.map (·.1)))∧St W I' w' l:=by
 have h1:=hs.alloc (cells #[slice none 0 0,slice none 0 0] 35);obtain ⟨g,hg⟩:∃ g,w.heap.size=g:=⟨_,rfl⟩;rw [hg] at h1;have HG:=Zh hg;have H1:=Zh h1;have HE:=Zh he;have HNM:=Zh hnm;obtain ⟨AE,cE,rfl,_⟩:=RowI.cap he.1;clear hs h1 hg he hnm;go_enter func25,ntmps25;go_upto_region 1 with fail;rw [HG.o];have h1:=H1.o;generalize (World.alloc _ _:World)=w1 at h1 |-;have HN:=Zh (ZmX n hn h1);clear H1 HG h1;go_wp2_with fail;refine HN.o.mono ?_;rintro x w2 ⟨I2,A2,c2,hs2,rfl,hb2,h2⟩;have HV:=Zh (show VwI I2 (.agg #[slice A2 n c2,slice none 0 0]) ⟨List.replicate n 0,[]⟩ from ⟨_,_,[],rfl,hb2,Zkl _ _,OldsI.nil _⟩);have HF:=Zh (ZnX es ⟨List.replicate n 0,[]⟩ _ _ h2 HV.o ⟨by rw [Za7];exact hn,by simp,fun x hx=>by cases hx⟩ (HE.o.mono hs2) HNM.o);have HS2:=Zh hs2;clear hb2 h2 hs2 HN;go_wp2_with fail;refine HF.o.mono ?_;rintro x w3 ⟨I3,hs3,v3,rfl,hv3,h3⟩;obtain ⟨A3,n3,c3,B3,m3,d3,rfl,hn3⟩:=ZhL hv3;obtain ⟨y0,y1⟩:=Zq h3;have fz:=frozen_of_row h3.heap;have H4:=Zh (h3.set2 (slice A3 n3 c3) (slice B3 m3 d3));have HV3:=Zh hv3;have HS3:=Zh (HS2.o.trans hs3);clear h3 hv3 hs3 hn3 HF;go_wp2_with fail;have h4:=H4.o;generalize (World.setCell _ _ _:World)=w9 at h4 |-;clear y0 y1;obtain ⟨y0,y1⟩:=Zq h4;refine ZaK (v:=.agg #[slice A3 n3 c3,slice B3 m3 d3]) (by simp [results,results25,go_sem,y0,y1]) rfl ?_;exact ⟨I3,HS3.o,_,rfl,HV3.o,h4.drop⟩
end
end Go.Proofs.YtcbdghojlbpomaaGreat
namespace Go.Proofs.YtcbdghojlbpomaaGreat
open Tryz
open HP (pt mapOf)
open Go.IntKind (i64 u64)
open Go.Value (int pointer slice)
open Go.Obj (cells)
open Go.RowKit
section
variable {W w : World} {I : Hp} {l : List HP} {p q : Nat} {S : Str}
set_option maxRecDepth 4000
set_option maxHeartbeats 8000000
theorem IJ.view (h:Hd) (R:List RO) {m:Nat} (hs:St W I w (Zd p S::imgHP q p h::l)) (J:IJ S h R) (hk:Keeps S m) :
  Calls prog 20 #[pointer (some ⟨q,0,none⟩)] w fun e w'=>∃ I' v,I.sub I'∧e=.returned (.tuple #[v,int i64 0])∧VwI I' v (viewI h R)∧St W I' w' (Zd p S::imgHP q p h::l) :=
 Zhd h R hs hk.inv J.ok J.st.live.on (fun snap s0 s1=>J.st.reads J.hd.mid s0 s1)
end
end Go.Proofs.YtcbdghojlbpomaaGreat
namespace Go.Proofs.YtcbdghojlbpomaaGreat
open Tryz
open HP (pt mapOf)
open Go.IntKind (i64 u64)
open Go.Value (int pointer slice)
open Go.Obj (cells)
open Go.RowKit
section
variable {W w : World} {I : Hp} {l : List HP} {p q : Nat} {S : Str}
set_option maxRecDepth 8000
set_option maxHeartbeats 16000000
theorem holds_one {ca cb:Code} {Q:Exit->Act->World->Prop} {K:Act->World->Prop} (hK:∀ x y,cb.wp prog Q x y->K x y) (hC:(f5).body.bind (fromR 27)=some (.seq ca cb)) {x0 x1 x2 x3 x4 x5 x6 x7 x8 x9 x10 x11 x12 x14 x16 x17 x18 x23 x24 x25 x26 x27 x28 x29 x30 x31 x32 x33 x34 x35 x36 x37 x38 x39 x40 x41 x42 x43 x44 x45 x46 x47 x48 x49 x50 x51 x52 x53 x54 x55 x56 x57 x58 x59 x60 x61 x62 x63 x64 x65 x66 x67 x68 x69 x70 x71 x72 x73 x74 x75 x76 x77 x78 x79 x80 x81 x82 x83 x84 x85 x86 x87 x88 x89 x90 x91 x92 x93 x94 x95 x96 x97 x98 x99 x100 x101 x102 x103 x104 x105 x106 x107 x108 x109 x110 x111 x112 x113 x114 x115 x116 x117 x118 x119 x120 x121 x122 x123 x124 x125 x126 x127 x128 x129 x130 x131 x132 x133 x134 x135 x136 x137 x138 x139 x140 x141 x142 x143 x144 x145 x146 x147 x148 x149 x150 x151 x152 x153 x154 x155 x156 x157 x158 x159 x160 x161 x162 x163 x164 x165 x166 x167 x168 x169 x170 x171 x172 x173 x174 x175 x176 x177 x178 x179 x180 x181 x182 x183 x184 x185 x186 x187 x188 x189 x190 x191 x192 x193 x194 x195 x196 x197 x198 x199 x200 x201 x202 x203 x204 x205 x206 x207 x208 x209 x210 x211 x212 x213 x214 x215 x216 x217 x218 x219 x220 x221 x222 x223 x224 x225 x226 x227 x228 x229 x230 x231 x232 x233 x234 x235 x236:Value} {g13 n cL cu mk N nl:Nat} {AL Au:Option Addr} {h:Hd} {R:List RO} {m:Mk} {L:Ly} {F1:HP} {hl:List Mk}
  (hL:h.l=L) (hF1:imgHP q p h=F1) (hhl:heldL h.marks=hl) (hnl:hl.length=nl)
  (hs:St W I w (pt g13 (cells #[int i64 L.order,int i64 L.unit,int i64 L.count] 30)::Zd p S::F1::l)) (J:IJ S h R) (hk:Keeps S mk) (hm:hl[n]?=some m) (hob:IsObjs L m.size N)
  (hr:RowI I 4 (slice AL nl cL) nl (hl.flatMap Mk.vals)) (hD:Zw I (slice Au m.size cu) (Zag L R m.id m.size)) (hg:m.gone=false)
  (hQ:∀ (y23 y24 y115 y116 y117 y118 y119 y120 y121 y122 y123 y124 y125 y126 y127 y128 y129 y130 y131 y132 y133 y134 y135 y136 y137 y138 y139 y140 y141 y142 y143 y144 y145 y146 y147 y148 y149 y150 y151 y152 y153 y154 y155 y156 y157 y158:Value) (I':Hp) (w':World),I.sub I'->St W I' w' (pt g13 (cells #[int i64 L.order,int i64 L.unit,int i64 L.count] 30)::Zd p S::F1::l)->Q .normal ⟨#[x0,x1,x2,x3,x4,x5,x6,x7,x8,x9,x10,x11,x12,pointer (some ⟨g13,0,none⟩),x14,pointer (some ⟨q,0,none⟩),x16,x17,x18,slice AL nl cL,int i64 n,.string m.name,slice Au m.size cu,y23,y24,x25,x26,x27,x28,x29,x30,x31,x32,x33,x34,x35,x36,x37,x38,x39,x40,x41,x42,x43,x44,x45,x46,x47,x48,x49,x50,x51,x52,x53,x54,x55,x56,x57,x58,x59,x60,x61,x62,x63,x64,x65,x66,x67,x68,x69,x70,x71,x72,x73,x74,x75,x76,x77,x78,x79,x80,x81,x82,x83,x84,x85,x86,x87,x88,x89,x90,x91,x92,x93,x94,x95,x96,x97,x98,x99,x100,x101,x102,x103,x104,x105,x106,x107,x108,x109,x110,x111,x112,x113,x114,y115,y116,y117,y118,y119,y120,y121,y122,y123,y124,y125,y126,y127,y128,y129,y130,y131,y132,y133,y134,y135,y136,y137,y138,y139,y140,y141,y142,y143,y144,y145,y146,y147,y148,y149,y150,y151,y152,y153,y154,y155,y156,y157,y158,x159,x160,x161,x162,x163,x164,x165,x166,x167,x168,x169,x170,x171,x172,x173,x174,x175,x176,x177,x178,x179,x180,x181,x182,x183,x184,x185,x186,x187,x188,x189,x190,x191,x192,x193,x194,x195,x196,x197,x198,x199,x200,x201,x202,x203,x204,x205,x206,x207,x208,x209,x210,x211,x212,x213,x214,x215,x216,x217,x218,x219,x220,x221,x222,x223,x224,x225,x226,x227,x228,x229,x230,x231,x232,x233,x234,x235,x236],[]⟩ w') :
  ca.wp prog (Exit.then K Q) ⟨#[x0,x1,x2,x3,x4,x5,x6,x7,x8,x9,x10,x11,x12,pointer (some ⟨g13,0,none⟩),x14,pointer (some ⟨q,0,none⟩),x16,x17,x18,slice AL nl cL,int i64 n,.string m.name,slice Au m.size cu,x23,x24,x25,x26,x27,x28,x29,x30,x31,x32,x33,x34,x35,x36,x37,x38,x39,x40,x41,x42,x43,x44,x45,x46,x47,x48,x49,x50,x51,x52,x53,x54,x55,x56,x57,x58,x59,x60,x61,x62,x63,x64,x65,x66,x67,x68,x69,x70,x71,x72,x73,x74,x75,x76,x77,x78,x79,x80,x81,x82,x83,x84,x85,x86,x87,x88,x89,x90,x91,x92,x93,x94,x95,x96,x97,x98,x99,x100,x101,x102,x103,x104,x105,x106,x107,x108,x109,x110,x111,x112,x113,x114,x115,x116,x117,x118,x119,x120,x121,x122,x123,x124,x125,x126,x127,x128,x129,x130,x131,x132,x133,x134,x135,x136,x137,x138,x139,x140,x141,x142,x143,x144,x145,x146,x147,x148,x149,x150,x151,x152,x153,x154,x155,x156,x157,x158,x159,x160,x161,x162,x163,x164,x165,x166,x167,x168,x169,x170,x171,x172,x173,x174,x175,x176,x177,x178,x179,x180,x181,x182,x183,x184,x185,x186,x187,x188,x189,x190,x191,x192,x193,x194,x195,x196,x197,x198,x199,x200,x201,x202,x203,x204,x205,x206,x207,x208,x209,x210,x211,x212,x213,x214,x215,x216,x217,x218,x219,x220,x221,x222,x223,x224,x225,x226,x227,x228,x229,x230,x231,x232,x233,x234,x235,x236],[]⟩ w:=by
 injection hC with hC;injection hC with hC1 hC2;subst hC1 hC2;have HQ:=Zh hQ;have hlh:=(lheld_spec h R n m N (w:=w) (W:=W) (I:=I) (p:=p) (q:=q) (S:=S) (l:=pt g13 (cells #[int i64 L.order,int i64 L.unit,int i64 L.count] 30)::l) ⟨by rw [hF1];exact ((hs.pull 2 _ rfl).pull 2 _ rfl),J,by rw [hhl];exact hm,by rw [hL];exact hob⟩ hk);have hlv:h.l.val=.agg #[int i64 L.order,int i64 L.unit,int i64 L.count]:=by rw [hL];rfl
 rw [hlv,hL,hF1] at hlh;obtain ⟨B,hB⟩:∃ x,Zag L R m.id m.size=x:=⟨_,rfl⟩;rw [hB] at hlh hD;have hBl:B.length=m.size:=by rw [<-hB];exact ZaO ..
 have hnl2:n<nl:=by have:=(ZS.1 hm).1;omega
 rw [<-hnl] at hr;have HLH:=Zh hlh;have HR:=Zh hr;have HD:=Zh hD;have HM:=Zh hm;have HBL:=Zh hBl;have HNL:=Zh hnl;obtain ⟨x0,x1,x2⟩:=Zbw hs;clear hs J hk hob hL hlv hB hF1 hhl hlh hr hD hQ hm hBl hnl;obtain ⟨mi,mn,mz,mg⟩:=m;simp only at hg;subst hg;simp only at HLH HD HBL;go_wp2_with fail;refine HLH.o.mono ?_;rintro e w2 ⟨I2,hs2,v,rfl,hv,h2⟩;dsimp only;have h3:=h2.pull 2 _ rfl;simp only [Zx,Zy] at h3;obtain ⟨b,bo,e1,hc⟩:=ZbJ (i:=n) (mk:=Mk.vals) (k:=4) (RowI.mono hs2 HR.o) (Hp.sub.refl _) h3 (fun _=>rfl) HM.o;simp only [ZF,Zae,ZK] at e1;subst e1;have y1:w2.cell? ⟨b,bo+n*4+1,none⟩=some (.string mn):=hc 1 (by decide);have y2:w2.cell? ⟨b,bo+n*4+2,none⟩=some (int i64 (mz:Int)):=hc 2 (by decide);have y3:w2.cell? ⟨b,bo+n*4+3,none⟩=some (.bool false):=hc 3 (by decide);obtain ⟨AV,cV,rfl,_⟩:=RowI.cap hv;rw [HBL.o];have hd2:=(Zbv _ _).mono hs2 HD.o;have q1:=Zdk (hv.src h3.imm (Zac B) (by decide));rw [HBL.o] at q1;have q2:=Zdk (RowI.src hd2 h3.imm (Zac B) (by decide));have d1:(mn.toList==mn.toList)=true:=by simp
 have d2:((mz:Int)==(mz:Int))=true:=by simp
 have d3:((strOfNums B).toList==(strOfNums B).toList)=true:=by simp
 have H3:=Zh h3;have HS2:=Zh hs2;clear h2 h3 hs2 hv hd2 hc x0 x1 x2 HLH HD HR;go_wp2_with fail;exact HQ.o _ _ _ _ _ _ _ _ _ _ _ _ _ _ _ _ _ _ _ _ _ _ _ _ _ _ _ _ _ _ _ _ _ _ _ _ _ _ _ _ _ _ _ _ _ _ _ _ HS2.o H3.o
end
end Go.Proofs.YtcbdghojlbpomaaGreat
