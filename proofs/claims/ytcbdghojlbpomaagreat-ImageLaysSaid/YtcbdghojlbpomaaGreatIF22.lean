import Derived.Test.YtcbdghojlbpomaaGreatIF21
set_option linter.all false
set_option maxRecDepth 4000
set_option maxHeartbeats 8000000
open Go.RowKit
open Go.IntKind (i64 u64)
open Go.Value (int pointer slice)
open Go.Obj (cells)
namespace Go.Proofs.YtcbdghojlbpomaaGreat
open Tryz
open HP (pt mapOf)
variable {W w w':World} {I:Hp} {l:List HP}
theorem Zab (S:Str):cmayS S false≠0:=by
 unfold cmayS;split
 ·decide
 ·simp
section
variable {p : Nat} {S : Str}
theorem ZiX (img num snap:Int) {m:Nat} (h:St W I w (Zd p S::l)) (hk:Inv S m) :
  Calls prog 90 #[pointer (some ⟨p,0,none⟩),int i64 img,int i64 num,int i64 snap] w (fun e w'=>∃ I',I.sub I'∧e=.returned (.tuple #[.bool (Zct S img num snap).1,int i64 (Zct S img num snap).2])∧St W I' w' (Zd p S::l)):=by
 have hm:=fun b=>Zdp b h;have HM:=Zh hm;have H:=Zh h;have HK:=Zh hk;clear hm h hk;cases g0:objB img num with
 | false =>
  have hf:(objB img num&&snapB snap)=false:=by rw [g0] <;> simp
  have HX:=Zh (show Zct S img num snap=(false,(cmayS S false)) by unfold Zct;rw [hf,Zb (Zab S)]);have hm:=HM.o false;have hne:(cmayS S false != 0)=true:=by simpa using Zab S
  obtain ⟨e0,he0⟩:∃ e0,cmayS S false=e0:=⟨_,rfl⟩;rw [he0] at hm hne HX;have HMF:=Zh hm;clear hm hf he0;have hg0:=ZaE img num w;rw [g0] at hg0;have HG0:=Zh hg0;clear hg0;go_enter func90,ntmps90;go_wp2_with fail;refine HG0.o.mono ?_;rintro e w2 ⟨rfl,rfl⟩;go_wp2_with fail;refine HMF.o.mono ?_;rintro e w2 ⟨rfl,rfl⟩;go_wp2;go_ret2;rw [HX.o];exact ⟨I,Hp.sub.refl _,rfl,H.o⟩
 | true =>
  cases g1:snapB snap with
  | false =>
   have hf:(objB img num&&snapB snap)=false:=by rw [g0,g1] <;> simp
   have HX:=Zh (show Zct S img num snap=(false,(cmayS S false)) by unfold Zct;rw [hf,Zb (Zab S)]);have hm:=HM.o false;have hne:(cmayS S false != 0)=true:=by simpa using Zab S
   obtain ⟨e0,he0⟩:∃ e0,cmayS S false=e0:=⟨_,rfl⟩;rw [he0] at hm hne HX;have HMF:=Zh hm;clear hm hf he0;have hg0:=ZaE img num w;rw [g0] at hg0;have HG0:=Zh hg0;clear hg0;have hg1:=Za5 snap w;rw [g1] at hg1;have HG1:=Zh hg1;clear hg1;go_enter func90,ntmps90;go_wp2_with fail;refine HG0.o.mono ?_;rintro e w2 ⟨rfl,rfl⟩;go_wp2_with fail;refine HG1.o.mono ?_;rintro e w2 ⟨rfl,rfl⟩;go_wp2_with fail;refine HMF.o.mono ?_;rintro e w2 ⟨rfl,rfl⟩;go_wp2;go_ret2;rw [HX.o];exact ⟨I,Hp.sub.refl _,rfl,H.o⟩
  | true =>
   have hf:(objB img num&&snapB snap)=true:=by rw [g0,g1] <;> rfl
   have hm:=HM.o true;obtain ⟨e0,he0⟩:∃ e0,cmayS S true=e0:=⟨_,rfl⟩;have HX:=Zh (show Zct S img num snap=_ by unfold Zct;rw [hf,he0]);rw [he0] at hm;have HMF:=Zh hm;clear hm hf he0;have hg0:=ZaE img num w;rw [g0] at hg0;have HG0:=Zh hg0;clear hg0;have hg1:=Za5 snap w;rw [g1] at hg1;have HG1:=Zh hg1;clear hg1;by_cases h0:e0=0
   ·subst h0;have HX:=Zh (HX.o.trans (Za (by simp)));have ha:=Zgh img num snap H.o HK.o;obtain ⟨⟨⟨k0,k1,k2,k3⟩,bb⟩,hat⟩:∃ r,atS S img num snap=r:=⟨_,rfl⟩;rw [hat] at ha HX;simp only [K4.val] at ha;have HA:=Zh ha;clear ha hat;go_enter func90,ntmps90;go_wp2_with fail;refine HG0.o.mono ?_;rintro e w2 ⟨rfl,rfl⟩;go_wp2_with fail;refine HG1.o.mono ?_;rintro e w2 ⟨rfl,rfl⟩;go_wp2_with fail;refine HMF.o.mono ?_;rintro e w2 ⟨rfl,rfl⟩;go_wp2_with fail;refine HA.o.mono ?_;rintro e w3 ⟨I3,hs3,rfl,h3⟩;have H3:=Zh (h3.alloc (cells #[int i64 k0,int i64 k1,int i64 k2,int i64 k3] 150));clear h3;go_wp2;go_ret2;rw [HX.o];exact ⟨I3,hs3,rfl,H3.o.drop⟩
   ·have d0:(e0 != 0)=true:=by simpa using h0
    have HX2:=Zh (HX.o.trans (Zb h0));go_enter func90,ntmps90;go_wp2_with fail;refine HG0.o.mono ?_;rintro e w2 ⟨rfl,rfl⟩;go_wp2_with fail;refine HG1.o.mono ?_;rintro e w2 ⟨rfl,rfl⟩;go_wp2_with fail;refine HMF.o.mono ?_;rintro e w2 ⟨rfl,rfl⟩;go_wp2;go_ret2;rw [HX2.o];exact ⟨I,Hp.sub.refl _,rfl,H.o⟩
theorem Zjp (img num snap:Int) {m:Nat} (h:St W I w (Zd p S::l)) (hk:Inv S m) :
  Calls prog 159 #[pointer (some ⟨p,0,none⟩),int i64 img,int i64 num,int i64 snap] w (fun e w'=>∃ I',I.sub I'∧e=.returned (.tuple #[int i64 (ZbP S img num snap).1,int i64 (ZbP S img num snap).2])∧St W I' w' (Zd p S::l)):=by
 have hm:=fun b=>Zdp b h;have HM:=Zh hm;have H:=Zh h;have HK:=Zh hk;clear hm h hk;cases g0:objB img num with
 | false =>
  have hf:(objB img num&&snapB snap)=false:=by rw [g0] <;> simp
  have HX:=Zh (show ZbP S img num snap=(0,(cmayS S false)) by unfold ZbP;rw [hf,Zb (Zab S)]);have hm:=HM.o false;have hne:(cmayS S false != 0)=true:=by simpa using Zab S
  obtain ⟨e0,he0⟩:∃ e0,cmayS S false=e0:=⟨_,rfl⟩;rw [he0] at hm hne HX;have HMF:=Zh hm;clear hm hf he0;have hg0:=ZaE img num w;rw [g0] at hg0;have HG0:=Zh hg0;clear hg0;go_enter func159,ntmps159;go_wp2_with fail;refine HG0.o.mono ?_;rintro e w2 ⟨rfl,rfl⟩;go_wp2_with fail;refine HMF.o.mono ?_;rintro e w2 ⟨rfl,rfl⟩;go_wp2;go_ret2;rw [HX.o];exact ⟨I,Hp.sub.refl _,rfl,H.o⟩
 | true =>
  cases g1:snapB snap with
  | false =>
   have hf:(objB img num&&snapB snap)=false:=by rw [g0,g1] <;> simp
   have HX:=Zh (show ZbP S img num snap=(0,(cmayS S false)) by unfold ZbP;rw [hf,Zb (Zab S)]);have hm:=HM.o false;have hne:(cmayS S false != 0)=true:=by simpa using Zab S
   obtain ⟨e0,he0⟩:∃ e0,cmayS S false=e0:=⟨_,rfl⟩;rw [he0] at hm hne HX;have HMF:=Zh hm;clear hm hf he0;have hg0:=ZaE img num w;rw [g0] at hg0;have HG0:=Zh hg0;clear hg0;have hg1:=Za5 snap w;rw [g1] at hg1;have HG1:=Zh hg1;clear hg1;go_enter func159,ntmps159;go_wp2_with fail;refine HG0.o.mono ?_;rintro e w2 ⟨rfl,rfl⟩;go_wp2_with fail;refine HG1.o.mono ?_;rintro e w2 ⟨rfl,rfl⟩;go_wp2_with fail;refine HMF.o.mono ?_;rintro e w2 ⟨rfl,rfl⟩;go_wp2;go_ret2;rw [HX.o];exact ⟨I,Hp.sub.refl _,rfl,H.o⟩
  | true =>
   have hf:(objB img num&&snapB snap)=true:=by rw [g0,g1] <;> rfl
   have hm:=HM.o true;obtain ⟨e0,he0⟩:∃ e0,cmayS S true=e0:=⟨_,rfl⟩;have HX:=Zh (show ZbP S img num snap=_ by unfold ZbP;rw [hf,he0]);rw [he0] at hm;have HMF:=Zh hm;clear hm hf he0;have hg0:=ZaE img num w;rw [g0] at hg0;have HG0:=Zh hg0;clear hg0;have hg1:=Za5 snap w;rw [g1] at hg1;have HG1:=Zh hg1;clear hg1;by_cases h0:e0=0
   ·subst h0;have HX:=Zh (HX.o.trans (Za (by simp)));have ha:=Zgh img num snap H.o HK.o;obtain ⟨⟨⟨k0,k1,k2,k3⟩,bb⟩,hat⟩:∃ r,atS S img num snap=r:=⟨_,rfl⟩;rw [hat] at ha HX;simp only [K4.val] at ha;have HA:=Zh ha;clear ha hat;go_enter func159,ntmps159;go_wp2_with fail;refine HG0.o.mono ?_;rintro e w2 ⟨rfl,rfl⟩;go_wp2_with fail;refine HG1.o.mono ?_;rintro e w2 ⟨rfl,rfl⟩;go_wp2_with fail;refine HMF.o.mono ?_;rintro e w2 ⟨rfl,rfl⟩;go_wp2_with fail;refine HA.o.mono ?_;rintro e w3 ⟨I3,hs3,rfl,h3⟩;obtain ⟨I4,hs4,hI4,h4⟩:=(h3.alloc (cells #[int i64 k0,int i64 k1,int i64 k2,int i64 k3] 150)).freeze;obtain ⟨x0,x1,x2,x3⟩:=Zaa h4 hI4;have hsz:=ZbV ⟨k0,k1,k2,k3⟩ h4;simp only [K4.val] at hsz;have HSZ:=Zh hsz;have H4:=Zh h4;have HS4:=Zh (hs3.trans hs4);clear h3 hs3 hs4 hI4 h4 hsz;cases bb with
    | false =>
     clear x0 x1 x2 x3;go_wp2;go_ret2;rw [HX.o];exact ⟨I4,HS4.o,rfl,H4.o⟩
    | true =>
     go_wp2_with fail;refine HSZ.o.mono ?_;rintro e w5 ⟨hb5,rfl⟩;have H5:=Zh (H4.o.keep hb5);clear hb5 x0 x1 x2 x3;go_wp2;go_ret2;rw [HX.o];exact ⟨I4,HS4.o,rfl,H5.o⟩
   ·have d0:(e0 != 0)=true:=by simpa using h0
    have HX2:=Zh (HX.o.trans (Zb h0));go_enter func159,ntmps159;go_wp2_with fail;refine HG0.o.mono ?_;rintro e w2 ⟨rfl,rfl⟩;go_wp2_with fail;refine HG1.o.mono ?_;rintro e w2 ⟨rfl,rfl⟩;go_wp2_with fail;refine HMF.o.mono ?_;rintro e w2 ⟨rfl,rfl⟩;go_wp2;go_ret2;rw [HX2.o];exact ⟨I,Hp.sub.refl _,rfl,H.o⟩
theorem Zjq {m:Nat} (hk:Inv S m) (k:K4):(allS S k).length<=1000000:=by
 unfold allS readS;split
 ·split
  ·simp
  ·rename_i t hg;split
   ·simp
   ·have h5:=(hk.seen _ (get_mem hg)).1;simp only [ZN,Zas] at h5 |-;omega
 ·simp
theorem Zo1:(prog.info? 5).map (fun i=>(i.zero,i.size,i.bytes))=some (some (int .u8 0),1,1):=by kernel_rfl
def zeroA (n:Nat):Array Value:=Array.replicate n (int .u8 0)
theorem Zo2 (n:Nat):madeCells #[int .u8 0] n=zeroA n:=by
 unfold madeCells zeroA;apply Array.ext
 ·simp
 ·intro i h1 h2;simp [Nat.mod_one]
theorem Ze4 (n:Nat) (hn:n<=1000) (w:World):(Instr.makeSlice 32 (int i64 (n:Int)) (int i64 (n:Int))).run prog w=.ok (slice (some ⟨w.heap.size,0,none⟩) n n) (w.alloc (cells (zeroA n) 5)):=by
 obtain ⟨i0,hi0,hz0,hz1,hz2⟩:=info_parts Zo1;have h:=run_makeSlice (P:=prog) w 32 5 i0 (int .u8 0) underlying32 hi0 hz0 i64 i64 n n (by omega) (by omega) (by rw [hz1];simp;omega) (by rw [hz2];omega) (by omega);rw [hz1,ZcT,ZaT,show (int IntKind.u8 0).cells=#[int .u8 0] from rfl,Zo2] at h;exact h
theorem ZkY {g N off n c:Nat} {a:Addr} {b:List Int} {lo:Nat} (h:St W I w (pt g (cells (zeroA N) 5)::l)) (hn:b.length=n) (hlo:lo=min off n) (hs:∀ j v,((b.drop lo).map byteV)[j]?=some v->w.cell? (a.add j)=some v) (ty:TypeId) :
  ∃ w',(Builtin.copy_ #[32,32] ty #[slice (some ⟨g,0,none⟩) N N,slice (some a) (n - lo) c]).run prog w=.ok (goInt (Nat.min (n - lo) N)) w'∧w'.heap.size=w.heap.size ∧
   St W I w' (pt g (cells ((padB b off N).map byteV).toArray 5)::l):=by
 have hlen:(((b.drop lo).take N).map byteV).length=Nat.min (n - lo) N*1:=by
  rw [ZE,ZN,Zas,hn,ZaT];exact Nat.min_comm _ _
 obtain ⟨w',hr,hsz,h2⟩:=h.copy_run (P:=prog) (o:=0) (dLen:=N) (dCap:=N) (sLen:=n - lo) (sCap:=c) (a:=a) (dT:=32) (sT:=32) (ty:=ty) (cs:=((b.drop lo).take N).map byteV) underlying32 (by kernel_rfl) rfl hlen
  (fun j v hv=>by
    rw [ZaN,Option.map_eq_some_iff] at hv;obtain ⟨x,hx,rfl⟩:=hv;have hx2:(b.drop lo)[j]?=some x:=by
     rw [Zci] at hx;split at hx
     ·exact hx
     ·cases hx
    exact hs j (byteV x) (by rw [ZaN,hx2];rfl))
  (by rw [hlen,ZaT];simp [zeroA];exact Nat.min_le_right _ _) (Zac _)
 refine ⟨w',hr,hsz,?_⟩;have e:((zeroA N).toList.take 0++((b.drop lo).take N).map byteV++(zeroA N).toList.drop (0+(((b.drop lo).take N).map byteV).length))=(padB b off N).map byteV:=by
  have e1:(b.drop lo)=b.drop off:=by
   rcases Nat.le_total off n with h|h
   ·rw [hlo,Zex h]
   ·rw [hlo,Nat.min_eq_right h,ZcS (by omega),ZcS (by omega)]
  rw [e1];unfold padB zeroA;rw [Z4,Zgq,List.take_zero,ZP,Zar,ZE,ZN,Zas,Array.toList_replicate,List.drop_replicate];have:N - min N (b.length - off)=N - (b.length - off):=by omega
  rw [this];rfl
 rw [e] at h2;exact h2
theorem Zf9 (b:List Int) (off n:Nat):(padB b off n).length=n:=by
 unfold padB;rw [ZA,ZN,Zas,Za7];omega
theorem ZkZ {off n:Nat}:padB [] off n=List.replicate n 0:=by
 unfold padB;simp
theorem Zc2 {g N:Nat} {b:List Int} (hb:b.length=N) (hN:N<=1000) (h:St W I w (pt g (cells (b.map byteV).toArray 5)::l)):∃ I',I.sub I'∧Zw I' (slice (some ⟨g,0,none⟩) N N) b∧St W I' w l:=by
 obtain ⟨I',hs,hI,h2⟩:=h.freeze;refine ⟨I',hs,?_,h2⟩;refine ⟨some ⟨g,0,none⟩,N,by rw [hb],by simp,by omega,by unfold maxLen;omega,(fun e=>by cases e),fun _=>⟨g,0,_,_,_,rfl,hI,fun i x hx=>by simpa using hx⟩⟩
theorem ZnE (img num snap off n:Int) {m:Nat} (h:St W I w (Zd p S::l)) (hk:Inv S m) :
  Calls prog 91 #[pointer (some ⟨p,0,none⟩),int i64 img,int i64 num,int i64 snap,int i64 off,int i64 n] w (fun e w'=>∃ v I',I.sub I'∧e=.returned (.tuple #[v,int i64 (ZbO S img num snap off n).2])∧Zw I' v (ZbO S img num snap off n).1∧St W I' w' (Zd p S::l)):=by
 have hm:=fun b=>Zdp b h;have HM:=Zh hm;have H:=Zh h;have HK:=Zh hk;clear hm h hk;cases g0:objB img num with
 | false =>
  have hf:(objB img num&&snapB snap&&ZG off n)=false:=by rw [g0] <;> simp
  have HX:=Zh (show ZbO S img num snap off n=([],(cmayS S false)) by unfold ZbO;rw [hf,Zb (Zab S)]);have hm:=HM.o false;have hne:(cmayS S false != 0)=true:=by simpa using Zab S
  obtain ⟨e0,he0⟩:∃ e0,cmayS S false=e0:=⟨_,rfl⟩;rw [he0] at hm hne HX;have HMF:=Zh hm;clear hm hf he0;have hg0:=ZaE img num w;rw [g0] at hg0;have HG0:=Zh hg0;clear hg0;go_enter func91,ntmps91;go_wp2_with fail;refine HG0.o.mono ?_;rintro e w2 ⟨rfl,rfl⟩;go_wp2_with fail;refine HMF.o.mono ?_;rintro e w2 ⟨rfl,rfl⟩;go_wp2;go_ret2;rw [HX.o];exact ⟨_,I,Hp.sub.refl _,rfl,Zdn _,H.o⟩
 | true =>
  cases g1:snapB snap with
  | false =>
   have hf:(objB img num&&snapB snap&&ZG off n)=false:=by rw [g0,g1] <;> simp
   have HX:=Zh (show ZbO S img num snap off n=([],(cmayS S false)) by unfold ZbO;rw [hf,Zb (Zab S)]);have hm:=HM.o false;have hne:(cmayS S false != 0)=true:=by simpa using Zab S
   obtain ⟨e0,he0⟩:∃ e0,cmayS S false=e0:=⟨_,rfl⟩;rw [he0] at hm hne HX;have HMF:=Zh hm;clear hm hf he0;have hg0:=ZaE img num w;rw [g0] at hg0;have HG0:=Zh hg0;clear hg0;have hg1:=Za5 snap w;rw [g1] at hg1;have HG1:=Zh hg1;clear hg1;go_enter func91,ntmps91;go_wp2_with fail;refine HG0.o.mono ?_;rintro e w2 ⟨rfl,rfl⟩;go_wp2_with fail;refine HG1.o.mono ?_;rintro e w2 ⟨rfl,rfl⟩;go_wp2_with fail;refine HMF.o.mono ?_;rintro e w2 ⟨rfl,rfl⟩;go_wp2;go_ret2;rw [HX.o];exact ⟨_,I,Hp.sub.refl _,rfl,Zdn _,H.o⟩
  | true =>
   cases g2:ZG off n with
   | false =>
    have hf:(objB img num&&snapB snap&&ZG off n)=false:=by rw [g0,g1,g2] <;> simp
    have HX:=Zh (show ZbO S img num snap off n=([],(cmayS S false)) by unfold ZbO;rw [hf,Zb (Zab S)]);have hm:=HM.o false;have hne:(cmayS S false != 0)=true:=by simpa using Zab S
    obtain ⟨e0,he0⟩:∃ e0,cmayS S false=e0:=⟨_,rfl⟩;rw [he0] at hm hne HX;have HMF:=Zh hm;clear hm hf he0;have hg0:=ZaE img num w;rw [g0] at hg0;have HG0:=Zh hg0;clear hg0;have hg1:=Za5 snap w;rw [g1] at hg1;have HG1:=Zh hg1;clear hg1;have hg2:=Zdi off n w;rw [g2] at hg2;have HG2:=Zh hg2;clear hg2;go_enter func91,ntmps91;go_wp2_with fail;refine HG0.o.mono ?_;rintro e w2 ⟨rfl,rfl⟩;go_wp2_with fail;refine HG1.o.mono ?_;rintro e w2 ⟨rfl,rfl⟩;go_wp2_with fail;refine HG2.o.mono ?_;rintro e w2 ⟨rfl,rfl⟩;go_wp2_with fail;refine HMF.o.mono ?_;rintro e w2 ⟨rfl,rfl⟩;go_wp2;go_ret2;rw [HX.o];exact ⟨_,I,Hp.sub.refl _,rfl,Zdn _,H.o⟩
   | true =>
    have hf:(objB img num&&snapB snap&&ZG off n)=true:=by rw [g0,g1,g2] <;> rfl
    have hm:=HM.o true;obtain ⟨e0,he0⟩:∃ e0,cmayS S true=e0:=⟨_,rfl⟩;have HX:=Zh (show ZbO S img num snap off n=_ by unfold ZbO;rw [hf,he0]);rw [he0] at hm;have HMF:=Zh hm;clear hm hf he0;have hg0:=ZaE img num w;rw [g0] at hg0;have HG0:=Zh hg0;clear hg0;have hg1:=Za5 snap w;rw [g1] at hg1;have HG1:=Zh hg1;clear hg1;have hg2:=Zdi off n w;rw [g2] at hg2;have HG2:=Zh hg2;clear hg2;by_cases h0:e0=0
    ·subst h0;have HX:=Zh (HX.o.trans (Za (by simp)));unfold ZG at g2;rw [Ze] at g2;obtain ⟨N,rfl⟩:∃ N:Nat,n=N:=⟨n.toNat,by omega⟩;obtain ⟨o,rfl⟩:∃ o:Nat,off=o:=⟨off.toNat,by omega⟩;have hmk:=Ze4 N (by omega);simp only [ZcT] at HX;have ha:=Zgh img num snap (H.o.alloc (cells (zeroA N) 5) |>.pull 1 _ rfl) HK.o;obtain ⟨⟨⟨k0,k1,k2,k3⟩,bb⟩,hat⟩:∃ r,atS S img num snap=r:=⟨_,rfl⟩;rw [hat] at ha HX;simp only [K4.val] at ha HX;have HA:=Zh ha;obtain ⟨g,hg⟩:∃ g,w.heap.size=g:=⟨_,rfl⟩;rw [hg] at HA;have HN:=Zh (show N<=64 by omega);clear ha hat g2;go_enter func91,ntmps91;go_wp2_with fail;refine HG0.o.mono ?_;rintro e w2 ⟨rfl,rfl⟩;go_wp2_with fail;refine HG1.o.mono ?_;rintro e w2 ⟨rfl,rfl⟩;go_wp2_with fail;refine HG2.o.mono ?_;rintro e w2 ⟨rfl,rfl⟩;go_wp2_with fail;refine HMF.o.mono ?_;rintro e w2 ⟨rfl,rfl⟩;go_wp2_with fail;refine HA.o.mono ?_;rintro e w3 ⟨I3,hs3,rfl,h3⟩;obtain ⟨I4,hs4,hI4,h4⟩:=(h3.alloc (cells #[int i64 k0,int i64 k1,int i64 k2,int i64 k3] 150)).freeze;obtain ⟨x0,x1,x2,x3⟩:=Zaa h4 hI4;have hal:=ZhK ⟨k0,k1,k2,k3⟩ h4 HK.o;have hasm:=Zjq HK.o ⟨k0,k1,k2,k3⟩;obtain ⟨bs,hbs⟩:∃ bs,allS S ⟨k0,k1,k2,k3⟩=bs:=⟨_,rfl⟩;rw [hbs] at hal hasm HX;simp only [K4.val] at hal;have HAL:=Zh hal;have h4:=h4.pull 1 _ rfl;have H4:=Zh h4;have HS4:=Zh (hs3.trans hs4);clear h3 hs3 hs4 hI4 h4 hal hmk hbs;cases bb with
     | false =>
      clear x0 x1 x2 x3;have hz:(zeroA N)=((padB [] o N).map byteV).toArray:=by rw [ZkZ];simp [zeroA,byteV,Zgq]
      have h5:=H4.o;rw [hz] at h5;obtain ⟨I5,hs5,hr5,h5⟩:=Zc2 (Zf9 _ _ _) (by have:=HN.o;omega) h5;have H5:=Zh h5;have HS5:=Zh (HS4.o.trans hs5);have HR5:=Zh hr5;clear h5 hs5 hr5 hz;go_wp2;go_ret2;rw [HX.o];exact ⟨_,I5,HS5.o,rfl,HR5.o,H5.o⟩
     | true =>
      go_wp2_with fail;refine HAL.o.mono ?_;rintro e w5 ⟨hb5,v5,rfl,ho5⟩;have h5:=(H4.o.keep hb5);rcases ho5.2 with ⟨rfl,e0⟩|⟨g5,cap,cur,rfl,hb,hgx,hnc,hcm,hcs,ht⟩
      ·have hbs0:bs=[]:=ZbZ e0;subst hbs0;have hmin:min (o:Int) (0:Int)=0:=by omega
       have hr6:=run_copy_none w5 32 32 3 5 (some ⟨g,0,none⟩) none N N 0 0 underlying32 (by kernel_rfl) (Nat.zero_min _);have hz:(zeroA N)=((padB [] o N).map byteV).toArray:=by rw [ZkZ];simp [zeroA,byteV,Zgq]
       rw [hz] at h5;obtain ⟨I6,hs6,hr7,h6⟩:=Zc2 (Zf9 _ _ _) (by have:=HN.o;omega) h5;have H6:=Zh h6;have HS6:=Zh (HS4.o.trans hs6);have HR7:=Zh hr7;clear h5 hs6 hr7 hz h6 hb5 ho5 x0 x1 x2 x3;go_wp2;go_ret2;rw [HX.o];exact ⟨_,I6,HS6.o,rfl,HR7.o,H6.o⟩
      ·have hcl:=fun j u hu=>ho5.cells (g:=g5) rfl j u hu;obtain ⟨n,hn⟩:∃ n,bs.length=n:=⟨_,rfl⟩;obtain ⟨lo,hlo⟩:=Zn (min o n);have hmin:min (o:Int) (n:Int)=(lo:Int):=by omega
       rw [hn] at hnc;rw [hn];have hlo0:(0:Int)<=(lo:Int):=by omega
       have hlon:(lo:Int)<=(n:Int):=by omega
       have hlon2:lo<=n:=by omega
       have HLO:=Zh hlo;have hcl2:∀ j v,((bs.drop lo).map byteV)[j]?=some v->w5.cell? ⟨g5,lo+j,none⟩=some v:=fun j v hv=>by
        have:=hcl (lo+j) v (by
         rw [ZaN,Zb9] at hv;rw [ZaN]
         exact hv)
        rw [add_plain,Zar] at this;exact this
       by_cases hco:cap=lo
       ·obtain rfl:n=lo:=by omega
        subst hco;obtain ⟨w6,hr6,hsz6,h6⟩:=ZkY (c:=0) (a:=⟨g5,0,none⟩) h5 hn HLO.o (fun j v hv=>by rw [ZcS (by omega)] at hv;simp at hv) 3;rw [Zfm] at hr6;obtain ⟨I7,hs7,hr7,h7⟩:=Zc2 (Zf9 _ _ _) (by have:=HN.o;omega) h6;have HR6:=Zh hr6;have H7:=Zh h7;have HS7:=Zh (HS4.o.trans hs7);have HR7:=Zh hr7;clear h5 h6 h7 hs7 hr6 hr7 hb5 ho5 hcl hcl2 hlo HLO x0 x1 x2 x3;have hr6:=HR6.o;go_wp2;go_ret2;rw [HX.o];exact ⟨_,I7,HS7.o,rfl,HR7.o,H7.o⟩
       ·obtain ⟨w6,hr6,hsz6,h6⟩:=ZkY (c:=cap - lo) (a:=⟨g5,lo,none⟩) h5 hn HLO.o (fun j v hv=>by rw [add_plain];exact hcl2 j v hv) 3;obtain ⟨I7,hs7,hr7,h7⟩:=Zc2 (Zf9 _ _ _) (by have:=HN.o;omega) h6;have HR6:=Zh hr6;have H7:=Zh h7;have HS7:=Zh (HS4.o.trans hs7);have HR7:=Zh hr7;clear h5 h6 h7 hs7 hr6 hr7 hb5 ho5 hcl hcl2 hlo HLO x0 x1 x2 x3;have hr6:=HR6.o;go_wp2;go_ret2;rw [HX.o];exact ⟨_,I7,HS7.o,rfl,HR7.o,H7.o⟩
    ·have d0:(e0 != 0)=true:=by simpa using h0
     have HX2:=Zh (HX.o.trans (Zb h0));go_enter func91,ntmps91;go_wp2_with fail;refine HG0.o.mono ?_;rintro e w2 ⟨rfl,rfl⟩;go_wp2_with fail;refine HG1.o.mono ?_;rintro e w2 ⟨rfl,rfl⟩;go_wp2_with fail;refine HG2.o.mono ?_;rintro e w2 ⟨rfl,rfl⟩;go_wp2_with fail;refine HMF.o.mono ?_;rintro e w2 ⟨rfl,rfl⟩;go_wp2;go_ret2;rw [HX2.o];exact ⟨_,I,Hp.sub.refl _,rfl,Zdn _,H.o⟩
end
end Go.Proofs.YtcbdghojlbpomaaGreat
