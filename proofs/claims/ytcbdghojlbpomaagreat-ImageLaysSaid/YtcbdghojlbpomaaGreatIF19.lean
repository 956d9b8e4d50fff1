import Derived.Test.YtcbdghojlbpomaaGreatIF18
set_option linter.all false
set_option maxRecDepth 4000
set_option maxHeartbeats 8000000
open Go.RowKit
open Go.IntKind (i64 u64)
open Go.Value (int pointer slice)
open Go.Obj (cells)
namespace Go.Proofs.YtcbdghojlbpomaaGreat
open Tryz
open HP (pt mapOf)
variable {W w w':World} {I:Hp} {l:List HP}
theorem Zlg {o:Nat} (h1:3<=o) (h:o<=6):8<=2 ^ o∧2 ^ o<=64:=by
 rcases (show o=3∨o=4∨o=5∨o=6 by omega) with rfl|rfl|rfl|rfl <;> decide
theorem ZmH {l:Ly} (h:l.ok) {x:Nat} (hx:x<=512):(ZB l x).1<=512:=by
 have h1:=h.c1;have h2:=h.c2;have a:x / l.U / l.count / l.P*l.count<=x / l.U:=by
  refine ZQ (Zcj _ (Zfp ..)) (Nat.div_mul_le_self ..)
 have b:x / l.U<=x / 4:=Nat.div_le_div_left (by
  unfold Ly.U;have:=Zgw (show 1<=2 by decide) h.u1
  omega) (by decide)
 have c:=ZaU (x / l.U) (show 0<l.count by omega);unfold ZB;simp only;omega
section
theorem Zg8 (l:Ly) (hl:l.ok) (size b:Nat) (hsz:size<=512) (hb:b<=1048576) (w:World):Calls prog 92 #[l.val,int i64 size,int i64 b] w fun e w'=>e=.returned (int i64 (ZI l size b))∧Below w.heap.size w w':=by
 have hs:=ZdS hl;have h1:=hl.o1;have h2:=hl.o2;obtain ⟨P,hP⟩:∃ P,2 ^ l.order=P:=⟨_,rfl⟩;have hbk:∀ i,i<P->∀ w,Calls prog 172 #[l.val,int i64 b,int i64 i] w fun e w'=>e=.returned (int i64 (backN l b i))∧Below w.heap.size w w':=fun i hi w=>ZoS l hl b i hb (by rw [hP];exact hi) w;have ho:=Zlg h1 h2;have ep:wrap64 (2 ^ l.order)=(P:Int):=by
  have e0:(2:Int) ^ l.order=((2 ^ l.order:Nat):Int):=by push_cast;rfl
  rw [e0,Zbu (by omega),hP]
 have hX:ZI l size b=Zcu l size b P:=by unfold ZI;rw [hP]
 rw [hP] at ho;clear hP;obtain ⟨L,hL⟩:∃ L,l=L:=⟨_,rfl⟩;obtain ⟨o,u,c⟩:=l;have hsp:=ZdQ (o:Int) u c;rw [hs] at hsp;have HS:=Zh hsp;have h0:=(St.init w).alloc (cells #[int i64 o,int i64 u,int i64 c] 30);have H0:=Zh h0;rw [hL] at hbk;have HBK:=Zh hbk;have HLL:=Zh hL;have HX:=Zh (hX.trans (by rw [hL]));have HEP:=Zh ep;simp only [Ly.val] at *;clear hsp hs hl h0 hbk hL hX ep;have hmn:min (size:Int) 512=size:=by omega
 have hmx:max 0 (size:Int)=size:=by omega
 have d1:decide ((b:Int)<0)=false:=by rw [Zk];omega
 have d2:decide (1048576<(b:Int))=false:=by rw [Zk];omega
 have du:decide ((o:Int)<0)=false:=by rw [Zk];omega
 rcases Zbf size with h0|h0;all_goals
  go_enter func92,ntmps92;go_wp2_with fail;refine (HS.o _).mono ?_;rintro e w2 ⟨rfl,hb2⟩;have h2:=H0.o.keep hb2;obtain ⟨x0,x1,x2⟩:=Zbw h2;have H2:=Zh h2;clear hb2 h2 H0 HS;go_wp2_with fail;rw [HEP.o];go_loopw [7] (fun a7 wr=>∃ n:Nat,a7=int i64 n∧n<=P∧Zcu L size b P=Zcu L size b n∧St w w.hp wr [pt w.heap.size (cells #[int i64 o,int i64 u,int i64 c] 30)]) (fun a7 _=>(intOf a7).toNat);case atStart=>exact ⟨P,rfl,Z9 _,rfl,H2.o⟩
  case round =>
   obtain ⟨n,rfl,hn,hgo,hst⟩:=hrel;clear x0 x1 x2;obtain ⟨x0,x1,x2⟩:=Zbw hst;cases n with
   | zero =>
    go_wp2;go_ret;rw [HX.o,hgo];exact ⟨rfl,hst.below⟩
   | succ n =>
    have dg:decide ((0:Int)<((n+1:Nat):Int))=true:=by rw [Ze];omega
    have es:((n+1:Nat):Int) - 1=n:=by omega
    obtain ⟨n1,hn1⟩:∃ m,n+1=m:=⟨_,rfl⟩;have hbn:=HBK.o n (by omega) wr;rw [<-HLL.o] at hbn;simp only at hbn;obtain ⟨B,hB⟩:∃ B,backN (⟨o,u,c⟩:Ly) b n=B:=⟨_,rfl⟩;rw [hB] at hbn;have hgo2:Zcu L size b (n+1)=if size<=B then Zcu L size b n else n+1:=by rw [<-hB,HLL.o];rfl
    rw [hgo2,hn1] at hgo;rw [hn1] at dg es hn |-;have HBN:=Zh hbn;have HGO:=Zh hgo;have HST:=Zh hst;have HN1:=Zh hn1;clear hbn hgo hgo2 hB hst hn1;by_cases hle:size<=B
    ·have d3:decide ((size:Int)<=(B:Int))=true:=by rw [Ze];omega
     have d4:decide ((0:Int)<=(B:Int))=true:=by rw [Ze];omega
     go_wp2_with fail;refine HBN.o.mono ?_;rintro e w3 ⟨rfl,hb3⟩;have h3:=HST.o.keep hb3;clear x0 x1 x2;obtain ⟨x0,x1,x2⟩:=Zbw h3;have H3:=Zh h3;clear h3 hb3;go_wp2;go_roundw;case rel=>exact ⟨n,rfl,by omega,HGO.o.trans (Zb hle),H3.o⟩
     case measure=>have:=HN1.o;simp [intOf];omega
    ·have d3:decide ((size:Int)<=(B:Int))=false:=by rw [Zk];omega
     first
     |(exfalso;omega)
     |(go_wp2_with fail;refine HBN.o.mono ?_;rintro e w3 ⟨rfl,hb3⟩;have h3:=HST.o.keep hb3;go_wp2;go_ret;rw [HX.o,HGO.o,Za hle]
       exact ⟨rfl,h3.below⟩)
     | fail
theorem Zl9 (l:Ly) (hl:l.ok) (size:Nat) (hsz:size<=512) (w:World):Calls prog 89 #[l.val,int i64 size] w fun e w'=>∃ n:Nat,e=.returned (int i64 n)∧IsObjs l size n∧Below w.heap.size w w':=by
 have hs:=ZdS hl;have hbk:=fun x hx=>Zjm l hl x hx;have hsm:=fun x (hx:x<=512)=>ZmH hl hx;have h3:=hl.u1;have h4:=hl.u2;have h2:=hl.o2;have hu6:=pow64 (u:=l.unit) (by omega);obtain ⟨P,hP⟩:∃ P,2 ^ l.unit=P:=⟨_,rfl⟩;have ep:wrap64 (2 ^ l.unit)=(P:Int):=by
  have e0:(2:Int) ^ l.unit=((2 ^ l.unit:Nat):Int):=by push_cast;rfl
  rw [e0,Zbu (by omega),hP]
 have hPU:l.U=P:=hP;have hun:=fun k s n (h:IsObjs l (k*l.U) n)=>h.unit (size:=s);rw [hPU] at hun;have hz:=IsObjs.zero l;rw [hP] at hu6;clear hP;obtain ⟨L,hL⟩:∃ L,l=L:=⟨_,rfl⟩;obtain ⟨o,u,c⟩:=l;have hsp:=ZdQ (o:Int) u c;rw [hs] at hsp;have HS:=Zh hsp;have h0:=(St.init w).alloc (cells #[int i64 o,int i64 u,int i64 c] 30);have H0:=Zh h0;simp only [Ly.val] at *;rw [hL] at hbk hsm hun hz;have HBK:=Zh hbk;have HSM:=Zh hsm;have HUN:=Zh hun;have HLL:=Zh hL;have HEP:=Zh ep;have HZ:=Zh hz;clear hsp hs hl h0 hbk hL ep hsm hun hPU hz;have hmn:min (size:Int) 512=size:=by omega
 have hmx:max 0 (size:Int)=size:=by omega
 have du:decide ((u:Int)<0)=false:=by rw [Zk];omega
 rcases Zbf size with h0|h0;all_goals
  go_enter func89,ntmps89;go_wp2_with fail;refine (HS.o _).mono ?_;rintro e w2 ⟨rfl,hb2⟩;have h2:=H0.o.keep hb2;obtain ⟨x0,x1,x2⟩:=Zbw h2;have H2:=Zh h2;clear hb2 h2 H0 HS;go_wp2;go_loopw [5,6] (fun a5 a6 wr=>∃ k at_ n:Nat,a6=int i64 at_∧at_=k*P∧at_<=size+P∧a5=int i64 n∧n<=513∧IsObjs L (min at_ size) n∧St w w.hp wr [pt w.heap.size (cells #[int i64 o,int i64 u,int i64 c] 30)]) (fun _ a6 _=>(size - (intOf a6).toNat:Nat));case atStart=>exact ⟨0,0,0,rfl,by simp,by omega,rfl,by omega,by simpa using HZ.o,H2.o⟩
  case round =>
   obtain ⟨k,at_,n,rfl,hat,hal,rfl,hn,hob,hst⟩:=hrel;clear x0 x1 x2;obtain ⟨x0,x1,x2⟩:=Zbw hst;by_cases hlt:at_<size
   ·first
    |(exfalso;omega)
    |(have d0:decide ((at_:Int)<(size:Int))=true:=by rw [Ze];omega
      have hp:=HBK.o at_ (by omega) wr;have hsm:=HSM.o at_ (by omega);have hmi:min at_ size=k*P:=by omega
      rw [hmi] at hob;obtain ⟨B,hB⟩:∃ B,(ZB L at_).1=B:=⟨_,rfl⟩;have hob2:IsObjs L (min (at_+P) size) (max n (B+1)):=by
       have h9:=HUN.o k (min (at_+P) size) n hob (by omega) (by rw [Zbj];omega);rw [<-hat,hB] at h9;exact h9
      rw [hB] at hsm;have HOB:=Zh hob2;rw [hB] at hp;obtain ⟨B2,hB2⟩:∃ B,(ZB L at_).2=B:=⟨_,rfl⟩;rw [hB2] at hp;have HPL:=Zh hp;have HST:=Zh hst;have HATK:=Zh (show at_+P=(k+1)*P by rw [Zbj];omega);have hw1:IntKind.i64.wrap ((at_:Int)+(P:Int))=(at_+P:Nat):=by rw [Z2];omega
      have HEPP:=Zh HEP.o;clear hp hst hob hob2 hB hB2 hmi hat;by_cases hmm:n<B+1;all_goals
       go_wp2_with fail;refine HPL.o.mono ?_;rintro e w3 ⟨rfl,hb3⟩;have h3:=HST.o.keep hb3;clear x0 x1 x2;obtain ⟨x0,x1,x2⟩:=Zbw h3;have H3:=Zh h3;clear h3 hb3;go_wp2;go_roundw;case rel =>
        refine ⟨k+1,at_+P,max n (B+1),?_,HATK.o,by omega,?_,by omega,HOB.o,H3.o⟩
        ·rw [HEPP.o,<-ZeG,Zbu (by omega)]
        ·exact congrArg _ (by omega)
       case measure=>rw [HEPP.o,<-ZeG,Zbu (by omega)];simp only [intOf];omega)
    | fail
   ·have d0:decide ((at_:Int)<(size:Int))=false:=by rw [Zk];omega
    have hmi:min at_ size=size:=by omega
    rw [hmi] at hob;go_wp2;go_ret;rw [HLL.o];exact ⟨n,rfl,hob,hst.below⟩
end
theorem Zp2:(prog.info? 186).map (fun i=>(i.zero,i.size,i.bytes))=some (some (.agg #[int i64 0,int i64 0,int i64 0,int i64 0]),4,32):=by kernel_rfl
theorem Zp3 (es:List Ext):∀ u ∈ es.flatMap Ext.vals,u.oneCell'=true:=by
 intro u hu;obtain ⟨x,_,hu⟩:=Zcz.1 hu;simp only [Ext.vals,ZO,ZdE,ZcQ] at hu;rcases hu with rfl|rfl|rfl|rfl <;> rfl
theorem ZgT {l:Ly} (h:l.ok) {off n:Nat} {es:List Ext} (c:Cover l off n es) {e:Ext} (he:e ∈ es):e.off+e.len<=64:=by
 have h1:=c.one e he;have hm:(e.obj,e.off+(e.len - 1),e.at_+(e.len - 1)) ∈ es.flatMap Ext.items:=Zcz.2 ⟨e,he,ZH.2 ⟨e.len - 1,Za8.2 (by omega),rfl⟩⟩;rw [c.flat] at hm;obtain ⟨j,_,hj⟩:=ZH.1 hm;simp only [Zba] at hj;have h2:=ZkG h (off+j);have h3:=Zlg h.o1 h.o2;omega
structure FewE (off P n at_ len:Nat):Prop where
 le:len<=at_
 all:4*len<=at_+7
 on:at_<n->4*len<=at_+3
 mod:at_=0∨at_=n∨(off+at_) % P=0
theorem FewE.step {off P n at_ len r k:Nat} (h:FewE off P n at_ len) (hP:4<=P) (hr:(off+at_) % P=r) (hk:min (n - at_) (P - r)=k) (hlt:at_<n):FewE off P n (at_+k) (len+1)∧FewE off P n (at_+k) len:=by
 have h1:=h.le;have h2:=h.on hlt;have h3:r<P:=by rw [<-hr];exact ZaU _ (by omega)
 have hm:at_+k=n∨(off+(at_+k)) % P=0:=by
  by_cases q:at_+k=n
  ·exact .inl q
  ·refine .inr ?_;have e:off+(at_+k)=P*((off+at_) / P+1):=by
    have:=Zcl (off+at_) P;rw [Nat.mul_add,ZaT];omega
   rw [e,Nat.mul_mod_right]
 have h4:at_=0∨r=0:=by
  rcases h.mod with q|q|q
  ·exact .inl q
  ·omega
  ·exact .inr (hr.symm.trans q)
 refine ⟨⟨by omega,by omega,fun _=>by omega,.inr hm⟩,⟨by omega,by omega,fun _=>by omega,.inr hm⟩⟩
section
def ExtsI (I:Hp) (v:Value) (es:List Ext):Prop:=RowI I 4 v es.length (es.flatMap Ext.vals)
theorem ZkX (l:Ly) (hl:l.ok) (off n:Nat) (h1:1<=n) (hn:off+n<=512) (w:World):Calls prog 146 #[l.val,int i64 off,int i64 n] w fun e w'=>∃ es A c,e=.returned (slice A es.length c)∧Cover l off n es∧St w w.hp w' [HP.row 186 4 (slice A es.length c) es.length (es.flatMap Ext.vals)]∧es.length<=130:=by
 have hs:=ZdS hl;have hbk:=fun x hx=>Zjm l hl x hx;have h3:=hl.u1;have h4:=hl.u2;have h2:=hl.o2;have hu6:=pow64 (u:=l.unit) (by omega);obtain ⟨P,hP⟩:∃ P,2 ^ l.unit=P:=⟨_,rfl⟩;rw [hP] at hu6;have ep:wrap64 (2 ^ l.unit)=(P:Int):=by
  have e0:(2:Int) ^ l.unit=((2 ^ l.unit:Nat):Int):=by push_cast;rfl
  rw [e0,hP,Zbu (by omega)]
 have hand:∀ x:Nat,x<9223372036854775808->bits .and i64 (x:Int) ((P:Int) - 1)=((x % P:Nat):Int):=fun x hx=>by
  have h9:=Zf8 x (u:=l.unit) (by omega) hx;rw [ep,hP] at h9;rw [<-h9];congr 1;have:(1:Int)<=P∧(P:Int)<=64:=by omega
  unfold wrap64;omega
 have hPU:l.U=P:=hP;have hP4:4<=P:=by
  rw [<-hP];exact ZQ (show 4<=2 ^ 2 by decide) (Zgw (by omega) h3)
 have hadd:=fun (m k:Nat) (es:List Ext) (h:Cover l off m es)=>h.add (k:=k);have hmer:=fun (m k:Nat) (es:List Ext) (e:Ext) (h:Cover l off m (es++[e]))=>h.merge (k:=k);rw [hPU] at hadd hmer;have hnil:=Cover.nil l off;have hsm:=fun m es (h:Cover l off m es) e he=>ZgT hl h (e:=e) he;clear hP;obtain ⟨L,hL⟩:∃ L,l=L:=⟨_,rfl⟩;obtain ⟨o,u,c⟩:=l;have hsp:=ZdQ (o:Int) u c;rw [hs] at hsp;have HS:=Zh hsp;have h0:=(St.init w).alloc (cells #[int i64 o,int i64 u,int i64 c] 30);have H0:=Zh h0;simp only [Ly.val] at *;rw [hL] at hbk hadd hmer hnil hsm;have HSM:=Zh hsm;clear hsm;have HBK:=Zh hbk;have HADD:=Zh hadd;have HMER:=Zh hmer;have HLL:=Zh hL;have HEP:=Zh ep;have HAND:=Zh hand;have HNIL:=Zh hnil;clear hsp hs hl h0 hbk hL ep hadd hmer hPU hnil hand;have du:decide ((u:Int)<0)=false:=by rw [Zk];omega
 have d1:decide ((off:Int)<0)=false:=by rw [Zk];omega
 have d2:decide ((n:Int)<1)=false:=by rw [Zk];omega
 have d3:decide (512<(n:Int))=false:=by rw [Zk];omega
 have d4:decide (512 - (n:Int)<(off:Int))=false:=by rw [Zk];omega
 go_enter func146,ntmps146;go_wp2_with fail;refine (HS.o _).mono ?_;rintro e w2 ⟨rfl,hb2⟩;have h2:=H0.o.keep hb2;have H2:=Zh (h2.row_nil 186 4);clear hb2 h2 H0 HS;go_wp2;go_loopw [7,8] (fun a7 a8 wr=>∃ (at_:Nat) (es:List Ext) (A:Option Addr) (c':Nat),a8=int i64 at_∧at_<=n∧a7=slice A es.length c'∧FewE off P n at_ es.length∧Cover L off at_ es∧St w w.hp wr [HP.row 186 4 (slice A es.length c') es.length (es.flatMap Ext.vals),pt w.heap.size (cells #[int i64 o,int i64 u,int i64 c] 30)]) (fun _ a8 _=>(n - (intOf a8).toNat:Nat));case atStart=>exact ⟨0,[],none,0,rfl,by omega,rfl,⟨by simp,by simp,fun _=>(by simp),.inl rfl⟩,HNIL.o,H2.o⟩
 case round =>
  obtain ⟨at_,es,A,c',rfl,hat,rfl,hfew,hcov,hst⟩:=hrel;have hel:=hfew.le;have HFEW:=Zh hfew;clear hfew;by_cases hlt:at_<n
  ·have d0:decide ((at_:Int)<(n:Int))=true:=by rw [Ze];omega
   obtain ⟨x0,x1,x2⟩:=Zbw (hst.pull 1 _ rfl);obtain ⟨x,hx⟩:∃ x,off+at_=x:=⟨_,rfl⟩;have hw1:(off:Int)+(at_:Int)=(x:Int):=by omega
   have hp:=HBK.o x (by omega) wr;have hand:=HAND.o x (by omega);have hep:=HEP.o;obtain ⟨B,hB⟩:∃ B,(ZB L x).1=B:=⟨_,rfl⟩;obtain ⟨B2,hB2⟩:∃ B,(ZB L x).2=B:=⟨_,rfl⟩;rw [hB,hB2] at hp;have HPL:=Zh hp;have HST:=Zh hst;have HB:=Zh hB;have HB2:=Zh hB2;have HCOV:=Zh hcov;have hx64:x % P<P:=ZaU _ hu6.2.2;obtain ⟨r,hr⟩:∃ r,x % P=r:=⟨_,rfl⟩;rw [hr] at hand hx64;have HR:=Zh hr;have HX:=Zh hx;clear hx hp hst hB hB2 hcov hr;go_wp2_with fail;refine HPL.o.mono ?_;rintro e w3 ⟨rfl,hb3⟩;have h3:=HST.o.keep hb3;clear x0 x1 x2;obtain ⟨x0,x1,x2⟩:=Zbw (h3.pull 1 _ rfl);have H3:=Zh h3;clear h3 hb3;go_wp2_with fail;go_quiet (fail);rename_i nq;have h4:=H3.o.drewN nq;generalize w3.drewN nq=w4 at h4 |-;clear x0 x1 x2;obtain ⟨x0,x1,x2⟩:=Zbw (h4.pull 1 _ rfl);have H4:=Zh h4;clear h4 H3;obtain ⟨k,hk⟩:∃ k,min (n - at_) (P - r)=k:=⟨_,rfl⟩;have HFW:=Zh (HFEW.o.step hP4 (by rw [HX.o];exact HR.o) hk hlt);have ek:min ((n:Int) - (at_:Int)) ((P:Int) - (r:Int))=(k:Int):=by omega
   rw [ek];have hk1:1<=k:=by omega
   have hk2:at_+k<=n:=by omega
   have hk3:x % P+k<=P:=by rw [HR.o];omega
   have HK:=Zh hk3;clear ek hand hep hk hk3;have hel2:es.length<=1000000:=by omega
   obtain ⟨a2,ha2⟩:∃ a,at_+k=a:=⟨_,rfl⟩;have hw2:(at_:Int)+(k:Int)=(a2:Int):=by omega
   have app:=fun (wx:World) (hx:St w w.hp wx [HP.row 186 4 (slice A es.length c') es.length (es.flatMap Ext.vals),pt w.heap.size (cells #[int i64 o,int i64 u,int i64 c] 30)])=>St.row_push (ty:=182) underlying182 Zp2 rfl (by decide) (by decide) (mk:=Ext.vals) (fun _=>rfl) hx ⟨B,B2,k,at_⟩ (fun u hu=>Zp3 [⟨B,B2,k,at_⟩] u (by simpa using hu)) hel2 #[int i64 B,int i64 B2,int i64 k,int i64 at_] rfl;obtain ⟨es2,hes2⟩:∃ y,es++[⟨B,B2,k,at_⟩]=y:=⟨_,rfl⟩;simp only [hes2] at app;have HAPP:=Zh app;have hco1:Cover L off (at_+k) (es++[⟨B,B2,k,at_⟩]):=by
    have:=HADD.o at_ k es HCOV.o (by rw [HX.o];exact HK.o) hk1;rw [HX.o,HB.o,HB2.o] at this;exact this
   have HCO1:=Zh hco1;rw [ha2,hes2] at HCO1;have HLEN:=Zh (show FewE off P n a2 es2.length by rw [<-hes2,<-ha2,ZA,Zie];exact HFW.o.1);have HLEN2:=Zh (show FewE off P n a2 es.length by rw [<-ha2];exact HFW.o.2);have HA2:=Zh ha2;have ha3:at_<a2∧a2<=n:=by omega
   clear app hco1 hes2 ha2;rcases List.eq_nil_or_concat es with he|⟨es0,el,he⟩
   ·have hl0:(es.length:Int)=0:=by rw [he];rfl
    (go_wp2_with fail;go_quiet (fail);rename_i nq;have h5:=H4.o.drewN nq;generalize w4.drewN nq=w5 at h5 |-;obtain ⟨A6,c6,w6,hr6,h6⟩:=HAPP.o w5 h5;have HR6:=Zh hr6;have H6:=Zh h6;clear h5 hr6 h6 x0 x1 x2;go_wp2_with (at_builtin;refine Zax _ rfl (.tmp 99) (.tmp 105) 182 182 rfl _ _ rfl rfl _ _ HR6.o ?_);go_roundw;case rel=>exact ⟨a2,_,A6,c6,by go_num,by omega,rfl,HLEN.o,HCO1.o,H6.o⟩
     case measure=>simp only [intOf];omega)
   ·rw [List.concat_eq_append] at he;have hl0:es.length=es0.length+1:=by rw [he];simp
    obtain ⟨i,hi⟩:∃ i,es0.length=i:=⟨_,rfl⟩;rw [hi] at hl0;have hi1:(es.length:Int) - 1=i:=by omega
    have d0:decide (0<=(i:Int))=true:=by rw [Ze];omega
    have hgi:es[i]?=some el:=by rw [he,<-hi];simp
    obtain ⟨G,C,e1,hc1,hG,hcell⟩:=St.row_elem (mk:=Ext.vals) H4.o (fun _=>rfl) hgi;simp only [ZF,ZK] at e1;obtain ⟨e1,rfl⟩:=e1;have HA:=Zh e1;clear e1;rw [HA.o];have y0:w4.cell? ⟨G,i*4,none⟩=some (int i64 el.obj):=hcell 0 (by decide);have y1:w4.cell? ⟨G,i*4+1,none⟩=some (int i64 el.off):=hcell 1 (by decide);have y2:w4.cell? ⟨G,i*4+2,none⟩=some (int i64 el.len):=hcell 2 (by decide);have hin:(i:Int)<(es.length:Int):=by omega
    have hsm:=HSM.o at_ es HCOV.o el (by rw [he];simp);have HGI:=Zh hgi;have HE:=Zh he;have HI:=Zh hi;have HL0:=Zh hl0;clear hcell hgi he hi hl0;by_cases q1:el.obj=B
    ·subst q1;obtain ⟨eo,heo⟩:∃ x,el.off+el.len=x:=⟨_,rfl⟩;have hw3:(el.off:Int)+(el.len:Int)=(eo:Int):=by omega
     have heo2:eo<=64:=by omega
     have hw5:IntKind.i64.wrap (eo:Int)=eo:=by rw [Z2];omega
     by_cases q2:eo=B2
     ·subst q2;obtain ⟨kl,hkl⟩:∃ x,el.len+k=x:=⟨_,rfl⟩;have hw4:(el.len:Int)+(k:Int)=(kl:Int):=by omega
      have hkl2:kl<=1000:=by omega
      have hw6:IntKind.i64.wrap (kl:Int)=kl:=by rw [Z2];omega
      have HKL:=Zh hkl;have HEO:=Zh heo;go_wp2_with fail;go_quiet (fail);rename_i nq;have h5:=H4.o.drewN nq;have z0:(w4.drewN nq).cell? ⟨G,i*4+2,none⟩=some (int i64 el.len):=y2;generalize w4.drewN nq=w5 at h5 z0 |-;rw [HA.o] at h5;obtain ⟨h6,f6,lt6⟩:=St.row_set (mk:=Ext.vals) h5 (fun _=>rfl) (a':={ el with len:=kl }) (v:=int i64 (kl:Int)) HGI.o (show 2<4 by decide) rfl;have H6:=Zh h6;clear h5 h6 x0 x1 x2 y0 y1 y2;go_wp2;go_roundw;case rel =>
       have e7:es.set i { el with len:=kl }=es0++[{ el with len:=kl }]:=by rw [HE.o,List.set_append_right _ _ (by rw [HI.o];exact Z9 _),HI.o,Zfm];rfl
       have hc:=HCOV.o;rw [HE.o] at hc;have h8:=HMER.o at_ k es0 el hc (by rw [HX.o];exact HK.o) (by rw [HX.o];exact HB.o.symm) (by rw [HX.o,HB2.o];exact HEO.o) hk1;rw [HA2.o,HKL.o,<-e7] at h8;have h9:=H6.o;refine ⟨a2,es.set i { el with len:=kl },some ⟨G,0,none⟩,c',rfl,by omega,?_,?_,h8,?_⟩
       ·rw [Zde]
       ·rw [Zde];exact HLEN2.o
       ·rw [Zde];exact h9
      case measure=>simp only [intOf];omega
     ·have dq2:((eo:Int)==(B2:Int))=false:=Zfk.2 (by omega)
      (go_wp2_with fail;go_quiet (fail);rw [<-HA.o];rename_i nq;have h5:=H4.o.drewN nq;generalize w4.drewN nq=w5 at h5 |-;obtain ⟨A6,c6,w6,hr6,h6⟩:=HAPP.o w5 h5;have HR6:=Zh hr6;have H6:=Zh h6;clear h5 hr6 h6 x0 x1 x2 y0 y1 y2;go_wp2_with (at_builtin;refine Zax _ rfl (.tmp 99) (.tmp 105) 182 182 rfl _ _ rfl rfl _ _ HR6.o ?_);go_roundw;case rel=>exact ⟨a2,_,A6,c6,by go_num,by omega,rfl,HLEN.o,HCO1.o,H6.o⟩
       case measure=>simp only [intOf];omega)
    ·have dq1:((el.obj:Int)==(B:Int))=false:=Zfk.2 (by omega)
     (go_wp2_with fail;go_quiet (fail);rw [<-HA.o];rename_i nq;have h5:=H4.o.drewN nq;generalize w4.drewN nq=w5 at h5 |-;obtain ⟨A6,c6,w6,hr6,h6⟩:=HAPP.o w5 h5;have HR6:=Zh hr6;have H6:=Zh h6;clear h5 hr6 h6 x0 x1 x2 y0 y1 y2;go_wp2_with (at_builtin;refine Zax _ rfl (.tmp 99) (.tmp 105) 182 182 rfl _ _ rfl rfl _ _ HR6.o ?_);go_roundw;case rel=>exact ⟨a2,_,A6,c6,by go_num,by omega,rfl,HLEN.o,HCO1.o,H6.o⟩
      case measure=>simp only [intOf];omega)
  ·obtain rfl:at_=n:=by omega
   have d0:decide ((at_:Int)<(at_:Int))=false:=by rw [Zk];omega
   go_wp2;go_ret;rw [HLL.o];exact ⟨es,A,c',rfl,hcov,(hst.pull 1 _ rfl).drop,by have:=HFEW.o.all;omega⟩
end
def HP.win (e:TypeId) (size:Nat) (v:Value) (n:Nat) (xs:List Value):HP :=
 ⟨fun _ h=>xs.length=n*size∧((v=slice none 0 0∧n=0) ∨
  ∃ g q cap cur,v=slice (some ⟨g,q,none⟩) n cap∧h g=some (cells cur e (0,0))∧n<=cap∧cap<=maxLen∧q+cap*size<=cur.size∧(cur.toList.drop q).take (n*size)=xs),fun _ q=>q⟩
section
variable {e : TypeId} {size : Nat} {v v' : Value} {n n' : Nat} {xs xs' : List Value}
theorem St.win_open (h:St W I w (HP.win e size v n xs::l)):xs.length=n*size∧((v=slice none 0 0∧n=0∧St W I w l) ∨
  ∃ g q cap cur,v=slice (some ⟨g,q,none⟩) n cap∧n<=cap∧cap<=maxLen∧q+cap*size<=cur.size∧(cur.toList.drop q).take (n*size)=xs∧St W I w (pt g (cells cur e (0,0))::l)):=by
 have hd:=h.drop;obtain ⟨k,a,d,h1,h2,d',a',b',⟨hl,p⟩,q⟩:=h.own;refine ⟨hl,?_⟩;rcases p with ⟨p1,p2⟩|⟨g,o,cap,cur,p1,p2,p3,p4,p5,p6⟩
 ·exact .inl ⟨p1,p2,hd⟩
 ·exact .inr (⟨g,o,cap,cur,p1,p3,p4,p5,p6,h.os,h.tape,h.output,h.base,h.imm,k,a,d,h1,h2,d',a',b',p2,q⟩)
theorem St.win_nil (h:St W I w l) (e:TypeId) (size:Nat):St W I w (HP.win e size (slice none 0 0) 0 []::l) :=
 h.imp fun k c=>⟨Hp.nil,k,(Hp.disj_nil _).symm,Hp.nil_sub _,Hp.sub.refl _,⟨by simp,.inl ⟨rfl,rfl⟩⟩,c⟩
theorem St.win_shut {g q cap:Nat} {cur:Array Value} (h:St W I w (pt g (cells cur e (0,0))::l)) (hx:xs.length=n*size) (hn:n<=cap) (hc:cap<=maxLen) (hs:q+cap*size<=cur.size) (ht:(cur.toList.drop q).take (n*size)=xs) :
  St W I w (HP.win e size (slice (some ⟨g,q,none⟩) n cap) n xs::l) :=
 h.imp fun _ ⟨h1,h2,d',a',b',p2,r⟩=>⟨h1,h2,d',a',b',⟨hx,.inr ⟨g,q,cap,cur,rfl,p2,hn,hc,hs,ht⟩⟩,r⟩
theorem St.win_of_row (h:St W I w (HP.row e size v n xs::l)):St W I w (HP.win e size v n xs::l):=by
 obtain ⟨hl,p⟩:=h.row_open;rcases p with ⟨rfl,rfl,s⟩|⟨g,cap,cur,rfl,p3,p4,p5,p6,s⟩
 ·simp at hl;subst hl;exact s.win_nil e size
 ·exact s.win_shut hl p3 p4 (by omega) (by simpa using p6)
theorem St.win_len (h:St W I w (HP.win e size v n xs::l)):xs.length=n*size:=h.win_open.1
theorem St.win_slice (h:St W I w (HP.win e size v n xs::l)):∃ A c,v=slice A n c∧n<=c∧c<=maxLen∧(A=none->c=0):=by
 obtain ⟨hl,p⟩:=h.win_open;rcases p with ⟨rfl,rfl,s⟩|⟨g,q,cap,cur,rfl,p3,p4,p5,p6,s⟩
 ·exact ⟨_,_,rfl,Z9 _,by unfold maxLen;omega,fun _=>rfl⟩
 ·exact ⟨_,_,rfl,p3,p4,fun e=>by cases e⟩
theorem St.win_cell (h:St W I w (HP.win e size v n xs::l)) (hn:0<xs.length):∃ g q c,v=slice (some ⟨g,q,none⟩) n c∧g<w.heap.size∧n<=c∧∀ j u,xs[j]?=some u->w.cell? ⟨g,q+j,none⟩=some u:=by
 obtain ⟨hl,p⟩:=h.win_open;rcases p with ⟨rfl,rfl,s⟩|⟨g,q,cap,cur,rfl,p3,p4,p5,p6,s⟩
 ·simp at hl;subst hl;simp at hn
 ·refine ⟨g,q,cap,rfl,s.lt,p3,fun j u hu=>?_⟩;rw [Zc s.heap,<-hu,<-p6];have hj:j<n*size:=by
   have:=(ZS.1 hu).1;omega
  rw [Zid hj,Zb9,Zh5]
theorem St.win_src (h:St W I w (HP.win e size v n xs::l)) (h1:∀ u ∈ xs,u.oneCell'=true) (hs:0<size):SliceSrc w size v n xs:=by
 have hl:=h.win_len;obtain ⟨A,c,rfl,_,_,hA⟩:=h.win_slice;refine ⟨A,c,rfl,⟨hl,fun hn=>?_,h1⟩,hA⟩;obtain ⟨g,q,c',e1,_,_,hc⟩:=h.win_cell (by rw [hl];exact Nat.mul_pos hn hs);simp only [ZF] at e1;refine ⟨_,e1.1,fun j u hu=>?_⟩;rw [add_plain];exact hc j u hu
theorem Zo0 {cur ys xs:List Value} {q a:Nat} (hx:(cur.drop q).take a=xs) (ha:xs.length=a) (hfit:q+a+ys.length<=cur.length) :
  ((cur.take (q+a)++ys++cur.drop (q+a+ys.length)).drop q).take (a+ys.length)=xs++ys:=by
 have h1:cur.take (q+a)=cur.take q++xs:=by rw [List.take_add,hx]
 have h2:(cur.take q).length=q:=by rw [ZN];omega
 rw [h1,Zam,Zam];rw [List.drop_append_of_le_length (by omega),List.drop_eq_nil_of_le (by omega),ZP,<-Zam];rw [List.take_append_of_le_length (by simp;omega),Zew (by simp;omega)]
theorem St.win_append {t ty:TypeId} {i:TypeInfo} {z:Value} {bytes m:Nat} {v2:Value} {ys:List Value} (h:St W I w (HP.win e size v n xs::l)) (ht:prog.underlying t=some (.slice e)) (hi:prog.info? e=some i) (hz:i.zero=some z)
  (hsize:i.size=size) (hby:i.bytes=bytes) (hzs:z.cells.size=size) (hsz:0<size) (hbb:bytes<=100) (h1:∀ u ∈ xs,u.oneCell'=true) (hs:SliceSrc w size v2 m ys) (hb:n+m<=1000000000) :
  ∃ v' w',(Builtin.append_ #[t,t] ty #[v,v2]).run prog w=.ok v' w'∧St W I w' (HP.win e size v' (n+m) (xs++ys)::l):=by
 have hbytes:(n+m)*bytes<=140737488355328:=ZQ (ZeF hb hbb) (by omega);obtain ⟨hl,p⟩:=h.win_open;have hsrc0:=h.win_src h1 hsz;rcases p with ⟨rfl,rfl,s⟩|⟨g,q,cap,cur,rfl,p3,p4,p5,p6,s⟩
 ·simp at hl;subst hl;obtain ⟨A,c,rfl,hsrc,hA⟩:=hs;have h0:=s.row_nil e size;obtain ⟨v',w',hr,ho',hgr,hv'⟩:=Zdf (P:=prog) w 0 t ty e i z size bytes ht hi hz hsize hby hzs hsz _ 0 [] h0.row_owns A m c ys hsrc hA (by unfold maxLen;omega) hbytes (ZaY _);exact ⟨v',w',hr,(h0.row_grown ho' hgr hv').win_of_row⟩
 ·obtain ⟨A,c,rfl,hsrc,hA⟩:=hs;subst hsize;cases A with
  | none =>
   have hm:m=0:=by
    rcases Zbf m with h|h
    ·exact h
    ·obtain ⟨_,e,_⟩:=hsrc.cells h;cases e
   subst hm;have hy:ys=[]:=ZbZ (by rw [hsrc.len,Zb0]);subst hy;refine ⟨_,w,?_,by simpa using h⟩;have hst:∀ a:Addr,Sem.run prog (Go.storeCells a []) w=.ok () w:=fun _=>rfl;simp [hst,Builtin.append_,Za3 ht,sizeOf,typeInfo,hi,Builtin.lenOf,Builtin.firstCells,p3]
  | some ad =>
   have hnews:∀ j u,ys[j]?=some u->w.cell? (ad.add j)=some u:=fun j u hu=>by
    have hm:0<m:=by
     rcases Zbf m with h|h
     ·subst h;have:ys=[]:=ZbZ (by rw [hsrc.len,Zb0]);subst this;cases hu
     ·exact h
    obtain ⟨_,e,hc⟩:=hsrc.cells hm;cases e;exact hc j u hu
   by_cases hroom:n+m<=cap
   ·have hfit:q+n*i.size+ys.length<=cur.size:=by
     have:=Zcj i.size hroom;rw [Zbj] at this;rw [hsrc.len];omega
    have hf:=run_firstCells_some (P:=prog) w i.size m ad m c ys hsrc.len hnews;have hst:=run_storeCells_at prog g (q+n*i.size) e ys 0 cur w s.heap (by simpa using hfit) hsrc.one;simp only [Zbg] at hst;refine ⟨_,w.setRow g (cur.toList.take (q+n*i.size)++ys++cur.toList.drop (q+n*i.size+ys.length)).toArray,?_,(s.write (w':=w.setRow g (cur.toList.take (q+n*i.size)++ys++cur.toList.drop (q+n*i.size+ys.length)).toArray) (o':=cells (cur.toList.take (q+n*i.size)++ys++cur.toList.drop (q+n*i.size+ys.length)).toArray e (0,0)) rfl rfl rfl (setRow_heap w g cur _ e _ s.heap) (fun c hc hcg=>setRow_other w g c _ hcg)).win_shut (n:=n+m) (q:=q) (cap:=cap) ?_ hroom p4 ?_ ?_⟩
    ·simp [Builtin.append_,Za3 ht,sizeOf,typeInfo,hi,Builtin.lenOf,hroom,hf,Addr.add_lit,hst]
    ·rw [ZA,hl,hsrc.len,Zbj]
    ·simp only [Zc7,ZA,ZN,Zas,ZdC];omega
    ·have h9:=Zo0 (ys:=ys) p6 hl (by rw [ZdC];exact hfit);rw [hsrc.len] at h9;rw [Zbj,hsrc.len];exact h9
   ·have hold:∀ j u,xs[j]?=some u->w.cell? ((⟨g,q,none⟩:Addr).add j)=some u:=fun j u hu=>by
     obtain ⟨A0,c0,e1,hc,_⟩:=hsrc0;have hlt:=(ZS.1 hu).1;have hn0:0<n:=by
      rcases Zbf n with h|h
      ·subst h;rw [Zb0] at hl;omega
      ·exact h
     obtain ⟨ad',e2,hc'⟩:=hc.cells hn0;simp only [ZF] at e1;rw [<-e1.1] at e2;cases e2;exact hc' j u hu
    have hr:=run_append_grow (P:=prog) w t ty e i z ht hi hz ⟨g,q,none⟩ n cap xs hl hold ad m c ys hsrc.len hnews (by omega) (by omega) (growslice_fits (by omega) (by rw [hby];exact hbytes));refine ⟨_,_,hr,?_⟩;have s2:=(s.drop.drew).alloc (cells (xs.toArray++ys.toArray++Builtin.zeroCells z.cells (grownCap w (n+m) cap e - (n+m))) e);have hge:=grownCap_ge w (n+m) cap e;have hcm:grownCap w (n+m) cap e<=maxLen:=grownCap_le_maxLen w (n+m) cap e (by unfold maxLen;omega);have hlen:(xs++ys).length=(n+m)*i.size:=by rw [ZA,hl,hsrc.len,Zbj]
    refine s2.win_shut (q:=0) hlen hge hcm ?_ ?_
    ·simp only [Array.size_append,Zc7,size_zeroCells,hzs,hl,hsrc.len,<-Zbj,Zar];exact Zcj _ (by omega)
    ·simp only [Array.toList_append,Zam,List.drop_zero];rw [<-Zam,<-hlen];exact Zgm
end
def ZdT (p:Nat) (h:Hd) (v:Value):Array Value :=
 #[pointer (some ⟨p,0,none⟩),int i64 0,int i64 h.size,int i64 h.l.order,int i64 h.l.unit,int i64 h.l.count,int i64 h.next,int i64 h.seq,v,.bool false]
def mksIP (v:Value) (ms:List Mk):IP:=⟨fun I=>RowI I 4 v ms.length (ms.flatMap Mk.vals),fun s h=>h.mono s⟩
def imgHP (q p:Nat) (h:Hd):HP:=HP.ex fun v:Value=>HP.all [pt q (cells (ZdT p h v) 119),HP.imm (mksIP v h.marks)]
section
variable {p q : Nat} {S : Str} {h : Hd}
theorem RowI.cap {k n:Nat} {v:Value} {xs:List Value} (r:RowI I k v n xs):∃ A c,v=slice A n c∧n<=c:=by
 obtain ⟨A,c,e,_,h3,_⟩:=r;exact ⟨A,c,e,h3⟩
theorem ZbW {v:Value} {ms:List Mk} (hst:St W I w l) (hv:(mksIP v ms).p I):SliceSrc w 4 v ms.length (ms.flatMap Mk.vals):=RowI.src hv hst.imm (Zb6 ms) (by decide)
theorem St.img_open (hs:St W I w (imgHP q p h::l)):∃ v,(mksIP v h.marks).p I∧St W I w (pt q (cells (ZdT p h v) 119)::l):=by
 obtain ⟨v,h1⟩:=hs.ex_open;obtain ⟨hr,h2⟩:=((h1.all_open).pull 1 _ rfl).imm_open;exact ⟨v,hr,h2⟩
theorem St.img_shut {v:Value} (hv:(mksIP v h.marks).p I) (hs:St W I w (pt q (cells (ZdT p h v) 119)::l)):St W I w (imgHP q p h::l):=by
 refine St.ex_shut v ?_;refine St.all_shut ?_;exact ((St.imm_shut (A:=mksIP v h.marks) hv hs).pull 1 _ rfl)
structure ImgAt (w:World) (q p:Nat) (h:Hd) (v:Value):Prop where
 c0:w.cell? ⟨q,0,none⟩=some (pointer (some ⟨p,0,none⟩))
 c1:w.cell? ⟨q,1,none⟩=some (int i64 0)
 c2:w.cell? ⟨q,2,none⟩=some (int i64 h.size)
 c3:w.cell? ⟨q,3,none⟩=some (int i64 h.l.order)
 c4:w.cell? ⟨q,4,none⟩=some (int i64 h.l.unit)
 c5:w.cell? ⟨q,5,none⟩=some (int i64 h.l.count)
 c6:w.cell? ⟨q,6,none⟩=some (int i64 h.next)
 c7:w.cell? ⟨q,7,none⟩=some (int i64 h.seq)
 c8:w.cell? ⟨q,8,none⟩=some v
 c9:w.cell? ⟨q,9,none⟩=some (.bool false)
theorem Zz {v:Value} (hs:St W I w (pt q (cells (ZdT p h v) 119)::l)):ImgAt w q p h v:=by
 have y:=Zc hs.heap;exact ⟨y 0,y 1,y 2,y 3,y 4,y 5,y 6,y 7,y 8,y 9⟩
theorem St.freeze_win {e:TypeId} {size:Nat} {v:Value} {n:Nat} {xs:List Value} (h:St W I w (HP.win e size v n xs::l)):∃ I':Hp,I.sub I'∧RowI I' size v n xs∧St W I' w l:=by
 obtain ⟨hl,p⟩:=h.win_open;rcases p with ⟨rfl,rfl,s⟩|⟨g,o,cap,cur,rfl,p3,p4,p5,p6,s⟩
 ·exact ⟨I,Hp.sub.refl _,⟨none,0,rfl,hl,Z9 _,ZaY _,fun _=>rfl,fun h=>absurd h (by omega)⟩,s⟩
 ·obtain ⟨I',hs,hI,s⟩:=s.freeze;refine ⟨I',hs,⟨some ⟨g,o,none⟩,cap,rfl,hl,p3,p4,(fun e=>by cases e),fun _=>⟨g,o,cur,e,(0,0),rfl,hI,fun i x hx=>?_⟩⟩,s⟩;rw [<-p6,Zci] at hx;split at hx
  ·rw [Zb9,Zh5] at hx;exact hx
  ·cases hx
theorem St.win_clip {e:TypeId} {size:Nat} {A:Option Addr} {c n:Nat} {xs:List Value} (h:St W I w (HP.win e size (slice A n c) n xs::l)):St W I w (HP.win e size (slice A n n) n xs::l):=by
 obtain ⟨hl,p⟩:=h.win_open;rcases p with ⟨e1,rfl,s⟩|⟨g,o,cap,cur,e1,p3,p4,p5,p6,s⟩
 ·simp only [ZF] at e1;obtain ⟨rfl,_,rfl⟩:=e1;exact h
 ·simp only [ZF,ZK] at e1;obtain ⟨rfl,rfl⟩:=e1;have:=Zcj size p3;exact s.win_shut hl (Z9 _) (by omega) (by omega) p6
theorem ZbK (hs:St W I w (Zd p S::imgHP q p h::l)) (hon:S.on=true):Calls prog 65 #[pointer (some ⟨q,0,none⟩)] w fun e w'=>e=.returned (int i64 0)∧w=w':=by
 have ho:=Zgf hs;rw [hon] at ho;obtain ⟨v,_,h1⟩:=(hs.pull 1 _ rfl).img_open;have a:=Zz h1;have c0:=a.c0;have c9:=a.c9;have HO:=Zh ho;clear hs ho h1 a hon;go_enter func65,ntmps65;go_wp2_with fail;refine HO.o.mono ?_;rintro e w2 ⟨rfl,rfl⟩;go_wp2;go_ret;exact ⟨rfl,rfl⟩
theorem ZeQ (q:Nat) (why:Int) (h7:why≠7) (w:World):Calls prog 71 #[pointer (some ⟨q,0,none⟩),int i64 why] w fun e w'=>e=.returned (int i64 why)∧w=w':=by
 have e1:(why==7)=false:=by simpa using h7
 go_enter func71,ntmps71;go_wp2;go_ret;exact ⟨rfl,rfl⟩
theorem Ze3 (img:Int) (w:World):Calls prog 137 #[int i64 img] w fun e w'=>e=.returned (.agg #[int i64 3,int i64 img,int i64 0,int i64 0])∧Below w.heap.size w w':=by
 go_enter func137,ntmps137;go_wp2;exact ZaK (v:=.agg #[int i64 3,int i64 img,int i64 0,int i64 0]) (by simp [results,results137,go_sem]) rfl ⟨rfl,ZM _ _⟩
theorem ZgU (hs:St W I w (Zd p S::l)) (hon:S.on=true):Calls prog 77 #[pointer (some ⟨p,0,none⟩),int i64 0] w fun e w'=>e=.returned (int i64 0)∧w=w':=by
 have ho:=Zgf hs;rw [hon] at ho;have HO:=Zh ho;clear hs ho hon;go_enter func77,ntmps77;go_wp2_with fail;refine HO.o.mono ?_;rintro e w2 ⟨rfl,rfl⟩;go_wp2;go_ret;exact ⟨rfl,rfl⟩
theorem ZgV (hs:St W I w (imgHP q p h::l)) (hl:h.l.ok):Calls prog 157 #[pointer (some ⟨q,0,none⟩)] w fun e w'=>∃ n:Nat,e=.returned (int i64 n)∧IsObjs h.l 512 n∧Below w.heap.size w w':=by
 obtain ⟨v,_,h1⟩:=hs.img_open;have a:=Zz h1;have c3:=a.c3;have c4:=a.c4;have c5:=a.c5;have HO:=Zh (Zl9 h.l hl 512 (by decide) w);obtain ⟨sz,⟨o,u,cn⟩,nx,sq,ms⟩:=h;simp only [Ly.val] at *;clear hs h1 a hl;go_enter func157,ntmps157;go_wp2_with fail;refine HO.o.mono ?_;rintro e w2 ⟨n,rfl,hn,hb⟩;go_wp2;go_ret;exact ⟨n,rfl,hn,hb⟩
end
end Go.Proofs.YtcbdghojlbpomaaGreat
