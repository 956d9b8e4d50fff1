import Derived.Test.YtcbdghojlbpomaaGreatIF14
import Derived.Test.YtcbdghojlbpomaaGreatIF12
set_option linter.all false
set_option maxRecDepth 4000
set_option maxHeartbeats 8000000
open Go.RowKit
open Go.IntKind (i64 u64)
open Go.Value (int pointer slice)
open Go.Obj (cells)
namespace Go.Proofs.YtcbdghojlbpomaaGreat
open Tryz
open HP (pt mapOf)
variable {W w w':World} {I:Hp} {l:List HP}
def sevN:Nat->Nat->List Int
 | 0,u=>[(u:Int)]
 | f+1,u=>if 128<=u then (((u % 128:Nat):Int)+128)::sevN f (u / 128) else [(u:Int)]
def varB (n:Int):List Int:=sevN 8 n.toNat
theorem ZgQ:∀ (f u:Nat),1<=(sevN f u).length∧(sevN f u).length<=f+1
 | 0,u=>by simp [sevN]
 | f+1,u=>by
  have:=ZgQ f (u / 128);unfold sevN;split <;> simp <;> omega
theorem Zcd (n:Int):1<=(varB n).length∧(varB n).length<=9:=ZgQ 8 _
theorem Zjj:∀ (f u:Nat),u<2 ^ (7*f+7)->∀ x ∈ sevN f u,isByte x
 | 0,u,hu=>by
  simp only [sevN,Zaz,forall_eq,isByte];simp at hu;omega
 | f+1,u,hu=>by
  unfold sevN;split
  ·intro x hx;rcases ZO.1 hx with rfl|hx
   ·unfold isByte;omega
   ·refine Zjj f (u / 128) ?_ x hx;rw [show 7*(f+1)+7=(7*f+7)+7 by omega,ZeC] at hu;omega
  ·intro x hx;rw [Zaz] at hx;subst hx;unfold isByte;omega
theorem Znu {n:Int} (h:n<9223372036854775808):∀ x ∈ varB n,isByte x:=Zjj 8 _ (by simp;omega)
theorem u8_or128 (x:Int) (h0:0<=x) (h1:x<256):bits .or .u8 x 128=x % 128+128:=by
 obtain ⟨X,rfl⟩:∃ X:Nat,x=X:=⟨x.toNat,by omega⟩;have:∀ X:Nat,X<256->bits .or .u8 (X:Int) 128=(X:Int) % 128+128:=by decide +kernel
 exact this X (by omega)
theorem Zj7 (x:Int) (h0:0<=x) (h1:x<256):bits .and .u8 x 127=x % 128:=by
 obtain ⟨X,rfl⟩:∃ X:Nat,x=X:=⟨x.toNat,by omega⟩;have:∀ X:Nat,X<256->bits .and .u8 (X:Int) 127=(X:Int) % 128:=by decide +kernel
 exact this X (by omega)
section
theorem ZkP (v:Value) (b:List Int) (n:Int) (w:World) (hs:SliceSrc w 1 v b.length (b.map byteV)) (hn0:0<=n) (hn:n<9223372036854775808) (hbl:b.length<=1000000) :
  Calls prog 205 #[v,int i64 n] w fun e w'=>∃ v',e=.returned v'∧Below w.heap.size w w'∧w'.ownsRow w.heap.size 5 1 v' (b++varB n).length ((b++varB n).map byteV):=by
 obtain ⟨N,rfl⟩:∃ N:Nat,n=N:=⟨n.toNat,by omega⟩;have hn63:N<9223372036854775808:=by omega
 go_enter func205,ntmps205;go_wp2_with fail;refine (Za4 v b.length (b.map byteV) w hs hbl).mono ?_;rintro e w1 ⟨v1,rfl,ho1,hb1⟩;have h1:St w w.hp w1 (HP.row 5 1 v1 b.length (b.map byteV)::[]):=(St.init w).row_fresh hb1 ho1;obtain ⟨A1,c1,rfl⟩:=ZD ho1;have H1:=Zh h1;have hmx:max (N:Int) 0=N:=by omega
 clear h1 ho1 hb1;go_wp2_with fail;have hst0:(128:Nat)<=128:=Z9 _;go_loopw [5,6] (fun a5 a6 wr=>∃ (p:List Int) (f u:Nat) (A:Option Addr) (c:Nat),a6=int u64 u∧a5=slice A (b++p).length c∧p++sevN f u=sevN 8 N∧u<2 ^ (7*f+7)∧f<=8∧p.length+f=8∧St w w.hp wr (HP.row 5 1 (slice A (b++p).length c) (b++p).length ((b++p).map byteV)::[])) (fun _ a6 _=>(intOf a6).toNat);case atStart=>exact ⟨[],8,N,A1,c1,rfl,by simp,rfl,by simp;omega,by omega,rfl,by simpa using H1.o⟩
 case round =>
  obtain ⟨p,f,u,A,c,rfl,rfl,hp,hu,hf,hpf,hst⟩:=hrel
  have hu63:u<9223372036854775808:=Zgn hu (by
   have:=Zgw (show 1<=2 by decide) (show 7*f+7<=63 by omega)
   omega)
  by_cases hge:128<=u
  ·have dg:decide ((128:Int)<=(u:Int))=true:=by rw [Ze];omega
   cases f with
   | zero=>simp at hu;omega
   | succ f =>
    have ho:=u8_or128 ((u:Int) % 256) (by omega) (by omega);have e0:(u:Int) % 256 % 128+128=((u % 128:Nat):Int)+128:=by omega
    have hst2:=hst.keep (ZM wr (cells #[int .u8 (((u % 128:Nat):Int)+128)] 5));obtain ⟨v',w',hr,h2⟩:=St.bytes_append 32 hst2 (ZhH wr (((u % 128:Nat):Int)+128)) (by rw [ZA];omega);obtain ⟨A',c',rfl⟩:=ZD h2.row_owns;have e2:(b++p).length+1=(b++(p++[((u % 128:Nat):Int)+128])).length:=by simp [Zb3]
    have e3:(b++p).map byteV++[int .u8 (((u % 128:Nat):Int)+128)]=(b++(p++[((u % 128:Nat):Int)+128])).map byteV:=by rw [<-Zam,Z4 (l₂:=[((u % 128:Nat):Int)+128])];rfl
    rw [e3,e2] at h2;rw [e2] at hr
    have HP:=Zh (show (p++[((u % 128:Nat):Int)+128])++sevN f (u / 128)=sevN 8 N by
     rw [<-hp,Zam];conv=>rhs;unfold sevN
     rw [Zb hge]
     rfl)
    have HU:=Zh (show u / 128<2 ^ (7*f+7) by
     rw [show 7*(f+1)+7=(7*f+7)+7 by omega,ZeC] at hu
     omega)
    have ho:=ho.trans e0;have HR:=Zh hr;have H2:=Zh h2;have HL:=Zh hpf;clear hst hst2 hr h2 e2 e3 e0 hp hu hpf hst0;go_wp2_with (at_builtin;refine Zax _ rfl (.tmp 14) (.tmp 18) 32 32 rfl _ _ rfl rfl _ _ HR.o ?_);go_roundw;case rel=>exact ⟨_,f,u / 128,A',c',by go_num,by simp,HP.o,HU.o,by omega,by have:=HL.o;rw [ZA,Zie];omega,H2.o⟩
    case measure=>simp [intOf]<;>omega
  ·have dg:decide ((128:Int)<=(u:Int))=false:=by rw [Zk];omega
   have hs:sevN f u=[(u:Int)]:=by
    cases f with
    | zero=>rfl
    | succ f=>unfold sevN;rw [Za hge]
   rw [hs] at hp;have e0:(u:Int) % 256=u:=by omega
   have hst2:=hst.keep (ZM wr (cells #[int .u8 (u:Int)] 5));obtain ⟨v',w',hr,h2⟩:=St.bytes_append 32 hst2 (ZhH wr (u:Int)) (by rw [ZA];omega);obtain ⟨A',c',rfl⟩:=ZD h2.row_owns;have e2:(b++p).length+1=(b++varB N).length:=by
    have:varB (N:Int)=p++[(u:Int)]:=by rw [hp];rfl
    rw [this];simp [Zb3]
   have e3:(b++p).map byteV++[int .u8 (u:Int)]=(b++varB N).map byteV:=by
    have:varB (N:Int)=p++[(u:Int)]:=by rw [hp];rfl
    rw [this,<-Zam,Z4 (l₂:=[(u:Int)])];rfl
   rw [e3,e2] at h2;rw [e2] at hr;have HR:=Zh hr;have H2:=Zh h2;clear hst hst2 hr h2 e2 e3 hp hu hpf hst0 hs;go_wp2_with (at_builtin;refine Zax _ rfl (.tmp 22) (.tmp 25) 32 32 rfl _ _ rfl rfl _ _ HR.o ?_);go_ret;refine ⟨_,rfl,H2.o.below,?_⟩;have e9:b.length+(varB (N:Int)).length=(b++varB N).length:=by simp
   show w'.ownsRow _ _ _ (slice A' (b.length+(varB (N:Int)).length) c') _ _;rw [e9];exact H2.o.row_new
theorem ZqD {n x:Int} {i:Nat} (h0:0<=n) (h1:n<2 ^ (7*i)) (hx0:0<=x) (hx1:x<128) (hi:i<9):bits .or u64 n (IntKind.u64.wrap (x*2 ^ (7*i)))=n+x*2 ^ (7*i):=by
 obtain ⟨N,rfl⟩:∃ N:Nat,n=N:=⟨n.toNat,by omega⟩;obtain ⟨X,rfl⟩:∃ X:Nat,x=X:=⟨x.toNat,by omega⟩;have hN:N<2 ^ (7*i):=by exact_mod_cast h1
 have hX:X<128:=by omega
 have hp:X*2 ^ (7*i)+2 ^ (7*i)<=2 ^ 63:=by
  have h2:2 ^ (7*i)*128<=2 ^ 63:=by
   rw [show (128:Nat)=2 ^ 7 by rfl,<-ZeC];exact Zgw (by decide) (by omega)
  have h3:(X+1)*2 ^ (7*i)<=128*2 ^ (7*i):=Zcj _ (by omega);rw [Zbj,Zd8] at h3;omega
 have e1:(X:Int)*2 ^ (7*i)=((X*2 ^ (7*i):Nat):Int):=by push_cast;rfl
 rw [e1,IntKind.wrap_u64];have e2:((X*2 ^ (7*i):Nat):Int) % 18446744073709551616=((X*2 ^ (7*i):Nat):Int):=by omega
 rw [e2];show IntKind.u64.wrap ((BitVec.ofInt 64 (N:Int) ||| BitVec.ofInt 64 ((X*2 ^ (7*i):Nat):Int)).toNat:Nat)=_;rw [BitVec.toNat_or,Zif,Zif,Zig,Zig,Zgu (by omega),Zgu (by omega),Nat.or_comm,Zcc,<-Nat.two_pow_add_eq_or_of_lt hN,IntKind.wrap_u64,Zcc];omega
theorem Zj8 (v:Value) (b rest:List Int) (at':Nat) (N:Nat) (w:World) (hs:SliceSrc w 1 v b.length (b.map byteV)) (hb:b.drop at'=varB N++rest) (hn:N<9223372036854775808) (hbl:b.length<=1000000) :
  Calls prog 155 #[v,int i64 at'] w fun e w'=>e=.returned (.tuple #[int i64 N,int i64 (at'+(varB N).length:Nat),.bool true])∧w=w':=by
 obtain ⟨A,c,rfl,hsrc,_⟩:=hs;have hvl:=Zcd (N:Int);have hbl2:b.length=at'+((varB N).length+rest.length):=by
  have:=congrArg List.length hb;rw [Zas,ZA] at this;omega
 obtain ⟨g,o,rfl,hlt0,hc⟩:=Zer hsrc (by omega);have HC:=Zh hc;have HB:=Zh hb;clear hc hsrc hb;have h1:decide ((at':Int)<0)=false:=by rw [Zk];omega
 go_enter func155,ntmps155;go_wp2_with fail;go_loop [7,8,9] (fun a7 a8 a9=>∃ (i f u:Nat),a8=int i64 i∧i+f=8∧a7=int u64 ((N:Int) % 2 ^ (7*i))∧u=N / 2 ^ (7*i)∧b.drop (at'+i)=sevN f u++rest∧(varB N).length=i+(sevN f u).length∧(0<i->0<u)) (fun _ a8 _=>9 - (intOf a8).toNat);case atStart=>exact ⟨0,8,N,rfl,rfl,by simp [Nat.mod_one],by simp,HB.o,by simp [varB],by omega⟩
 case round =>
  obtain ⟨i,f,u,rfl,hif,rfl,hu,hd,hl,hpos⟩:=hrel;have hlen:=congrArg List.length hd;rw [Zas,ZA] at hlen;have hl1:=ZgQ f u;have d0:decide ((i:Int)<9)=true:=by rw [Ze];omega
  have d1:decide ((at':Int)<(b.length:Int) - (i:Int))=true:=by rw [Ze];omega
  have hin:(at':Int)+(i:Int)<(b.length:Int):=by omega
  have hp0:0<2 ^ (7*i):=Nat.pow_pos (by decide);have hmod:N % 2 ^ (7*i)<2 ^ (7*i):=ZaU _ hp0;have hor:=ZqD (n:=((N % 2 ^ (7*i):Nat):Int)) (x:=((u % 128:Nat):Int)) (i:=i) (by omega) (by exact_mod_cast hmod) (by omega) (by omega) (by omega);have hdm:=Zcl N (2 ^ (7*i));rw [<-hu] at hdm;have e1:((N % 2 ^ (7*i):Nat):Int)+((u % 128:Nat):Int)*2 ^ (7*i)=((N % 2 ^ (7*i)+2 ^ (7*i)*(u % 128):Nat):Int):=by push_cast;rw [Int.mul_comm]
  rw [e1] at hor;by_cases hge:128<=u
  ·cases f with
   | zero =>
    have:2 ^ 63<=2 ^ (7*i)*u:=by
     obtain rfl:i=8:=by omega
     omega
    omega
   | succ f =>
    have hs1:sevN (f+1) u=(((u % 128:Nat):Int)+128)::sevN f (u / 128):=by
     conv=>lhs;unfold sevN
     rw [Zb hge]
    have hx:b[at'+i]?=some (((u % 128:Nat):Int)+128):=by
     have:=congrArg (fun l=>l[0]?) hd;simpa [hs1] using this
    have y1:w.cell? ⟨g,o+(at'+i),none⟩=some (int .u8 (((u % 128:Nat):Int)+128)):=HC.o (at'+i) _ (by rw [ZaN,hx];rfl);have ha:=Zj7 (((u % 128:Nat):Int)+128) (by omega) (by omega);have ha2:(((u % 128:Nat):Int)+128) % 128=((u % 128:Nat):Int):=by omega
    rw [ha2] at ha;have dg:decide ((128:Int)<=((u % 128:Nat):Int)+128)=true:=by rw [Ze];omega
    rw [show N % 2 ^ (7*i)+2 ^ (7*i)*(u % 128)=N % 2 ^ (7*(i+1)) by
     rw [show 7*(i+1)=7*i+7 by omega,ZeC,Nat.mod_mul,<-hu]] at hor
    push_cast at hor ha
    have HOR:=Zh hor;have HA:=Zh ha;have hw5:IntKind.u64.wrap ((u:Int) % 128)=(u:Int) % 128:=by rw [IntKind.wrap_u64];omega
    have HW5:=Zh hw5
    have HD:=Zh (show b.drop (at'+(i+1))=sevN f (u / 128)++rest by
     rw [<-Zb3,<-List.drop_drop,hd,hs1]
     rfl)
    have HU:=Zh (show u / 128=N / 2 ^ (7*(i+1)) by
     rw [show 7*(i+1)=7*i+7 by omega,ZeC,<-Nat.div_div_eq_div_mul,<-hu])
    have HL:=Zh (show (varB (N:Int)).length=(i+1)+(sevN f (u / 128)).length by rw [hl,hs1,Zat];omega);have hq:0<u / 128:=by omega
    clear hs1 hx hd hl hlen hl1 hdm hmod hu e1 hpos hp0 ha2 hor ha hw5;go_wp2;go_round;case rel=>exact ⟨i+1,f,u / 128,by go_num,by omega,by rw [HA.o,HW5.o,HOR.o],HU.o,HD.o,HL.o,fun _=>hq⟩
    case measure=>simp [intOf]<;>omega
  ·have hs1:sevN f u=[(u:Int)]:=by
    cases f with
    | zero=>rfl
    | succ f=>unfold sevN;rw [Za hge]
   have hx:b[at'+i]?=some (u:Int):=by
    have:=congrArg (fun l=>l[0]?) hd;simpa [hs1] using this
   have hu128:u % 128=u:=by omega
   rw [hu128] at hor;have y1:w.cell? ⟨g,o+(at'+i),none⟩=some (int .u8 (u:Int)):=HC.o (at'+i) _ (by rw [ZaN,hx];rfl);have ha:=Zj7 (u:Int) (by omega) (by omega);have ha2:(u:Int) % 128=(u:Int):=by omega
   rw [ha2] at ha;have dg:decide ((128:Int)<=(u:Int))=false:=by rw [Zk];omega
   have e2:N % 2 ^ (7*i)+2 ^ (7*i)*u=N:=by omega
   rw [e2] at hor
   push_cast at hor
   have hl2:(varB (N:Int)).length=i+1:=by rw [hl,hs1];rfl
   have HL:=Zh hl2;have hw1:IntKind.i64.wrap (N:Int)=N:=by rw [Z2];omega
   clear hs1 hx hd hl hlen hl1 hdm hmod hu e1 hp0 ha2 hl2 hbl2 hvl hu128;by_cases h0:u=0
   ·subst h0;obtain rfl:i=0:=by
     rcases Zbf i with h|h
     ·exact h
     ·exact absurd (hpos h) (by omega)
    obtain rfl:N=0:=by
     rw [<-e2];simp [Nat.mod_one]
    have y2:w.cell? ⟨g,o+at',none⟩=some (int .u8 0):=by simpa using y1
    have hor0:bits .or u64 0 0=0:=by decide
    have hand0:bits .and .u8 0 127=0:=by decide
    clear y1 e2 hpos hor ha hif dg hge hw1;go_wp2;refine ZaK (v:=.tuple #[int i64 0,int i64 (at'+(0+1):Nat),.bool true]) (by simp [results,results155,go_sem,Int.add_assoc]) rfl ?_;exact ⟨rfl,rfl⟩
   ·clear e2;have hq0:(((u:Int))==0)=false:=by simpa using h0
    go_wp2;refine ZaK (v:=.tuple #[int i64 N,int i64 (at'+(i+1):Nat),.bool true]) (by simp [results,results155,go_sem,Int.add_assoc]) rfl ?_;rw [HL.o];exact ⟨rfl,rfl⟩
end
theorem Zjk (n:Int) (k:Nat):∀ x ∈ putB n k,isByte x:=fun x hx=>by
 obtain ⟨i,_,rfl⟩:=ZH.1 hx;unfold isByte;omega
def strB (s:ByteArray):List Int:=s.data.toList.map fun c=>(c.toNat:Int)
theorem Zds (s:ByteArray):(strB s).length=s.size:=by unfold strB;rw [ZE,ZdC];rfl
theorem Znv (s:ByteArray):∀ x ∈ strB s,isByte x:=by
 intro x hx;obtain ⟨c,_,rfl⟩:=ZH.1 hx;have:=c.toNat_lt;unfold isByte;omega
def goneI (b:Bool):Int:=if b=true then 1 else 0
def textB (s:ByteArray):List Int:=varB s.size++strB s
def mkB (m:Mk):List Int:=varB m.id++(varB m.size++(varB (goneI m.gone)++textB m.name))
def Hd.nums (h:Hd):List Int:=[h.size,h.l.order,h.l.unit,h.l.count,h.next,h.seq,h.marks.length]
def hdP1 (h:Hd) (k:Nat):List Int:=(h.nums.take k).flatMap varB
def hdP2 (h:Hd) (k:Nat):List Int:=hdP1 h 7++(h.marks.take k).flatMap mkB
def hdR (h:Hd):List Int:=hdP2 h h.marks.length
def recH (h:Hd):List Int:=hdR h++putB (crcOf (hdR h)) 4
def ZcO (m:Mk):Prop:=(holdN m.name=true∧m.gone=false∧2<=m.name.size∧m.name.size<=13∧nameB (m.name.extract 1 m.name.size)=true)∨(holdN m.name=false∧nameB m.name=true)
structure Hd.Ok (h:Hd):Prop where
 size:h.size<=512
 shape:h.l.ok
 next:1<=h.next∧h.next<=1073741824
 seq:0<=h.seq∧h.seq<=1099511627776
 ids:∀ m ∈ h.marks,1<=m.id∧m.id<h.next
 inc:Inc (h.marks.map (·.id))
 sizes:∀ m ∈ h.marks,m.size<=512
 names:∀ m ∈ h.marks,ZcO m
 one:(h.marks.filter fun m=>holdN m.name).length<=1
 few:h.seen.length<=8
 many:h.marks.length<=17
 diff:(h.seen.map (·.name)).Nodup
theorem Mk.named_size {m:Mk} (h:ZcO m):1<=m.name.size∧m.name.size<=13:=by
 rcases h with ⟨_,_,h1,h2,_⟩|⟨_,h⟩
 ·omega
 ·unfold nameB at h;rw [Ze] at h;omega
theorem Hd.nums_ok {h:Hd} (H:h.Ok):∀ x ∈ h.nums,0<=x∧x<=1099511627776:=by
 have h1:=H.size;have h2:=H.next;have h3:=H.seq;have h4:=H.many;have h5:=H.shape.o2;have h6:=H.shape.u2;have h7:=H.shape.c2;intro x hx;simp only [Hd.nums,ZO,ZdE,ZcQ] at hx;rcases hx with rfl|rfl|rfl|rfl|rfl|rfl|rfl <;> omega
theorem ZhI (b:Bool):0<=goneI b∧goneI b<=1:=by unfold goneI;split <;> omega
theorem Zjl:∀ (f u k:Nat),u<2 ^ (7*k+7)->(sevN f u).length<=k+1
 | 0,u,k,_=>by simp [sevN]
 | f+1,u,k,h=>by
  unfold sevN;split
  ·cases k with
   | zero=>simp at h;omega
   | succ k =>
    rw [show 7*(k+1)+7=(7*k+7)+7 by omega,ZeC] at h;have:=Zjl f (u / 128) k (by omega);rw [Zat];omega
  ·simp
theorem ZfK {n:Int} (k:Nat) (h:n.toNat<2 ^ (7*k+7)):(varB n).length<=k+1:=Zjl 8 _ k h
theorem ZqE {m:Mk} (h:ZcO m) (h1:m.id<=1073741824) (h2:m.size<=512):(mkB m).length<=22:=by
 have h3:=Mk.named_size h;have h4:=ZhI m.gone;have a:=ZfK (n:=m.id) 4 (by simp;omega);have b:=ZfK (n:=m.size) 1 (by simp;omega);have c:=ZfK (n:=goneI m.gone) 0 (by simp;omega);have d:=ZfK (n:=m.name.size) 0 (by simp;omega);unfold mkB textB;simp only [ZA,Zds];omega
theorem ZoQ {l:List Mk} (h:∀ m ∈ l,ZcO m∧m.id<=1073741824∧m.size<=512):(l.flatMap mkB).length<=22*l.length:=by
 induction l with
 | nil=>simp
 | cons a l ih =>
  obtain ⟨a1,a2,a3⟩:=h a (Z0 ..);have:=ZqE a1 a2 a3;have:=ih fun m hm=>h m (Z8 _ hm);rw [ZaJ,ZA,Zat];omega
theorem ZkQ (l:List Int):l.length<=(l.flatMap varB).length∧(l.flatMap varB).length<=9*l.length:=by
 induction l with
 | nil=>simp
 | cons a l ih =>
  have:=Zcd a;rw [ZaJ,ZA,Zat];omega
theorem ZkR (h:Hd) (k:Nat):(hdP1 h k).length<=63:=by
 have:=(ZkQ (h.nums.take k)).2;have e:(h.nums.take k).length<=7:=by rw [ZN];show min k 7<=7;omega
 unfold hdP1;omega
theorem ZkS {h:Hd} (H:h.Ok) (k:Nat):(hdP2 h k).length<=437:=by
 have h1:=ZkR h 7;have h2:=ZoQ (l:=h.marks.take k) fun m hm=>by
  have hm:=Zd3 hm;have:=H.ids m hm;have:=H.next;exact ⟨H.names m hm,by omega,H.sizes m hm⟩
 have h3:=H.many;have e:(h.marks.take k).length<=17:=by rw [ZN];omega
 unfold hdP2;rw [ZA];omega
theorem Ze2 {n:Int} (h:n<=1099511627776):∀ x ∈ varB n,isByte x:=Znu (by omega)
theorem Zg6 {h:Hd} (H:h.Ok) (k:Nat):∀ x ∈ hdP2 h k,isByte x:=by
 intro x hx;rcases ZY.1 hx with hx|hx
 ·obtain ⟨n,hn,hx⟩:=Zcz.1 hx;exact Ze2 (Hd.nums_ok H n (Zd3 hn)).2 x hx
 ·obtain ⟨m,hm,hx⟩:=Zcz.1 hx;have hm:=Zd3 hm;have h1:=H.ids m hm;have h2:=H.sizes m hm;have h3:=H.next;have h4:=Mk.named_size (H.names m hm);have h5:=ZhI m.gone;simp only [mkB,textB,ZY] at hx;rcases hx with hx|hx|hx|hx|hx
  ·exact Ze2 (by omega) x hx
  ·exact Ze2 (by omega) x hx
  ·exact Ze2 (by omega) x hx
  ·exact Ze2 (by omega) x hx
  ·exact Znv _ x hx
theorem Zel {h:Hd} (H:h.Ok):(recH h).length=(hdR h).length+4∧7<=(hdR h).length∧(hdR h).length<=437:=by
 have h1:=ZkS H h.marks.length;have h2:=(ZkQ (h.nums.take 7)).1;have e:(h.nums.take 7).length=7:=rfl;unfold recH hdR;rw [ZA,Zfy];refine ⟨rfl,?_,h1⟩;unfold hdP2 hdP1;rw [ZA];omega
theorem Znw {h:Hd} (H:h.Ok):∀ x ∈ recH h,isByte x:=by
 intro x hx;rcases ZY.1 hx with hx|hx
 ·exact Zg6 H _ x hx
 ·exact Zjk _ _ x hx
theorem Zj9 (h:Hd) {k:Nat} {n:Int} (hn:h.nums[k]?=some n):hdP1 h (k+1)=hdP1 h k++varB n:=by
 obtain ⟨hk,he⟩:=ZS.1 hn;unfold hdP1;rw [ZbG hk,ZcX,he];simp
theorem Zka (h:Hd) {k:Nat} {m:Mk} (hm:h.marks[k]?=some m):hdP2 h (k+1)=hdP2 h k++mkB m:=by
 obtain ⟨hk,he⟩:=ZS.1 hm;unfold hdP2;rw [ZbG hk,ZcX,he,<-Zam];simp
theorem ZpX (h:Hd) {k:Nat} {n:Int} (hn:h.nums[k]?=some n):∃ rest,(hdR h).drop (hdP1 h k).length=varB n++rest:=by
 obtain ⟨hk,he⟩:=ZS.1 hn;have e2:h.nums=h.nums.take k++n::h.nums.drop (k+1):=by rw [<-he,<-ZdI hk,ZdH]
 have e1:hdP1 h 7=hdP1 h k++(varB n++(h.nums.drop (k+1)).flatMap varB):=by
  unfold hdP1;rw [show h.nums.take 7=h.nums from rfl];conv=>lhs;rw [e2]
  rw [ZcX,ZaJ]
 unfold hdR hdP2;rw [e1,Zam,Zam,Zgx];exact ⟨_,rfl⟩
theorem ZpY (h:Hd) {k:Nat} {m:Mk} (hm:h.marks[k]?=some m):∃ rest,(hdR h).drop (hdP2 h k).length=mkB m++rest:=by
 obtain ⟨hk,he⟩:=ZS.1 hm;have e2:h.marks=h.marks.take k++m::h.marks.drop (k+1):=by rw [<-he,<-ZdI hk,ZdH]
 have e1:hdR h=hdP2 h k++(mkB m++(h.marks.drop (k+1)).flatMap mkB):=by
  unfold hdR hdP2;rw [Zbk];conv=>lhs;rw [e2]
  rw [ZcX,ZaJ,Zam]
 rw [e1,Zgx];exact ⟨_,rfl⟩
section
theorem Zgl {b:Nat} {c0:Value} {t:TypeId} {f:Nat × Nat} (h:St W I w (pt b (cells #[c0] t f)::l)):w.cell? ⟨b,0,none⟩=some c0:=by
 have y:=Zc h.heap;have y0:=y 0;simp at y0;exact y0
theorem Zq {b:Nat} {c0 c1:Value} {t:TypeId} {f:Nat × Nat} (h:St W I w (pt b (cells #[c0,c1] t f)::l)):w.cell? ⟨b,0,none⟩=some c0∧w.cell? ⟨b,1,none⟩=some c1:=by
 have y:=Zc h.heap;have y0:=y 0;have y1:=y 1;simp at y0 y1;exact ⟨y0,y1⟩
theorem Zbw {b:Nat} {c0 c1 c2:Value} {t:TypeId} {f:Nat × Nat} (h:St W I w (pt b (cells #[c0,c1,c2] t f)::l)):w.cell? ⟨b,0,none⟩=some c0∧w.cell? ⟨b,1,none⟩=some c1∧w.cell? ⟨b,2,none⟩=some c2:=by
 have y:=Zc h.heap;have y0:=y 0;have y1:=y 1;have y2:=y 2;simp at y0 y1 y2;exact ⟨y0,y1,y2⟩
theorem ZX {b:Nat} {c0 c1 c2 c3:Value} {t:TypeId} {f:Nat × Nat} (h:St W I w (pt b (cells #[c0,c1,c2,c3] t f)::l)):w.cell? ⟨b,0,none⟩=some c0∧w.cell? ⟨b,1,none⟩=some c1∧w.cell? ⟨b,2,none⟩=some c2∧w.cell? ⟨b,3,none⟩=some c3:=by
 have y:=Zc h.heap;have y0:=y 0;have y1:=y 1;have y2:=y 2;have y3:=y 3;simp at y0 y1 y2 y3;exact ⟨y0,y1,y2,y3⟩
theorem Zf {b:Nat} {c0 c1 c2 c3 c4:Value} {t:TypeId} {f:Nat × Nat} (h:St W I w (pt b (cells #[c0,c1,c2,c3,c4] t f)::l)):w.cell? ⟨b,0,none⟩=some c0∧w.cell? ⟨b,1,none⟩=some c1∧w.cell? ⟨b,2,none⟩=some c2∧w.cell? ⟨b,3,none⟩=some c3∧w.cell? ⟨b,4,none⟩=some c4:=by
 have y:=Zc h.heap;have y0:=y 0;have y1:=y 1;have y2:=y 2;have y3:=y 3;have y4:=y 4;simp at y0 y1 y2 y3 y4;exact ⟨y0,y1,y2,y3,y4⟩
theorem ZW {b:Nat} {c0 c1 c2 c3 c4 c5 c6:Value} {t:TypeId} {f:Nat × Nat} (h:St W I w (pt b (cells #[c0,c1,c2,c3,c4,c5,c6] t f)::l)):w.cell? ⟨b,0,none⟩=some c0∧w.cell? ⟨b,1,none⟩=some c1∧w.cell? ⟨b,2,none⟩=some c2∧w.cell? ⟨b,3,none⟩=some c3∧w.cell? ⟨b,4,none⟩=some c4∧w.cell? ⟨b,5,none⟩=some c5∧w.cell? ⟨b,6,none⟩=some c6:=by
 have y:=Zc h.heap;have y0:=y 0;have y1:=y 1;have y2:=y 2;have y3:=y 3;have y4:=y 4;have y5:=y 5;have y6:=y 6;simp at y0 y1 y2 y3 y4 y5 y6;exact ⟨y0,y1,y2,y3,y4,y5,y6⟩
theorem St.set2 {b:Nat} {c0 c1:Value} {t:TypeId} {f:Nat × Nat} (h:St W I w (pt b (cells #[c0,c1] t f)::l)) (v0 v1:Value):St W I ((w.setCell ⟨b,0,none⟩ v0).setCell ⟨b,1,none⟩ v1) (pt b (cells #[v0,v1] t f)::l):=by
 have h7:=((h.setCell 0 v0).setCell 1 v1);simp only [Zo,Zl,Zm] at h7;exact h7
theorem St.set3 {b:Nat} {c0 c1 c2:Value} {t:TypeId} {f:Nat × Nat} (h:St W I w (pt b (cells #[c0,c1,c2] t f)::l)) (v0 v1 v2:Value):St W I (((w.setCell ⟨b,0,none⟩ v0).setCell ⟨b,1,none⟩ v1).setCell ⟨b,2,none⟩ v2) (pt b (cells #[v0,v1,v2] t f)::l):=by
 have h7:=(((h.setCell 0 v0).setCell 1 v1).setCell 2 v2);simp only [Zo,Zl,Zm] at h7;exact h7
theorem St.set4 {b:Nat} {c0 c1 c2 c3:Value} {t:TypeId} {f:Nat × Nat} (h:St W I w (pt b (cells #[c0,c1,c2,c3] t f)::l)) (v0 v1 v2 v3:Value):St W I ((((w.setCell ⟨b,0,none⟩ v0).setCell ⟨b,1,none⟩ v1).setCell ⟨b,2,none⟩ v2).setCell ⟨b,3,none⟩ v3) (pt b (cells #[v0,v1,v2,v3] t f)::l):=by
 have h7:=((((h.setCell 0 v0).setCell 1 v1).setCell 2 v2).setCell 3 v3);simp only [Zo,Zl,Zm] at h7;exact h7
theorem St.set7 {b:Nat} {c0 c1 c2 c3 c4 c5 c6:Value} {t:TypeId} {f:Nat × Nat} (h:St W I w (pt b (cells #[c0,c1,c2,c3,c4,c5,c6] t f)::l)) (v0 v1 v2 v3 v4 v5 v6:Value):St W I (((((((w.setCell ⟨b,0,none⟩ v0).setCell ⟨b,1,none⟩ v1).setCell ⟨b,2,none⟩ v2).setCell ⟨b,3,none⟩ v3).setCell ⟨b,4,none⟩ v4).setCell ⟨b,5,none⟩ v5).setCell ⟨b,6,none⟩ v6) (pt b (cells #[v0,v1,v2,v3,v4,v5,v6] t f)::l):=by
 have h7:=(((((((h.setCell 0 v0).setCell 1 v1).setCell 2 v2).setCell 3 v3).setCell 4 v4).setCell 5 v5).setCell 6 v6);simp only [Zo,Zl,Zm] at h7;exact h7
end
theorem ZkT {α:Type} {mk:α->List Value} {k:Nat} (hk:∀ a,(mk a).length=k):∀ (l:List α) (i j:Nat) (a a':α) (v:Value),l[i]?=some a->j<k->mk a'=(mk a).set j v->(l.flatMap mk).set (i*k+j) v=(l.set i a').flatMap mk
 | [],i,j,a,a',v,h,_,_=>by simp at h
 | b::l,0,j,a,a',v,h,hj,e=>by
  simp only [Zg,Zah] at h;subst h;rw [ZaJ,Zb0,Zar,List.set_append_left _ _ (by rw [hk];exact hj),Zl,ZaJ,e]
 | b::l,i+1,j,a,a',v,h,hj,e=>by
  rw [ZaJ,List.set_append_right _ _ (by rw [hk,Zbj];omega),hk,show (i+1)*k+j - k=i*k+j by rw [Zbj];omega,Zm,ZaJ,ZkT hk l i j a a' v (by simpa using h) hj e]
section
theorem St.row_set {α:Type} {mk:α->List Value} {k g c:Nat} {e:TypeId} {zs:List α} (h:St W I w (HP.row e k (slice (some ⟨g,0,none⟩) zs.length c) zs.length (zs.flatMap mk)::l)) (hk:∀ a,(mk a).length=k) {i j:Nat} {a a':α} {v:Value} (ha:zs[i]?=some a) (hj:j<k) (he:mk a'=(mk a).set j v) :
  St W I (w.setCell ⟨g,i*k+j,none⟩ v) (HP.row e k (slice (some ⟨g,0,none⟩) zs.length c) zs.length ((zs.set i a').flatMap mk)::l)∧(∀ x,w.frozen? ⟨g,x,none⟩=false)∧g<w.heap.size:=by
 have hil:=(ZS.1 ha).1;obtain ⟨hl,p⟩:=h.row_open;rcases p with ⟨_,e2,_⟩|⟨g',cap,cur,e1,p3,p4,p5,p6,s⟩
 ·omega
 ·simp only [ZF,Zah,Addr.mk.injEq,ZK,Zae] at e1;obtain ⟨rfl,rfl⟩:=e1;refine ⟨(s.setCell (i*k+j) v).row_shut (by rw [ZeY hk,Zde]) p3 p4 (by simpa using p5) ?_,frozen_of_row s.heap,s.lt⟩;rw [<-ZkT hk zs i j a a' v ha hj he,<-p6,<-List.take_set];simp
theorem St.row_elem {α:Type} {mk:α->List Value} {k:Nat} {e:TypeId} {v:Value} {zs:List α} (h:St W I w (HP.row e k v zs.length (zs.flatMap mk)::l)) (hk:∀ a,(mk a).length=k) {i:Nat} {a:α} (ha:zs[i]?=some a) :
  ∃ g c,v=slice (some ⟨g,0,none⟩) zs.length c∧zs.length<=c∧g<w.heap.size∧∀ j,j<k->w.cell? ⟨g,i*k+j,none⟩=(mk a)[j]?:=by
 have hil:=(ZS.1 ha).1;obtain ⟨hl,p⟩:=h.row_open;rcases p with ⟨_,e2,_⟩|⟨g,cap,cur,rfl,p3,p4,p5,p6,s⟩
 ·omega
 ·refine ⟨g,cap,rfl,p3,s.lt,fun j hj=>?_⟩;rw [Zc s.heap];have h7:=ZeX hk zs i j a ha hj;rw [<-h7,<-p6,Zci,Zb,<-Zh5]
  calc i*k+j<i*k+k:=by omega
   _=(i+1)*k:=by rw [Zbj,Zd8]
   _<=zs.length*k:=Zcj _ hil
theorem St.row_slice {α:Type} {mk:α->List Value} {k:Nat} {e:TypeId} {v:Value} {zs:List α} (h:St W I w (HP.row e k v zs.length (zs.flatMap mk)::l)):∃ A c,v=slice A zs.length c∧zs.length<=c:=by
 obtain ⟨_,p⟩:=h.row_open;rcases p with ⟨rfl,e2,_⟩|⟨g,cap,cur,rfl,p3,_⟩
 ·exact ⟨none,0,by rw [e2],by omega⟩
 ·exact ⟨_,cap,rfl,p3⟩
end
theorem St.row_push {P:Program} {W w:World} {I:Hp} {l:List HP} {e sl ty:TypeId} {k b:Nat} {zv:Value} (hu:P.underlying sl=some (.slice e)) (hi:(P.info? e).map (fun i=>(i.zero,i.size,i.bytes))=some (some zv,k,b)) (hzv:zv.cells.size=k) (hk:0<k) (hb:b<=200)
  {α:Type} {mk:α->List Value} (hmk:∀ a,(mk a).length=k) {A:Option Addr} {c:Nat} {zs:List α} (h:St W I w (HP.row e k (slice A zs.length c) zs.length (zs.flatMap mk)::l)) (z:α) (hone:∀ u ∈ mk z,u.oneCell'=true) (hn:zs.length<=1000000) (cs:Array Value) (hcs:cs.toList=mk z) :
  ∃ A' c' w',(Builtin.append_ #[sl,sl] ty #[slice A zs.length c,slice (some ⟨w.heap.size,0,none⟩) 1 1]).run P (w.alloc (cells cs e))=.ok (slice A' (zs++[z]).length c') w' ∧
   St W I w' (HP.row e k (slice A' (zs++[z]).length c') (zs++[z]).length ((zs++[z]).flatMap mk)::l):=by
 have h1:=h.keep (ZM w (cells cs e));obtain ⟨i0,hi0,hz0,hz1,hz2⟩:=info_parts hi
 have hsrc:SrcAt (w.alloc (cells cs e)) k (some ⟨w.heap.size,0,none⟩) 1 (mk z):=⟨by rw [hmk,Zd8],fun _=>⟨_,rfl,fun j u hu=>by
  rw [add_plain,Zar,Zc (Zbh _ _) j,<-hu,<-hcs]
  simp⟩,hone⟩
 have hlb:(zs.length+1)*b<=140737488355328:=ZQ (ZeF (show zs.length+1<=1000001 by omega) hb) (by decide);obtain ⟨v',w',hr,ho',hgr,hv'⟩:=Zdf (P:=P) (w:=w.alloc (cells cs e)) 0 sl ty e i0 zv k b hu hi0 hz0 hz1 hz2 hzv hk (slice A zs.length c) zs.length _ h1.row_owns (some ⟨w.heap.size,0,none⟩) 1 1 (mk z) hsrc (by intro h;cases h) (by unfold maxLen;omega) hlb (ZaY _);obtain ⟨A',c',rfl⟩:=ZD ho';refine ⟨A',c',w',?_,?_⟩
 ·rw [hr];simp
 ·have:=h1.row_grown ho' hgr hv';rw [ZcX,ZA];simpa using this
theorem Zco {α:Type} {mk:α->List Value} {k n:Nat} {w:World} {v:Value} {zs:List α} (h:SliceSrc w k v n (zs.flatMap mk)) (hk:∀ a,(mk a).length=k) (h0:0<k) {i:Nat} {a:α} (ha:zs[i]?=some a):∃ g off c,v=slice (some ⟨g,off,none⟩) n c∧g<w.heap.size∧∀ j,j<k->w.cell? ⟨g,off+i*k+j,none⟩=(mk a)[j]?:=by
 obtain ⟨A,c,rfl,hs,_⟩:=h;have hil:=(ZS.1 ha).1;have hl:=hs.len;rw [ZeY hk] at hl;have hn:0<n:=by
  rcases Zbf n with e|e
  ·subst e;rw [Zb0] at hl;rcases Nat.mul_eq_zero.1 hl with q|q <;> omega
  ·exact e
 obtain ⟨ad,rfl,hc⟩:=hs.cells hn;have g0:∀ j,j<k->w.cell? (ad.add (i*k+j))=(mk a)[j]?:=fun j hj=>by
  have h7:=ZeX hk zs i j a ha hj;obtain ⟨u,hu⟩:∃ u,(mk a)[j]?=some u:=⟨_,ZL (by rw [hk];exact hj)⟩;rw [hu];exact hc _ u (by rw [h7,hu])
 obtain ⟨b,off,spot⟩:=ad;have hz:0<(zs.flatMap mk).length:=by rw [hs.len];exact Nat.mul_pos hn h0
 have h1:=hc 0 _ (ZL hz);have hspot:spot=none:=by simpa [Addr.add] using World.cell?_spot h1
 subst hspot;rw [add_plain] at h1;refine ⟨b,off,c,rfl,Zh8 w _ h1,fun j hj=>?_⟩;have:=g0 j hj;rw [add_plain] at this;rw [Zb3];exact this
section
theorem ZhJ {s:ByteArray} (h:¬ (1<=s.size∧s.size<=12)):nameB s=false:=by
 unfold nameB;rw [Zk];exact fun q=>h ⟨q.1,q.2.1⟩
theorem ZkU {s:ByteArray} {i:Nat} (hi:i<s.size) (h:nameC (bt s i)=false):nameB s=false:=by
 unfold nameB;rw [Zk];intro q;rw [q.2.2 i hi] at h;cases h
theorem Zkb {s:ByteArray} (h1:1<=s.size∧s.size<=12) (h:∀ k,k<s.size->nameC (bt s k)=true):nameB s=true:=by
 unfold nameB;rw [Ze];exact ⟨h1.1,h1.2,h⟩
theorem ZkV {x:Int} {b:Bool} (h:b=true↔(97<=x∧x<=122∨48<=x∧x<=57∨x=45)):nameC x=b:=by
 rw [Zai,h,nameC,Ze]
theorem ZeP (s:ByteArray) (w:World):Calls prog 85 #[.string s] w fun e w'=>e=.returned (.bool (nameB s))∧w=w':=by
 have hb:=Zgk s;by_cases hs:1<=s.size∧s.size<=12
 ·have d1:decide ((s.size:Int)<1)=false:=by rw [Zk];omega
  have d2:decide (12<(s.size:Int))=false:=by rw [Zk];omega
  go_enter func85,ntmps85;go_wp2;go_loopw [3,4,15] (fun a3 a4 a15 wr=>∃ i:Nat,a15=int i64 i∧i<=s.size∧(∀ k,k<i->nameC (bt s k)=true)∧wr=w) (fun _ _ a15 _=>s.size - (intOf a15).toNat);case atStart=>exact ⟨0,rfl,by omega,fun k hk=>by omega,rfl⟩
  case round =>
   obtain ⟨i,rfl,hi,hall,rfl⟩:=hrel;by_cases hlt:i<s.size
   ·have d0:decide ((i:Int)<(s.size:Int))=true:=by rw [Ze];omega
    have hr:=ZkI s i;obtain ⟨x,hx⟩:∃ x,bt s i=x:=⟨_,rfl⟩;have hbi:=hb i hlt;rw [hx] at hbi hr;have HX:=Zh hx;have HALL:=Zh hall;clear hb hall hx;by_cases c1:x<97 <;> by_cases c2:122<x <;> by_cases c3:x<48 <;> by_cases c4:57<x <;> by_cases c5:x=45 <;> first|(exfalso;omega)|skip
    all_goals
     go_wp2_with fail;first
     |(go_ret;rw [ZkU hlt (by rw [HX.o];exact ZkV (by simp only [ZaS,false_iff];omega))];exact ⟨rfl,rfl⟩)
     |(go_roundw;case rel=>exact ⟨i+1,by go_num,by omega,fun k hk=>(by rcases (show k<i∨k=i by omega) with h|rfl;exact HALL.o k h;rw [HX.o];exact ZkV (by simp only [true_iff];omega)),trivial⟩
       case measure=>simp [intOf]<;>omega)
     | fail
   ·obtain rfl:i=s.size:=by omega
    go_wp2;go_ret;rw [Zkb hs hall];exact ⟨rfl,rfl⟩
 ·rw [ZhJ hs];go_enter func85,ntmps85;by_cases d1:(s.size:Int)<1
  ·go_wp2;go_ret;exact ⟨rfl,rfl⟩
  ·have d2:12<(s.size:Int):=by omega
   go_wp2;go_ret;exact ⟨rfl,rfl⟩
end
end Go.Proofs.YtcbdghojlbpomaaGreat
