import Derived.Test.YtcbdghojlbpomaaGreatIF15
import Derived.Lib.Bytes
set_option linter.all false
set_option maxRecDepth 4000
set_option maxHeartbeats 8000000
open Go.RowKit
open Go.IntKind (i64 u64)
open Go.Value (int pointer slice)
open Go.Obj (cells)
namespace Go.Proofs.YtcbdghojlbpomaaGreat
open Tryz
open HP (pt mapOf)
variable {W w w':World} {I:Hp} {l:List HP}
def Zff (o u c:Int):Bool:=decide (3<=o∧o<=6∧2<=u∧u<=o∧1<=c∧c<=4)
theorem ZoR {o u c:Int} {b:Bool} (h:b=true↔(3<=o∧o<=6∧2<=u∧u<=o∧1<=c∧c<=4)):b=Zff o u c:=by
 rw [Zai,h,Zff,Ze]
theorem retB {a b:Bool} (h:a=b):Ending.returned (.bool a)=Ending.returned (.bool b):=by rw [h]
def Ly.val (l:Ly):Value:=.agg #[int i64 l.order,int i64 l.unit,int i64 l.count]
theorem ZdS {l:Ly} (h:l.ok):Zff l.order l.unit l.count=true:=by
 have h1:=h.o1;have h2:=h.o2;have h3:=h.u1;have h4:=h.u2;have h5:=h.c1;have h6:=h.c2;unfold Zff;rw [Ze];omega
theorem pow64 {u:Nat} (h:u<=6):2<=2 ^ (u+1)∧2 ^ u<=64∧1<=2 ^ u:=by
 rcases (show u=0∨u=1∨u=2∨u=3∨u=4∨u=5∨u=6 by omega) with rfl|rfl|rfl|rfl|rfl|rfl|rfl <;> decide
theorem Zbu {n:Nat} (h:n<9223372036854775808):wrap64 (n:Int)=n:=by unfold wrap64;omega
theorem Zf8 (x:Nat) {u:Nat} (h:u<=6) (hx:x<9223372036854775808):bits .and i64 (x:Int) (wrap64 (wrap64 (2 ^ u) - 1))=((x % 2 ^ u:Nat):Int):=by
 have h1:=pow64 h;have e1:wrap64 (wrap64 (2 ^ u) - 1)=((2 ^ u - 1:Nat):Int):=by
  have e0:(2:Int) ^ u=((2 ^ u:Nat):Int):=by push_cast;rfl
  rw [e0];unfold wrap64;omega
 rw [e1];show IntKind.i64.wrap ((BitVec.ofInt 64 (x:Int) &&& BitVec.ofInt 64 ((2 ^ u - 1:Nat):Int)).toNat:Nat)=_;rw [BitVec.toNat_and,Zif,Zif,Zig,Zig,Zgu (show x<2 ^ 64 by omega),Zgu (show 2 ^ u - 1<2 ^ 64 by omega),ZlA,Z2];have:=ZaU x (show 0<2 ^ u by omega);omega
theorem Zle (x u:Nat):(x:Int) / 2 ^ u=((x / 2 ^ u:Nat):Int):=by push_cast;rfl
section
theorem ZdQ (o u c:Int) (w:World):Calls prog 131 #[.agg #[int i64 o,int i64 u,int i64 c]] w fun e w'=>e=.returned (.bool (Zff o u c))∧Below w.heap.size w w':=by
 go_enter func131,ntmps131;go_wp2;all_goals
  go_ret;refine ⟨retB (ZoR ?_),ZM _ _⟩;simp only [Ze,ZaS,false_iff];omega
theorem Zjm (l:Ly) (hl:l.ok) (x:Nat) (hx:x<=1073741824) (w:World):Calls prog 165 #[l.val,int i64 x] w fun e w'=>e=.returned (.tuple #[int i64 (ZB l x).1,int i64 (ZB l x).2])∧Below w.heap.size w w':=by
 have hs:=ZdS hl;obtain ⟨o,u,c⟩:=l;have h1:=hl.o1;have h2:=hl.o2;have h3:=hl.u1;have h4:=hl.u2;have h5:=hl.c1;have h6:=hl.c2;simp only [Ly.val] at *;have hsp:=ZdQ (o:Int) u c;rw [hs] at hsp;have HS:=Zh hsp;have h0:=(St.init w).alloc (cells #[int i64 o,int i64 u,int i64 c] 30);have H0:=Zh h0;clear hsp hs hl h0;have d1:decide ((x:Int)<0)=false:=by rw [Zk];omega
 have d2:decide (1073741824<(x:Int))=false:=by rw [Zk];omega
 go_enter func165,ntmps165;go_wp2_with fail;refine (HS.o _).mono ?_;rintro e w2 ⟨rfl,hb2⟩;have h2:=H0.o.keep hb2;obtain ⟨x0,x1,x2⟩:=Zbw h2;have du:decide ((u:Int)<0)=false:=by rw [Zk];omega
 have dp:decide ((o:Int) - u<0)=false:=by rw [Zk];omega
 have dc:((c:Int)==0)=false:=by simp;omega
 go_wp2_with fail;go_quiet (fail);rw [Zle,Zf8 x (by omega) (by omega)];obtain ⟨U,hU⟩:∃ U,x / 2 ^ u=U:=⟨_,rfl⟩;obtain ⟨r,hr⟩:∃ r,x % 2 ^ u=r:=⟨_,rfl⟩;rw [hU,hr];have HU:=Zh hU;have HR:=Zh hr;clear hU hr;go_wp2_with fail;go_quiet (fail);have hUl:U<=1073741824:=by rw [<-HU.o];exact ZQ (Zfp ..) hx
 have hql:U / c<=1073741824:=ZQ (Zfp ..) hUl;have eq1:wrap64 ((U:Int) / (c:Int))=((U / c:Nat):Int):=by
  have e0:(U:Int) / (c:Int)=((U / c:Nat):Int):=by push_cast;rfl
  rw [e0,Zbu (by omega)]
 have ed:(o:Int) - (u:Int)=((o - u:Nat):Int):=by omega
 rw [eq1,ed];obtain ⟨q,hq⟩:∃ q,U / c=q:=⟨_,rfl⟩;obtain ⟨d,hd⟩:∃ d,o - u=d:=⟨_,rfl⟩;rw [hq] at hql |-;rw [hd];have HQ:=Zh hq;have HD:=Zh hd;have dd:decide ((d:Int)<0)=false:=by rw [Zk];omega
 have hdl:d<=6:=by omega
 clear hq hd eq1 ed dp;have hm:min d 64=d:=by omega
 go_wp2_with fail;go_quiet (fail);rw [Zf8 q (by omega) (by omega),Zle q d];go_wp2_with fail;have hd6:=pow64 (u:=d) (by omega);have hu6:=pow64 (u:=u) (by omega);have a1:q / 2 ^ d*c<=4294967296:=ZeF (ZQ (Zfp ..) hql) h6;have a2:q % 2 ^ d*2 ^ u<=4096:=ZeF (ZQ (Nat.le_of_lt (ZaU _ (by omega))) hd6.2.1) hu6.2.1;have a3:U % c<c:=ZaU _ (by omega);have a4:r<2 ^ u:=by rw [<-HR.o];exact ZaU _ (by omega)
 have b1:((q / 2 ^ d:Nat):Int)*(c:Int)=((q / 2 ^ d*c:Nat):Int):=by rw [Zih]
 have b2:((q % 2 ^ d:Nat):Int)*2 ^ u=((q % 2 ^ d*2 ^ u:Nat):Int):=by rw [Zih];simp
 have b3:(U:Int) % (c:Int)=((U % c:Nat):Int):=by rw [Zii]
 rw [b1,b2,b3,Zbu (n:=q / 2 ^ d*c) (by omega),Zbu (n:=q % 2 ^ d*2 ^ u) (by omega),<-ZeG,<-ZeG,Zbu (by omega),Zbu (by omega)];go_ret2;refine ⟨?_,(((h2.drewN _).drewN _).drewN _).below⟩;unfold ZB Ly.U Ly.P;simp only;rw [HU.o,HQ.o,HD.o,HR.o];rfl
theorem ZoS (l:Ly) (hl:l.ok) (b i:Nat) (hb:b<=1048576) (hi:i<2 ^ l.order) (w:World):Calls prog 172 #[l.val,int i64 b,int i64 i] w fun e w'=>e=.returned (int i64 (backN l b i))∧Below w.heap.size w w':=by
 obtain ⟨o,u,c⟩:=l;have h1:=hl.o1;have h2:=hl.o2;have h3:=hl.u1;have h4:=hl.u2;have h5:=hl.c1;have h6:=hl.c2;simp only [Ly.val] at *;have h0:=(St.init w).alloc (cells #[int i64 o,int i64 u,int i64 c] 30);obtain ⟨d,hd⟩:∃ d,o - u=d:=⟨_,rfl⟩;have ed:(o:Int) - (u:Int)=(d:Int):=by omega
 have dd:decide ((d:Int)<0)=false:=by rw [Zk];omega
 have du:decide ((u:Int)<0)=false:=by rw [Zk];omega
 have dc:((c:Int)==0)=false:=by simp;omega
 have hm:min d 64=d:=by omega
 have hi2:i<64:=by have:=pow64 (u:=o) (by omega);omega
 have HD:=Zh hd;have H0:=Zh h0;have hdl:d<=6:=by omega
 clear hl h0 hd hi;go_enter func172,ntmps172;go_wp2_with fail;go_quiet (fail);have hd6:=pow64 hdl;have hu6:=pow64 (u:=u) (by omega);obtain ⟨B,hB⟩:∃ B,b / c=B:=⟨_,rfl⟩;have hBl:B<=1048576:=by rw [<-hB];exact ZQ (Zfp ..) hb
 obtain ⟨iu,hiu⟩:∃ q,i / 2 ^ u=q:=⟨_,rfl⟩;have hiul:iu<=64:=by rw [<-hiu];exact ZQ (Zfp ..) (by omega)
 have a1:B*2 ^ d<=67108864:=ZeF hBl hd6.2.1;have e1:(b:Int) / (c:Int)=(B:Int):=by rw [<-hB];push_cast;rfl
 have e2:(B:Int)*2 ^ d=((B*2 ^ d:Nat):Int):=by push_cast;rfl
 have e3:(i:Int) / 2 ^ u=(iu:Int):=by rw [<-hiu];push_cast;rfl
 rw [e1,e3,Zbu (n:=B) (by omega),e2,Zbu (n:=B*2 ^ d) (by omega),<-ZeG,Zbu (by omega)];obtain ⟨r,hr⟩:∃ r,B*2 ^ d+iu=r:=⟨_,rfl⟩;rw [hr];have hrl:r<=67108928:=by omega
 have HB:=Zh hB;have HIU:=Zh hiu;have HRR:=Zh hr;clear hB hiu hr e1 e2 e3 a1;go_wp2_with fail;go_quiet (fail);have a2:r*c<=268435712:=ZeF hrl h6;have a3:b % c<c:=ZaU _ (by omega);have a4:(r*c+b % c)*2 ^ u<=268435716*64:=ZeF (by omega) hu6.2.1;have a5:=ZaU i (show 0<2 ^ u by omega);have e1:(r:Int)*(c:Int)=((r*c:Nat):Int):=by rw [Zih]
 have e2:(b:Int) % (c:Int)=((b % c:Nat):Int):=by rw [Zii]
 have e3:((r*c+b % c:Nat):Int)*2 ^ u=(((r*c+b % c)*2 ^ u:Nat):Int):=by rw [Zih];simp
 rw [Zf8 i (by omega) (by omega),e1,e2,Zbu (n:=r*c) (by omega),<-ZeG,Zbu (n:=r*c+b % c) (by omega),e3,Zbu (n:=(r*c+b % c)*2 ^ u) (by omega),<-ZeG,Zbu (by omega)];go_wp2;go_ret;refine ⟨?_,((H0.o.drewN _).drewN _).below⟩;unfold backN Ly.U Ly.P;simp only;rw [HD.o,HB.o,HIU.o,HRR.o];rfl
end
def Mk.vals (m:Mk):List Value:=[int i64 m.id,.string m.name,int i64 m.size,.bool m.gone]
def Hd.cells (h:Hd) (v:Value):Array Value:=#[int i64 h.size,int i64 h.l.order,int i64 h.l.unit,int i64 h.l.count,int i64 h.next,int i64 h.seq,v]
theorem Zb6 (ms:List Mk):∀ u ∈ ms.flatMap Mk.vals,u.oneCell'=true:=by
 intro u hu;obtain ⟨x,_,hu⟩:=Zcz.1 hu;simp only [Mk.vals,ZO,ZdE,ZcQ] at hu;rcases hu with rfl|rfl|rfl|rfl <;> rfl
theorem ZqF {s:ByteArray} (h:s.size=0):holdN s=false:=by unfold holdN bt;rw [dif_neg (by omega)];rfl
theorem Zh1 (a b:ByteArray):(a.toList==b.toList)=decide (a=b):=by rw [<-beq_toListBytes,Zi2]
theorem Zfd {a b:ByteArray} (h:a≠b):(a.toList==b.toList)=false:=by rw [Zh1];exact ZbH h
section
theorem Zg7 (id:Int) (s:ByteArray) (n:Int) (b:Bool) (w:World):Calls prog 213 #[.agg #[int i64 id,.string s,int i64 n,.bool b]] w fun e w'=>e=.returned (.bool (holdN s))∧Below w.heap.size w w':=by
 have hb:=Zgk s;rcases Zbf s.size with h0|h0
 ·rw [ZqF h0];go_enter func213,ntmps213;go_wp2;go_ret;exact ⟨rfl,ZM _ _⟩
 ·have hb0:=hb 0 h0;unfold holdN;obtain ⟨x,hx⟩:∃ x,bt s 0=x:=⟨_,rfl⟩;rw [hx] at hb0 |-;clear hb hx;by_cases h1:x=126
  ·subst h1;go_enter func213,ntmps213;go_wp2;go_ret;exact ⟨rfl,ZM _ _⟩
  ·have d1:(x==126)=false:=by simpa using h1
   rw [ZbH h1];go_enter func213,ntmps213;go_wp2;go_ret;exact ⟨rfl,ZM _ _⟩
theorem ZfL (id:Int) (s:ByteArray) (n:Int) (b:Bool) (w:World):Calls prog 160 #[.agg #[int i64 id,.string s,int i64 n,.bool b]] w fun e w'=>e=.returned (.bool (!b&&!holdN s))∧Below w.heap.size w w':=by
 have hh:=Zg7 id s n b;have HH:=Zh hh;clear hh;have hb0:=ZM w (cells #[int i64 id,.string s,int i64 n,.bool b] 66);cases b with
 | true =>
  go_enter func160,ntmps160;go_wp2;go_ret;exact ⟨rfl,hb0⟩
 | false =>
  go_enter func160,ntmps160;go_wp2_with fail;refine (HH.o _).mono ?_;rintro e w2 ⟨rfl,hb2⟩;have hb3:=hb0.trans (hb2.mono (by simp));go_wp2;go_ret;exact ⟨rfl,hb3⟩
theorem Znx (id:Int) (s:ByteArray) (n:Nat) (b:Bool) (hm:ZcO ⟨id,s,n,b⟩) (w:World):Calls prog 260 #[.agg #[int i64 id,.string s,int i64 n,.bool b]] w fun e w'=>e=.returned (.bool true)∧Below w.heap.size w w':=by
 have hh:=Zg7 id s n b;have h0:=(St.init w).alloc (cells #[int i64 id,.string s,int i64 n,.bool b] 66);have H0:=Zh h0;clear h0;simp only [ZcO] at hm;rcases hm with ⟨h1,rfl,h3,h4,h5⟩|⟨h1,h2⟩
 ·rw [h1] at hh;have hn:=ZeP (s.extract 1 s.size);rw [h5] at hn;have HH:=Zh hh;have HN:=Zh hn;have d1:(1:Int)<=(s.size:Int):=by omega
  clear hh hn h5 h1;go_enter func260,ntmps260;go_wp2_with fail;refine (HH.o _).mono ?_;rintro e w2 ⟨rfl,hb2⟩;have h6:=H0.o.keep hb2;obtain ⟨x0,x1,x2,x3⟩:=ZX h6;go_wp2_with fail;refine (HN.o _).mono ?_;rintro e w3 ⟨rfl,rfl⟩;go_wp2;go_ret;exact ⟨rfl,h6.below⟩
 ·rw [h1] at hh;have hn:=ZeP s;rw [h2] at hn;have HH:=Zh hh;have HN:=Zh hn;clear hh hn h1;go_enter func260,ntmps260;go_wp2_with fail;refine (HH.o _).mono ?_;rintro e w2 ⟨rfl,hb2⟩;have h6:=H0.o.keep hb2;obtain ⟨x0,x1,x2,x3⟩:=ZX h6;go_wp2_with fail;refine (HN.o _).mono ?_;rintro e w3 ⟨rfl,rfl⟩;go_wp2;go_ret;exact ⟨rfl,h6.below⟩
end
theorem Hd.Ok.differ {h:Hd} (H:h.Ok) {i j:Nat} {a b:Mk} (ha:h.marks[i]?=some a) (hb:h.marks[j]?=some b) (hji:j<i) (sa:a.seen=true) (sb:b.seen=true):b.name≠a.name:=by
 have h1:=H.diff;obtain ⟨hi,ea⟩:=ZS.1 ha;obtain ⟨hj,eb⟩:=ZS.1 hb;have e:h.marks=h.marks.take i++a::h.marks.drop (i+1):=by rw [<-ea,<-ZdI hi,ZdH]
 unfold Hd.seen at h1;rw [e,Zca,Z4,Zgo] at h1;have h2:=h1.2.2 b.name (Zbz (Z1.2 ⟨by rw [<-eb];exact List.mem_take_iff_getElem.2 ⟨j,by omega,rfl⟩,sb⟩)) a.name (Zbz (Z1.2 ⟨Z0 ..,sa⟩));exact h2
theorem Zin {α:Type} (p:α->Bool) (l:List α) (i:Nat):((l.take i).filter p).length<=(l.filter p).length:=((List.take_sublist i l).filter p).length_le
theorem Zil {α:Type} (p:α->Bool) {l:List α} {i:Nat} {a:α} (h:l[i]?=some a):((l.take (i+1)).filter p).length=((l.take i).filter p).length+(p a).toNat:=by
 obtain ⟨hi,e⟩:=ZS.1 h;rw [ZbG hi,Zca,ZA,e];congr 1;cases hp:p a <;> simp [hp]
def lastI (ms:List Mk) (i:Nat):Int:=((ms.take i).getLast?.map (·.id)).getD 0
theorem ZfM {ms:List Mk} {i:Nat} {m:Mk} (h:ms[i]?=some m):lastI ms (i+1)=m.id:=by
 obtain ⟨hi,e⟩:=ZS.1 h;unfold lastI;rw [ZbG hi,e];simp
theorem ZpZ {h:Hd} (H:h.Ok) {i:Nat} {m:Mk} (hm:h.marks[i]?=some m):lastI h.marks i<m.id:=by
 cases i with
 | zero =>
  have:=(H.ids m (Zay hm)).1;show (0:Int)<m.id;omega
 | succ i =>
  obtain ⟨hi,e⟩:=ZS.1 hm;have h2:h.marks[i]?=some h.marks[i]:=ZL (by omega);rw [ZfM h2,<-e];have h3:=H.inc;unfold Inc at h3;rw [Zia] at h3;have:=h3 i (i+1) (by rw [ZE];omega) (by rw [ZE];omega) (by omega);simpa using this
section
theorem Zny (h:Hd) (H:h.Ok) (v:Value) (w:World) (hs:SliceSrc w 4 v h.marks.length (h.marks.flatMap Mk.vals)) (hcap:∃ A c,v=slice A h.marks.length c∧h.marks.length<=c) :
  Calls prog 251 #[.agg (h.cells v)] w fun e w'=>e=.returned (.bool true)∧Below w.heap.size w w':=by
 have HS:=Zh hs;obtain ⟨A,c,rfl,hcap⟩:=hcap;clear hs;have h0:=(St.init w).alloc (cells (h.cells (slice A h.marks.length c)) 51);have H0:=Zh h0;have HOK:=Zh H;have hm17:=H.many;have h8:=H.few;have h9:=H.one;have hnx:=H.next;have HDF:=Zh (fun i j a b=>H.differ (i:=i) (j:=j) (a:=a) (b:=b));have HLT:=Zh (fun i m=>ZpZ H (i:=i) (m:=m));have HIDS:=Zh H.ids;have HSZ:=Zh H.sizes;have HNM:=Zh H.names;unfold Hd.seen at h8;obtain ⟨sz,⟨o,u,cn⟩,nx,sq,ms⟩:=h;simp only [Hd.cells] at *;clear H h0;go_enter func251,ntmps251;go_wp2;go_loopw [3,4,5,13] (fun a3 a4 a5 a13 wr=>∃ (i c4 c5:Nat) (la:Int),a13=int i64 i∧i<=ms.length∧a3=int i64 la∧la=lastI ms i∧a4=int i64 c4∧c4=((ms.take i).filter fun m=>holdN m.name).length∧a5=int i64 c5∧c5=((ms.take i).filter Mk.seen).length∧St w w.hp wr [pt w.heap.size (cells #[int i64 sz,int i64 o,int i64 u,int i64 cn,int i64 nx,int i64 sq,slice A ms.length c] 51)]) (fun _ _ _ a13 _=>ms.length - (intOf a13).toNat);case atStart=>exact ⟨0,0,0,0,rfl,by omega,rfl,rfl,rfl,rfl,rfl,rfl,H0.o⟩
 case round =>
  obtain ⟨i,c4,c5,la,rfl,hi,rfl,hla,rfl,hc4,rfl,hc5,hst⟩:=hrel;have hc4l:=Zin (fun m:Mk=>holdN m.name) ms i;have hc5l:=Zin Mk.seen ms i;by_cases hlt:i<ms.length
  ·have d0:decide ((i:Int)<(ms.length:Int))=true:=by rw [Ze];omega
   obtain ⟨m,hm⟩:∃ m,ms[i]?=some m:=⟨_,ZL hlt⟩;have hmm:=Zay hm;obtain ⟨G,off,c',e1,hG,hc⟩:=Zco (mk:=Mk.vals) (HS.o.below hst.below) (fun _=>rfl) (by decide) hm;simp only [ZF,ZK] at e1;obtain ⟨rfl,rfl⟩:=e1;have k1:=HLT.o i m hm;have k2:=HIDS.o m hmm;have k3:=HSZ.o m hmm;have k4:=HNM.o m hmm;have k5:=Zil (fun m:Mk=>holdN m.name) hm;have k6:=Zil Mk.seen hm;have k7:=ZfM hm;rw [<-hla] at k1;have HM:=Zh hm;obtain ⟨id,s,n,b⟩:=m;simp only [Mk.seen] at k1 k2 k3 k5 k6 k7;have y0:wr.cell? ⟨G,off+i*4,none⟩=some (int i64 id):=hc 0 (by decide);have y1:wr.cell? ⟨G,off+i*4+1,none⟩=some (.string s):=hc 1 (by decide);have y2:wr.cell? ⟨G,off+i*4+2,none⟩=some (int i64 (n:Int)):=hc 2 (by decide);have y3:wr.cell? ⟨G,off+i*4+3,none⟩=some (.bool b):=hc 3 (by decide);obtain ⟨x0,x1,x2,x3,x4,x5,x6⟩:=ZW hst;have HST:=Zh (hst.alloc (cells #[int i64 id,.string s,int i64 n,.bool b] 66));have d1:decide (id<=la)=false:=by rw [Zk];omega
   have d2:decide (nx<=id)=false:=by rw [Zk];omega
   have d3:decide ((n:Int)<0)=false:=by rw [Zk];omega
   have d4:decide (512<(n:Int))=false:=by rw [Zk];omega
   have NMD:=Zh (Znx id s n b k4);have HHL:=Zh (Zg7 id s n b);have HSE:=Zh (ZfL id s n b);have lt0:G<wr.heap.size:=hG;have lt1:w.heap.size<wr.heap.size:=hst.lt;have hb4:c4<=17∧c5<=17:=by omega
   have HC4:=Zh hc4;have HC5:=Zh hc5;have K5:=Zh k5;have K6:=Zh k6;have K7:=Zh k7;clear hc hla k1 k2 k3 k4 k5 k6 k7 hc4 hc5 hst;go_wp2_with fail;refine (NMD.o _).mono ?_;rintro e w3 ⟨rfl,hb3⟩;have h3:=HST.o.keep hb3;clear x0 x1 x2 x3 x4 x5 x6 y0 y1 y2 y3 lt0 lt1 hb3;obtain ⟨z0,z1,z2,z3⟩:=ZX h3;have H3:=Zh h3;clear h3;go_wp2_with fail;refine (HHL.o _).mono ?_;rintro e w4 ⟨rfl,hb4⟩;have h4:=H3.o.keep hb4;clear z0 z1 z2 z3 hb4;obtain ⟨z0,z1,z2,z3⟩:=ZX h4;have H4:=Zh h4;clear h4;cases hh:holdN s with
   | true =>
    rw [hh] at HSE K5 K6;rw [show (!b&&!true)=false by cases b <;> rfl] at HSE K6;go_wp2_with fail;refine (HSE.o _).mono ?_;rintro e w5 ⟨rfl,hb5⟩;have H5:=Zh (H4.o.keep hb5);clear hb5;have hw4:(c4:Int)+1=((c4+1:Nat):Int):=by omega
    have hw5:IntKind.i64.wrap ((c4:Int)+1)=(c4:Int)+1:=by rw [Z2];omega
    clear hw4;go_wp2;go_roundw;case rel=>exact ⟨i+1,c4+1,c5,id,by go_num,by omega,rfl,K7.o.symm,by go_num,by rw [K5.o,HC4.o];rfl,rfl,by rw [K6.o,HC5.o];rfl,H5.o.drop⟩
    case measure=>simp [intOf]<;>omega
   | false =>
    rw [hh] at HSE K5 K6;cases b with
    | true =>
     go_wp2_with fail;refine (HSE.o _).mono ?_;rintro e w5 ⟨rfl,hb5⟩;have H5:=Zh (H4.o.keep hb5);clear hb5;go_wp2;go_roundw;case rel=>exact ⟨i+1,c4,c5,id,by go_num,by omega,rfl,K7.o.symm,rfl,by rw [K5.o,HC4.o];rfl,rfl,by rw [K6.o,HC5.o];rfl,H5.o.drop⟩
     case measure=>simp [intOf]<;>omega
    | false =>
     go_wp2_with fail;refine (HSE.o _).mono ?_;rintro e w5 ⟨rfl,hb5⟩;have h5:=H4.o.keep hb5;clear hb5 z0 z1 z2 z3;obtain ⟨z0,z1,z2,z3⟩:=ZX h5;obtain ⟨x0,x1,x2,x3,x4,x5,x6⟩:=ZW (h5.pull 1 _ rfl);have H5:=Zh h5;clear h5;have hw5:IntKind.i64.wrap ((c5:Int)+1)=(c5:Int)+1:=by rw [Z2];omega
     have hic:(i:Int)<=(c:Int):=by omega
     go_wp2_with fail;obtain ⟨g2,hg2⟩:∃ g,wr.heap.size=g:=⟨_,rfl⟩;rw [hg2] at H5 |-;obtain ⟨wq,hwq⟩:=Zn wr;go_loopw [60] (fun a60 w2=>∃ j:Nat,a60=int i64 j∧j<=i∧St w w.hp w2 [pt g2 (cells #[int i64 id,.string s,int i64 n,.bool false] 66),pt w.heap.size (cells #[int i64 sz,int i64 o,int i64 u,int i64 cn,int i64 nx,int i64 sq,slice (some ⟨G,off,none⟩) ms.length c] 51)]) (fun a60 _=>i - (intOf a60).toNat);case atStart=>exact ⟨0,rfl,by omega,H5.o⟩
     case round =>
      obtain ⟨j,rfl,hj,hst⟩:=hrel;by_cases hji:j<i
      ·have e0:decide ((j:Int)<(i:Int))=true:=by rw [Ze];omega
       obtain ⟨x,hx⟩:∃ m,ms[j]?=some m:=⟨_,ZL (by omega)⟩;obtain ⟨G2,off2,c2,e2,hG2,hc2⟩:=Zco (mk:=Mk.vals) (HS.o.below hst.below) (fun _=>rfl) (by decide) hx;simp only [ZF,Zah,Addr.mk.injEq,ZK,Zae] at e2;obtain ⟨⟨rfl,rfl⟩,rfl⟩:=e2;have hdf:=fun h2=>HDF.o i j _ x HM.o hx hji (by unfold Mk.seen;simp only [hh];rfl) h2;obtain ⟨xid,xs,xn,xb⟩:=x;have y0:wr.cell? ⟨G,off+j*4,none⟩=some (int i64 xid):=hc2 0 (by decide);have y1:wr.cell? ⟨G,off+j*4+1,none⟩=some (.string xs):=hc2 1 (by decide);have y2:wr.cell? ⟨G,off+j*4+2,none⟩=some (int i64 (xn:Int)):=hc2 2 (by decide);have y3:wr.cell? ⟨G,off+j*4+3,none⟩=some (.bool xb):=hc2 3 (by decide);have HDD:=Zh hdf;have hst2:=hst.alloc (cells #[int i64 xid,.string xs,int i64 xn,.bool xb] 66);have HST2:=Zh hst2;have HSE2:=Zh (ZfL xid xs xn xb);have lt0:G<wr.heap.size:=hG2;clear hc2 hx hdf hst hst2;obtain ⟨bs,hbs⟩:∃ b,(!xb&&!holdN xs)=b:=⟨_,rfl⟩;rw [hbs] at HSE2;have HBS:=Zh hbs;clear hbs;cases bs with
       | false =>
        go_wp2_with fail;refine (HSE2.o _).mono ?_;rintro e w6 ⟨rfl,hb6⟩;have H6:=Zh (HST2.o.keep hb6).drop;clear hb6;go_wp2;go_roundw;case rel=>exact ⟨j+1,by go_num,by omega,H6.o⟩
        case measure=>simp [intOf]<;>omega
       | true =>
        have hne:=HDD.o (by unfold Mk.seen;exact HBS.o);have d5:(xs.toList==s.toList)=false:=Zfd hne;go_wp2_with fail;refine (HSE2.o _).mono ?_;rintro e w6 ⟨rfl,hb6⟩;have h6:=HST2.o.keep hb6;obtain ⟨v0,v1,v2,v3⟩:=ZX h6;obtain ⟨q0,q1,q2,q3⟩:=ZX (h6.pull 1 _ rfl);have H6:=Zh h6.drop;clear hb6 h6;go_wp2;go_roundw;case rel=>exact ⟨j+1,by go_num,by omega,H6.o⟩
        case measure=>simp [intOf]<;>omega
      ·obtain rfl:j=i:=by omega
       have e0:decide ((j:Int)<(j:Int))=false:=by rw [Zk];omega
       go_wp2;go_roundw;case rel=>exact ⟨j+1,c4,c5+1,id,by go_num,by omega,rfl,K7.o.symm,rfl,by rw [K5.o,HC4.o];rfl,by go_num,by rw [K6.o,HC5.o];rfl,hst.drop⟩
       case measure=>simp [intOf]<;>omega
  ·obtain rfl:i=ms.length:=by omega
   have d0:decide (((ms.length:Nat):Int)<(ms.length:Int))=false:=by rw [Zk];omega
   rw [Zbk] at hc4 hc5;have d5:decide ((c4:Int)<=1)=true:=by rw [Ze];omega
   have d6:decide ((c5:Int)<=8)=true:=by rw [Ze];omega
   have d7:decide ((ms.length:Int)<=17)=true:=by rw [Ze];omega
   obtain ⟨x0,x1,x2,x3,x4,x5,x6⟩:=ZW hst;go_wp2;go_ret;exact ⟨rfl,hst.below⟩
theorem ZmG (h:Hd) (H:h.Ok) (v:Value) (w:World) (hs:SliceSrc w 4 v h.marks.length (h.marks.flatMap Mk.vals)) (hcap:∃ A c,v=slice A h.marks.length c∧h.marks.length<=c) :
  Calls prog 232 #[.agg (h.cells v)] w fun e w'=>e=.returned (.bool true)∧Below w.heap.size w w':=by
 have HS:=Zh hs;have hm:=fun w hs=>Zny h H v w hs hcap;have HM:=Zh hm;clear hm;obtain ⟨A,c,rfl,hcap⟩:=hcap;have h0:=(St.init w).alloc (cells (h.cells (slice A h.marks.length c)) 51);have H0:=Zh h0;have hsz:=H.size;have hnx:=H.next;have hsq:=H.seq;have hsh:=ZdS H.shape;have hsp:=ZdQ (h.l.order:Int) h.l.unit h.l.count;rw [hsh] at hsp;have HSP:=Zh hsp;obtain ⟨sz,⟨o,u,cn⟩,nx,sq,ms⟩:=h;simp only [Hd.cells] at *;have d1:decide ((0:Int)<=(sz:Int))=true:=by rw [Ze];omega
 have d2:decide ((sz:Int)<=512)=true:=by rw [Ze];omega
 have d3:decide (1<=nx)=true:=by rw [Ze];omega
 have d4:decide (nx<=1073741824)=true:=by rw [Ze];omega
 have d5:decide (0<=sq)=true:=by rw [Ze];omega
 have d6:decide (sq<=1099511627776)=true:=by rw [Ze];omega
 clear H h0 hsh hsp hs;go_enter func232,ntmps232;go_wp2_with fail;refine (HSP.o _).mono ?_;rintro e w2 ⟨rfl,hb2⟩;have h2:=H0.o.keep hb2;obtain ⟨x0,x1,x2,x3,x4,x5,x6⟩:=ZW h2;have H2:=Zh h2;have HMM:=Zh (HM.o w2 (HS.o.below h2.below));clear hb2 h2;go_wp2_with fail;refine HMM.o.mono ?_;rintro e w3 ⟨rfl,hb3⟩;have h3:=H2.o.keep hb3;go_wp2;go_ret;exact ⟨rfl,h3.below⟩
end
theorem Zkc:∀ {a b:List Int},(∀ x ∈ a,isByte x)->(∀ x ∈ b,isByte x)->Lib.bytesOf a=Lib.bytesOf b->a=b
 | [],[],_,_,_=>rfl
 | [],_::_,_,_,h=>by simp [Lib.bytesOf] at h
 | _::_,[],_,_,h=>by simp [Lib.bytesOf] at h
 | x::a,y::b,ha,hb,h=>by
  simp only [Lib.bytesOf,Zav,Zd0] at h;have h1:=ha x (Z0 ..);have h2:=hb y (Z0 ..);unfold isByte at h1 h2;have h3:=congrArg UInt8.toNat h.1;simp only [UInt8.toNat_ofNat'] at h3;have h4:x=y:=by omega
  rw [h4,Zkc (fun z hz=>ha z (Z8 _ hz)) (fun z hz=>hb z (Z8 _ hz)) h.2]
theorem ZoT {a b:List Int} (ha:∀ x ∈ a,isByte x) (hb:∀ x ∈ b,isByte x):((strOfNums a).toList==(strOfNums b).toList)=decide (a=b):=by
 rw [Zai,Ze,beq_iff_eq,Lib.strOfNums_toList,Lib.strOfNums_toList];exact ⟨Zkc ha hb,fun h=>by rw [h]⟩
theorem Zp0 {w:World} {s:Nat} {A:Option Addr} {n c m:Nat} {xs:List Value} (h:SliceSrc w s (slice A n c) n xs) (hm:m<=n):SliceSrc w s (slice A m c) m (xs.take (m*s)):=by
 obtain ⟨A1,c1,e,hsrc,hA⟩:=h;simp only [ZF,ZK] at e;obtain ⟨rfl,rfl⟩:=e;have hms:=Zcj s hm;refine ⟨_,_,rfl,⟨by rw [ZN,hsrc.len];omega,fun hp=>?_,fun u hu=>hsrc.one u (Zd3 hu)⟩,hA⟩;obtain ⟨ad,e,hc⟩:=hsrc.cells (by omega);refine ⟨ad,e,fun j u hu=>hc j u ?_⟩;rw [Zci] at hu;split at hu
 ·exact hu
 ·cases hu
section
theorem ZgR (va vb:Value) (a b:List Int) (w:World) (ha:SliceSrc w 1 va a.length (a.map byteV)) (hb:SliceSrc w 1 vb b.length (b.map byteV)) (ba:∀ x ∈ a,isByte x) (bb:∀ x ∈ b,isByte x) :
  Calls prog 206 #[va,vb] w fun e w'=>e=.returned (.bool (decide (a=b)))∧w=w':=by
 obtain ⟨A,ca,rfl,hsa,hna⟩:=ha;obtain ⟨B,cb,rfl,hsb,hnb⟩:=hb;have h1:(convert 32 9 (slice A a.length ca)).run prog w=.ok (.string (strOfNums a)) w:=Zdk ⟨A,ca,rfl,hsa,hna⟩;have h2:(convert 32 9 (slice B b.length cb)).run prog w=.ok (.string (strOfNums b)) w:=Zdk ⟨B,cb,rfl,hsb,hnb⟩;clear hsa hsb;go_enter func206,ntmps206;go_wp2;go_ret;exact ⟨ret_bool (ZoT ba bb),rfl⟩
end
theorem ZlL (s:ByteArray):(strB s).map byteV=Lib.strCells s:=by
 unfold strB Lib.strCells;rw [ZdD];rfl
theorem Zl7 {w0 w w':World} {e:TypeId} {k:Nat} {v:Value} {n:Nat} {xs:List Value} (h0:Below w0.heap.size w0 w) (ho:w.ownsRow w0.heap.size e k v n xs) (h:w.grownBy w' v.ownBlock):Below w0.heap.size w0 w':=by
 refine h0.trans ⟨h.os,h.tape,h.output,h.size,fun k hk=>h.block k (Zgn hk h0.size) ?_⟩;rcases ho.2 with ⟨rfl,_⟩|⟨g,cap,cur,rfl,hg,_⟩
 ·intro e;cases e
 ·intro e;simp only [Value.ownBlock,Zah] at e;omega
section
theorem ZoU (v:Value) (b:List Int) (s:ByteArray) (w:World) (hs:SliceSrc w 1 v b.length (b.map byteV)) (hbl:b.length<=100000) (hsz:s.size<=1000) :
  Calls prog 233 #[v,.string s] w fun e w'=>∃ v',e=.returned v'∧Below w.heap.size w w'∧w'.ownsRow w.heap.size 5 1 v' (b++textB s).length ((b++textB s).map byteV):=by
 have hv:=ZkP v b s.size w hs (by omega) (by omega) (by omega);have HV:=Zh hv;obtain ⟨A,c,rfl,_⟩:=hs;clear hv;go_enter func233,ntmps233;go_wp2_with fail;refine HV.o.mono ?_;rintro e w2 ⟨v2,rfl,hb2,ho2⟩;obtain ⟨q,hq⟩:∃ q,b++varB (s.size:Int)=q:=⟨_,rfl⟩;rw [hq] at ho2;have hql:q.length<=100009:=by
  have:=(Zcd (s.size:Int)).2;rw [<-hq,ZA];omega
 obtain ⟨A2,c2,rfl⟩:=ZD ho2;obtain ⟨i0,hi0,hz0,hz1,hz2⟩:=info_parts Zfu;obtain ⟨v3,w3,hr3,ho3,hg3,_⟩:=Lib.run_append_own_string (P:=prog) w2 w.heap.size 32 9 32 5 i0 underlying32 underlying9 hi0 hz0 hz1 hz2 _ _ _ ho2 s (by unfold maxLen;omega) (by omega) hb2.size;have hb3:=Zl7 hb2 ho2 hg3;obtain ⟨A3,c3,rfl⟩:=ZD ho3;have HR3:=Zh hr3;clear hr3 ho2 hg3;go_wp2_with (at_builtin;refine Zax _ rfl (.tmp 8) (.tmp 9) 32 9 rfl _ _ rfl rfl _ _ HR3.o ?_);go_ret;refine ⟨_,rfl,hb3,?_⟩;have e1:(b++textB s).length=q.length+s.size:=by
  rw [<-hq];unfold textB;simp only [ZA,Zds];omega
 have e2:(b++textB s).map byteV=q.map byteV++Lib.strCells s:=by
  unfold textB;rw [<-Zam,hq,Z4,ZlL]
 rw [e2];rw [e1];exact ho3
end
end Go.Proofs.YtcbdghojlbpomaaGreat
