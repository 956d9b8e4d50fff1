import Derived.Laws.BytesArg
import Derived.Lib.SlBytesConst
import Derived.Test.YtpjchngjhijgmaaGreatJP07
import Derived.ProofKit
import Derived.OpenShut
import Derived.Deep.Slices
import Derived.Lib.SmallJoins
import Derived.Deep.Fields
import Derived.Test.YtpjchngjhijgmaaGreatJP01
import Derived.Test.YtpjchngjhijgmaaGreatJP03
set_option linter.all false
set_option maxRecDepth 4000
set_option maxHeartbeats 8000000
open Go.RowKit
open Go.IntKind (i64 u64)
open Go.Value (int pointer slice)
open Go.Obj (cells)
namespace Go.Proofs.YtpjchngjhijgmaaGreat
open Tryz
open HP (pt mapOf)
variable {W w w':World} {I:Hp} {l:List HP}
theorem Ze7 {w:World} {v:Value} {n:Nat} {xs:List Int} (h:SliceSrc w 1 v n (xs.map byteV)):(convert 46 9 v).run prog w=.ok (.string (strOfNums xs)) w:=by
 obtain ⟨A,c,rfl,hsrc,hA⟩:=h;have hl:=hsrc.len;rw [Za7,Zcj] at hl;rcases ZbF n with h0|h0
 ·subst h0;obtain rfl:=Zcq hl;rw [run_convert_bytes_string w 46 9 _ A 0 c underlying46 (by kernel_rfl) underlying9];cases A with
  | none=>simp [Conv.bytesToString];rfl
  | some a =>
   have hz:(loadCells a 0).run prog w=.ok #[] w:=by
    have:=run_loadCells_list (P:=prog) w a [] (fun j v hj=>by simp at hj);simpa using this
   rw [run_bytesToString w a 0 c [] (by simpa using hz)];rfl
 ·obtain ⟨ad,rfl,hc⟩:=hsrc.cells h0;have hl2:(loadCells ad n).run prog w=.ok (xs.map (int .u8)).toArray w:=by
   have:=run_loadCells_list (P:=prog) w ad (xs.map byteV) (fun j v hj=>hc j v hj);rw [Za7,hl] at this;exact this
  rw [run_convert_bytes_string w 46 9 _ _ n c underlying46 (by kernel_rfl) underlying9,run_bytesToString w ad n c xs hl2,foldl_push_bytes];simp [strOfNums,ByteArray.empty,ByteArray.emptyWithCapacity];rfl
theorem Zl6 (w:World) (C:Array Value) (n c:Nat):(convert 46 46 (slice (some ⟨w.heap.size,0,none⟩) n c)).run prog (w.alloc (cells C 5))=.ok (slice (some ⟨w.heap.size,0,none⟩) n c) (w.alloc (cells C 5 (C.size,C.size+1))) :=
 Lib.run_convert_bytes_const w 46 5 C n c underlying46 underlying5
theorem ZsU (w:World) (cs:Array Value) (xs:List Int) (n:Nat) (f:Nat × Nat) (h1:cs.toList=xs.map byteV) (h2:xs.length=n):SliceSrc (w.alloc (cells cs 5 f)) 1 (slice (some ⟨w.heap.size,0,none⟩) n n) n (xs.map byteV):=by
 refine ⟨_,_,rfl,⟨by simp [h2],fun _=>⟨_,rfl,fun j u hu=>?_⟩,Zcb xs⟩,fun e=>by cases e⟩;rw [add_plain,ZX,Zc (Za3 _ _) j,<-hu,<-h1];simp
section
theorem St.bytes_append {v v2:Value} {n m:Nat} {xs ys:List Value} (ty:TypeId) (h:St W I w (HP.row 5 1 v n xs::l)) (hs:SliceSrc w 1 v2 m ys) (hb:n+m<=1000000000) :
  ∃ v' w',(Builtin.append_ #[46,46] ty #[v,v2]).run prog w=.ok v' w'∧St W I w' (HP.row 5 1 v' (n+m) (xs++ys)::l):=by
 obtain ⟨A,c,rfl,hsrc,hA⟩:=hs;obtain ⟨i0,hi0,hz0,hz1,hz2⟩:=info_parts ZjJ;obtain ⟨v',w',hr,ho',hgr,hv'⟩:=Zds (P:=prog) w 0 46 ty 5 i0 _ 1 1 underlying46 hi0 hz0 hz1 hz2 rfl (by decide) v n xs h.row_owns A m c ys hsrc hA (by unfold maxLen;omega) (by omega) (ZL _);exact ⟨v',w',hr,h.row_grown ho' hgr hv'⟩
end
open Go.ChangeShapes Go.WideShapes Go.ChangeAt Go.Deep Go.Joins
set_option maxRecDepth 100000
theorem Zgi (b o j:Nat):(⟨b,o,none⟩:Addr).add j=⟨b,o+j,none⟩:=by
 unfold Addr.add;split
 ·subst j;rfl
 ·rfl
theorem Zks {w:World} {b o:Nat} {v:Value} (h:w.cell? ⟨b,o,none⟩=some v):∃ cs t f,w.heap[b]?=some (cells cs t f)∧cs[o]?=some v:=by
 unfold World.cell? at h;simp only at h;split at h
 ·rename_i cs t f hb;simp only [Option.isSome_none,Zbu,Zas] at h;exact ⟨cs,t,f,hb,h⟩
 ·cases h
section
variable {H : Type} {enc : TypeId × Value -> H} {P : Program} {base : Nat} {spare : Nat -> Bool} {held : Bool}
theorem Zl7 {t e:TypeId} {k:Nat} (ht:P.underlying t=some (.slice e)) (hk:P.cellsOf e=k) (h0:0<k) {v:Value} {d:DataW H} {p:List MemPlace} (h:DataW.Trod enc P w base spare held t v d p) (hs:∃ A n c,v=slice A n c) :
  ∃ A n c,v=slice A n c∧n<=c∧c<=maxLen∧(A=none->n=0∧c=0)∧(0<n->∃ b off,A=some ⟨b,off,none⟩∧b<w.heap.size∧∀ i,i<n->∃ cs fuel x,DataW.trod enc P w base spare held fuel e cs=some x∧cs.length=k∧∀ j,j<k->w.cell? ⟨b,off+(i*k+j),none⟩=cs[j]?):=by
 obtain ⟨A,n,c,rfl⟩:=hs;obtain ⟨fuel,hf⟩:=h;rcases open_slice ht hf with ⟨hcs,_⟩|⟨a,len,cap,m,n',D,Pl,hcs,_,hl,hm,hmm,_,hi⟩
 ·simp [Value.cells] at hcs;obtain ⟨rfl,rfl,rfl⟩:=hcs;exact ⟨none,0,0,rfl,ZC _,ZL _,fun _=>⟨rfl,rfl⟩,fun h=>absurd h (by omega)⟩
 ·simp [Value.cells] at hcs;obtain ⟨rfl,rfl,rfl⟩:=hcs;rw [hk] at hi;have hlm:n<=m:=by rw [hmm];split <;> omega
  refine ⟨some a,n,c,rfl,hl,hm,fun e=>by (cases e),fun hn=>?_⟩;have key:∀ i,i<n->∃ cs fuel x,DataW.trod enc P w base spare held fuel e cs=some x∧cs.length=k∧∀ j,j<k->w.cell? ((a.add (i*k)).add j)=cs[j]?:=fun i hin=>by
   obtain ⟨cs',hc,ht⟩:=hi i (by omega);obtain ⟨_,hcl,hat⟩:=World.cells?_some hc;exact ⟨cs',n',_,ht,hcl,hat⟩
  obtain ⟨b,off,spot⟩:=a;have hspot:spot=none:=by
   obtain ⟨cs,_,_,_,hcl,hat⟩:=key 0 hn;have h1:=hat 0 h0;rw [Zy (by omega)] at h1;simpa [Addr.add] using World.cell?_spot h1
  subst hspot;refine ⟨b,off,rfl,?_,fun i hin=>?_⟩
  ·obtain ⟨cs,_,_,_,hcl,hat⟩:=key 0 hn;have h1:=hat 0 h0;rw [Zgi,Zgi,Zy (by omega)] at h1;exact ZfF w _ h1
  ·obtain ⟨cs,fuel,x,h1,h2,h3⟩:=key i hin;refine ⟨cs,fuel,x,h1,h2,fun j hj=>?_⟩;rw [<-h3 j hj,Zgi,Zgi,Zbb]
theorem ZiE {α:Type} (mk:α->Value) (ok:α->Prop) {t e:TypeId} (ht:P.underlying t=some (.slice e)) (hk:P.cellsOf e=1)
  (hel:∀ fuel c x,DataW.trod enc P w base spare held fuel e [c]=some x->∃ a,c=mk a∧ok a) [Nonempty α]
  {v:Value} {d:DataW H} {p:List MemPlace} (h:DataW.Trod enc P w base spare held t v d p) (hs:∃ A n c,v=slice A n c) :
  ∃ l:List α,RowI w.hp 1 v l.length (l.map mk)∧(∀ a ∈ l,ok a)∧l.length<=maxLen:=by
 obtain ⟨A,n,c,rfl,hnc,hcm,hA,hcells⟩:=Zl7 ht hk (by omega) h hs;rcases ZbF n with rfl|hn
 ·exact ⟨[],⟨A,c,rfl,rfl,by simp,hcm,fun e=>(hA e).2,fun h=>absurd h (by simp)⟩,fun a ha=>by (cases ha),by simp⟩
 ·obtain ⟨b,off,rfl,hb,hc⟩:=hcells hn;have key:∀ i,∃ a,i<n->ok a∧w.cell? ⟨b,off+i,none⟩=some (mk a):=fun i=>by
   by_cases hin:i<n
   ·obtain ⟨cs,fuel,x,h1,h2,h3⟩:=hc i hin
    match cs,h2 with
    | [c0],_ =>
     obtain ⟨a,rfl,ha⟩:=hel fuel c0 x h1;have:=h3 0 (by omega);rw [Zcj,ZaP] at this;exact ⟨a,fun _=>⟨ha,this⟩⟩
   ·exact ⟨Classical.choice inferInstance,fun h=>absurd h hin⟩
  obtain ⟨f,key⟩:∃ f:Nat->α,∀ i,i<n->ok (f i)∧w.cell? ⟨b,off+i,none⟩=some (mk (f i)):=⟨fun i=>Classical.choose (key i),fun i=>Classical.choose_spec (key i)⟩;obtain ⟨cs,t',f',hblk,_⟩:=Zks (key 0 hn).2;refine ⟨(List.range n).map f,⟨_,c,by simp,by simp,by simpa using hnc,hcm,(fun e=>by cases e),fun _=>⟨b,off,cs,t',f',rfl,hblk,fun i x hi=>?_⟩⟩,fun a ha=>?_,by simp;omega⟩
  ·rw [List.map_map,ZcH] at hi;cases hr:(List.range n)[i]? with
   | none=>rw [hr] at hi;cases hi
   | some q =>
    obtain ⟨hq,hq'⟩:=ZH.1 hr;simp at hq hq';subst hq';rw [hr] at hi;simp only [Zct,Zaa,Function.comp] at hi;subst hi;have h4:=(key i hq).2;unfold World.cell? at h4;simpa [hblk] using h4
  ·obtain ⟨i,hi,rfl⟩:=Zam.1 ha;exact (key i (ZdG.1 hi)).1
end
def isByte (x:Int):Prop:=0<=x∧x<256
def isInt (x:Int):Prop:=-9223372036854775808<=x∧x<=9223372036854775807
def boolV (b:Bool):Value:=.bool b
section
variable {H : Type} {enc : TypeId × Value -> H} {base : Nat} {spare : Nat -> Bool} {held : Bool}
theorem ZsV (fuel:Nat) (c:Value) (x:DataW H × List MemPlace) (h:DataW.trod enc prog w base spare held fuel 5 [c]=some x):∃ a,c=byteV a∧isByte a:=by
 obtain ⟨m,hm,_,hw⟩:=DataW.trod_int underlying5 h;refine ⟨m,by simpa [byteV] using hm,?_⟩;have:=hw;simp [Lit.wf,IntKind.min,IntKind.max,IntKind.signed,IntKind.bits] at this;unfold isByte;omega
theorem ZmS (fuel:Nat) (c:Value) (x:DataW H × List MemPlace) (h:DataW.trod enc prog w base spare held fuel 3 [c]=some x):∃ a,c=intV a∧isInt a:=by
 obtain ⟨m,hm,_,hw⟩:=DataW.trod_int underlying3 h;refine ⟨m,by simpa [intV] using hm,?_⟩;have:=hw;simp [Lit.wf,IntKind.min,IntKind.max,IntKind.signed,IntKind.bits] at this;unfold isInt;omega
theorem Zsd:prog.cellsOf 5=1:=by kernel_rfl
theorem Zdz:prog.cellsOf 3=1:=by kernel_rfl
theorem Zpv:prog.cellsOf 4=1:=by kernel_rfl
theorem Zow:prog.cellsOf 46=1:=by kernel_rfl
variable {r : Reach} {b0 : Nat} {v : Value} {d : DataW H} {p : List MemPlace}
theorem open_ints (hv:Value.okWide prog w r b0 28 v) (h:DataW.Trod enc prog w base spare held 28 v d p):∃ q,IntsI w.hp v q∧(∀ x ∈ q,isInt x)∧q.length<=maxLen:=by
 obtain ⟨A,n,c,e⟩:=okWide_slice underlying28 hv;obtain ⟨l,h1,h2,h3⟩:=ZiE (P:=prog) intV isInt underlying28 Zdz ZmS h ⟨A,n,c,e⟩;exact ⟨l,h1,h2,h3⟩
def RowsI (I:Hp) (v:Value) (l:List (List Int)):Prop:=∃ vs:List Value,vs.length=l.length∧RowI I 1 v l.length vs∧(∀ (i:Nat) x q,vs[i]?=some x->l[i]?=some q->BytesI I x q)∧∀ q ∈ l,(∀ x ∈ q,isByte x)∧q.length<=maxLen
theorem Zse (fuel:Nat) (c:Value) (x:DataW H × List MemPlace) (h:DataW.trod enc prog w base spare held fuel 46 [c]=some x):∃ a:Value × List Int,c=a.1∧(BytesI w.hp a.1 a.2∧(∀ x ∈ a.2,isByte x)∧a.2.length<=maxLen):=by
 have hs:∃ A n c',c=slice A n c':=by
  rcases open_slice underlying46 h with ⟨hcs,_⟩|⟨a,len,cap,m,n',D,Pl,hcs,_⟩
  ·exact ⟨none,0,0,by simpa using hcs⟩
  ·exact ⟨some a,len,cap,by simpa using hcs⟩
 have hT:DataW.Trod enc prog w base spare held 46 c x.1 x.2:=by
  obtain ⟨A,n,c',rfl⟩:=hs;exact ⟨fuel,by simpa [Value.cells] using h⟩
 obtain ⟨q,h1,h2,h3⟩:=ZiE byteV isByte underlying46 Zsd ZsV hT hs;exact ⟨(c,q),rfl,h1,h2,h3⟩
end
def isU32 (x:Int):Prop:=0<=x∧x<4294967296
def ZdZ (c:Int):Int:=if c % 2=1 then bits .xor .u32 (c / 2) 2197175160 else c / 2
def crcN:Nat->Int->Int
 | 0,c=>c
 | n+1,c=>ZdZ (crcN n c)
def ZcO (c b:Int):Int:=crcN 8 (bits .xor .u32 c b)
theorem Zgp (x:Int):IntKind.u32.wrap x=x % 4294967296:=by
 unfold IntKind.wrap;first|rfl|simp [IntKind.bits,IntKind.signed]|(simp only [IntKind.signed,IntKind.size];rfl)
theorem u32_xor (a b:Int):isU32 (bits .xor .u32 a b):=by
 have e:bits .xor .u32 a b=IntKind.u32.wrap ((BitVec.ofInt 32 a ^^^ BitVec.ofInt 32 b).toNat:Nat):=rfl;rw [e,Zgp];unfold isU32;omega
theorem Zsf (n:Int):bits .and .u32 n 1=n % 2:=by
 show IntKind.u32.wrap ((BitVec.ofInt 32 n &&& BitVec.ofInt 32 ((1:Nat):Int)).toNat:Nat)=n % 2;rw [BitVec.toNat_and,BitVec.toNat_ofInt,show (BitVec.ofInt 32 ((1:Nat):Int)).toNat=2 ^ 1 - 1 by decide,Nat.and_two_pow_sub_one_eq_mod,Zgp];omega
theorem Zpw {c:Int} (h:isU32 c):isU32 (ZdZ c):=by
 unfold ZdZ;split
 ·exact u32_xor _ _
 ·unfold isU32 at *;omega
theorem Zii {c:Int} (h:isU32 c):∀ n,isU32 (crcN n c)
 | 0=>h
 | n+1=>Zpw (Zii h n)
section
theorem Zsg (c b:Int) (w:World) (hb:0<=b∧b<256):Calls prog 171 #[int .u32 c,int .u8 b] w fun e w'=>e=.returned (int .u32 (ZcO c b))∧w=w':=by
 have hw:IntKind.u32.wrap b=b:=by rw [Zgp];omega
 obtain ⟨x,hx⟩:∃ x,bits .xor .u32 c b=x:=⟨_,rfl⟩;have hxu:isU32 x:=by rw [<-hx];exact u32_xor _ _
 have HXU:=Zh hxu;have HX:=Zh hx;clear hxu;go_enter func171,ntmps171;go_wp2;go_loopw [0,5,10] (fun a0 a5 a10 wr=>∃ i:Nat,a10=int i64 i∧i<=8∧a0=int .u32 (crcN i x)∧wr=w) (fun _ _ a10 _=>8 - (intOf a10).toNat);case atStart=>exact ⟨0,rfl,by omega,rfl,rfl⟩
 case round =>
  obtain ⟨i,rfl,hi,rfl,rfl⟩:=hrel;by_cases hlt:i<8
  ·have d0:decide ((i:Int)<8)=true:=by rw [Zk];omega
   obtain ⟨y,hy⟩:∃ y,crcN i x=y:=⟨_,rfl⟩;have hyu:isU32 y:=by rw [<-hy];exact Zii HXU.o i
   have hand:=Zsf y;have hsh:IntKind.u32.wrap (y / 2)=y / 2:=by rw [Zgp];unfold isU32 at hyu;omega
   have HN:=Zh (show crcN (i+1) x=ZdZ y by rw [<-hy];rfl);rw [hy];by_cases h2:y % 2=1
   ·have HB:=Zh (show ZdZ y=bits .xor .u32 (y / 2) 2197175160 by unfold ZdZ;rw [Zb h2]);have d2:decide (y % 2=1)=true:=Zt h2;clear hy hyu;go_wp2;go_roundw;case rel=>exact ⟨i+1,by go_num,by omega,by rw [HN.o,HB.o],trivial⟩
    case measure=>simp [intOf]<;>omega
   ·have HB:=Zh (show ZdZ y=y / 2 by unfold ZdZ;rw [Za h2]);have d2:decide (y % 2=1)=false:=Zq h2;clear hy hyu;go_wp2;go_roundw;case rel=>exact ⟨i+1,by go_num,by omega,by rw [HN.o,HB.o],trivial⟩
    case measure=>simp [intOf]<;>omega
  ·obtain rfl:i=8:=by omega
   go_wp2;go_ret;rw [show ZcO c b=crcN 8 x by unfold ZcO;rw [HX.o]];exact ⟨rfl,rfl⟩
def crcOf (b:List Int):Int:=bits .xor .u32 4294967295 (b.foldl ZcO 4294967295)
theorem Zox (c b:Int):isU32 (ZcO c b):=Zii (u32_xor _ _) 8
theorem ZjN:∀ (b:List Int) (c:Int),isU32 c->isU32 (b.foldl ZcO c)
 | [],_,h=>h
 | x::b,c,_=>ZjN b _ (Zox c x)
theorem ZmT (v:Value) (b:List Int) (w:World) (hs:SliceSrc w 1 v b.length (b.map byteV)) (hb:∀ x ∈ b,isByte x) (hl:b.length<=1000000) :
  Calls prog 129 #[v] w fun e w'=>e=.returned (int .u32 (crcOf b))∧w=w':=by
 obtain ⟨A,c,rfl,hsrc,hA⟩:=hs;have HSRC:=Zh hsrc;have HB:=Zh hb;clear hsrc hb;go_enter func129,ntmps129;go_wp2;go_loopw [3,5,8] (fun a3 a5 a8 wr=>∃ i:Nat,a8=int i64 i∧i<=b.length∧a3=int .u32 ((b.take i).foldl ZcO 4294967295)∧wr=w) (fun _ _ a8 _=>b.length - (intOf a8).toNat);case atStart=>exact ⟨0,rfl,by omega,rfl,rfl⟩
 case round =>
  obtain ⟨i,rfl,hi,rfl,rfl⟩:=hrel;by_cases hlt:i<b.length
  ·have d0:decide ((i:Int)<(b.length:Int))=true:=by rw [Zk];omega
   obtain ⟨x,hx⟩:∃ x,b[i]?=some x:=⟨_,Zy hlt⟩;have hbx:=HB.o x (ZaG hx);obtain ⟨ad,rfl,hc⟩:=HSRC.o.cells (by omega);have hc0:=hc i (byteV x) (by rw [ZcH,hx];rfl)
   have HN:=Zh (show (b.take (i+1)).foldl ZcO 4294967295=ZcO ((b.take i).foldl ZcO 4294967295) x by
    obtain ⟨hil,he⟩:=ZH.1 hx
    rw [Zc8 hil,ZeZ,he];rfl)
   have HCN:=Zh (Zsg ((b.take i).foldl ZcO 4294967295) x wr (by unfold isByte at hbx;omega));unfold byteV at hc0;clear hx hbx hc;obtain ⟨gb,goff,gp⟩:=ad;obtain ⟨y,hy⟩:∃ y,(b.take i).foldl ZcO 4294967295=y:=⟨_,rfl⟩;rw [hy] at HCN HN |-;clear hy;go_wp2_with fail;refine HCN.o.mono ?_;rintro e w2 ⟨rfl,rfl⟩;go_wp2;go_roundw;case rel=>exact ⟨i+1,by go_num,by omega,by rw [HN.o],trivial⟩
   case measure=>simp [intOf]<;>omega
  ·obtain rfl:i=b.length:=by omega
   have d0:decide (((b.length:Nat):Int)<(b.length:Int))=false:=by rw [ZT];omega
   rw [ZbJ];go_wp2;go_ret;exact ⟨rfl,rfl⟩
end
theorem ZgA {w:World} {A:Option Addr} {n:Nat} {xs:List Value} (h:SrcAt w 1 A n xs) (hn:0<n):∃ b off,A=some ⟨b,off,none⟩∧b<w.heap.size∧∀ j u,xs[j]?=some u->w.cell? ⟨b,off+j,none⟩=some u:=by
 obtain ⟨ad,rfl,hc⟩:=h.cells hn;have hl:=h.len;obtain ⟨u0,hu0⟩:∃ u,xs[0]?=some u:=⟨_,Zy (by omega)⟩;have h0:=hc 0 u0 hu0;obtain ⟨b,off,spot⟩:=ad;have hspot:spot=none:=by simpa [Addr.add] using World.cell?_spot h0
 subst hspot;refine ⟨b,off,rfl,?_,fun j u hu=>?_⟩
 ·rw [add_plain] at h0;exact ZfF w _ h0
 ·have:=hc j u hu;rwa [add_plain] at this
def putB (n:Int) (k:Nat):List Int:=(List.range k).map fun i=>n / 2 ^ (8*i) % 256
theorem ZqW (n:Int) (k:Nat):putB n (k+1)=putB n k++[n / 2 ^ (8*k) % 256]:=by
 unfold putB;rw [List.range_succ,Zbo];rfl
theorem Zb1 (n:Int) (k:Nat):(putB n k).length=k:=by simp [putB]
def getB:List Int->Int
 | []=>0
 | x::l=>x+256*getB l
section
theorem St.pt_new {b:Nat} {o:Obj} (h:St W I w (pt b o::l)):W.heap.size<=b:=by
 obtain ⟨k,a,d,h1,h2,_,a',_,p,_⟩:=h.own;rcases ZeW b W.heap.size with hlt|hge
 ·have e:W.hp b=some W.heap[b]:=ZiS hlt;have h3:=h.base _ _ e;rcases d b with q|q
  ·rw [h3] at q;cases q
  ·rw [a' _ _ (show h1 b=some o from p)] at q;cases q
 ·exact hge
theorem St.row_new {e:TypeId} {size:Nat} {v:Value} {n:Nat} {xs:List Value} (h:St W I w (HP.row e size v n xs::l)):w.ownsRow W.heap.size e size v n xs:=by
 obtain ⟨hl,⟨p1,p2,_⟩|⟨g,cap,cur,p1,p3,p4,p5,p6,s⟩⟩:=h.row_open
 ·exact ⟨hl,.inl ⟨p1,p2⟩⟩
 ·exact ⟨hl,.inr ⟨g,cap,cur,p1,s.pt_new,s.heap,p3,p4,p5,p6⟩⟩
theorem Zij (w:World) (x:Int):SliceSrc (w.alloc (cells #[int .u8 x] 5)) 1 (slice (some ⟨w.heap.size,0,none⟩) 1 1) 1 [int .u8 x]:=by
 refine ⟨_,_,rfl,⟨rfl,fun _=>⟨_,rfl,fun j u hu=>?_⟩,fun u hu=>by (rw [Zbj.1 hu];rfl)⟩,fun e=>by cases e⟩;rw [add_plain,ZX,Zc (Za3 _ _) j,<-hu];simp
theorem Zl8 (v:Value) (b:List Int) (n:Int) (k:Nat) (w:World) (hs:SliceSrc w 1 v b.length (b.map byteV)) (hn0:0<=n) (hn:n<18446744073709551616) (hk1:1<=k) (hk8:k<=8) (hbl:b.length<=1000000) :
  Calls prog 128 #[v,int u64 n,int i64 k] w fun e w'=>∃ v',e=.returned v'∧Below w.heap.size w w'∧w'.ownsRow w.heap.size 5 1 v' (b++putB n k).length ((b++putB n k).map byteV):=by
 have hk1':(1:Int)<=(k:Int):=by omega
 have hk8':(k:Int)<=8:=by omega
 go_enter func128,ntmps128;go_wp2_with fail;refine (Zbk v b.length (b.map byteV) w hs hbl).mono ?_;rintro e w1 ⟨v1,rfl,ho1,hb1⟩;have h1:St w w.hp w1 (HP.row 5 1 v1 b.length (b.map byteV)::[]):=(St.init w).row_fresh hb1 ho1;obtain ⟨A1,c1,rfl⟩:=ZA ho1;have H1:=Zh h1;clear h1 ho1 hb1;go_wp2;go_loopw [7,19] (fun a7 a19 wr=>∃ (i:Nat) (A:Option Addr) (c:Nat),a19=int i64 i∧a7=slice A (b++putB n i).length c∧i<=k∧St w w.hp wr (HP.row 5 1 (slice A (b++putB n i).length c) (b++putB n i).length ((b++putB n i).map byteV)::[])) (fun _ a19 _=>k - (intOf a19).toNat);case atStart=>exact ⟨0,A1,c1,rfl,by simp [putB],ZL _,by simpa [putB] using H1.o⟩
 case round =>
  obtain ⟨i,A,c,rfl,rfl,hi,hst⟩:=hrel;by_cases hlt:i<k
  ·have hp:=ZqW n i;have hst2:=hst.keep (ZS wr (cells #[int .u8 (n / 2 ^ (8*i) % 256)] 5));have hle:(b++putB n i).length+1<=1000000000:=by rw [Zs,Zb1];omega
   obtain ⟨v',w',hr,h2⟩:=St.bytes_append 46 hst2 (Zij wr (n / 2 ^ (8*i) % 256)) hle;obtain ⟨A',c',rfl⟩:=ZA h2.row_owns;have e2:(b++putB n i).length+1=(b++putB n (i+1)).length:=by rw [hp];simp [Zbb]
   have e3:(b++putB n i).map byteV++[int .u8 (n / 2 ^ (8*i) % 256)]=(b++putB n (i+1)).map byteV:=by rw [hp,<-ZV,Zbo (l₂:=[n / 2 ^ (8*i) % 256])];rfl
   rw [e3,e2] at h2;rw [e2] at hr;have HR:=Zh hr;have H2:=Zh h2;clear hst hst2 hr h2 hp e2 e3 hle;go_wp2_with (at_builtin;refine ZZ _ rfl (.tmp 22) (.tmp 28) 46 46 rfl _ _ rfl rfl _ _ HR.o ?_);go_roundw;case rel=>exact ⟨i+1,A',c',by go_num,by rw [Zs],by omega,H2.o⟩
   case measure=>simp [intOf]<;>omega
  ·obtain rfl:i=k:=by omega
   have HST:=Zh hst;clear hst;go_wp2;go_ret;refine ⟨_,rfl,HST.o.below,?_⟩;exact HST.o.row_new
end
def getAt (b:List Int) (at' k:Int):Int × Bool :=
 if k<1∨8<k∨at'<0∨(b.length:Int)<at'∨(b.length:Int) - at'<k then (0,false) else (getB ((b.drop at'.toNat).take k.toNat),true)
theorem Zmz:∀ {l:List Int},(∀ x ∈ l,isByte x)->0<=getB l∧getB l<2 ^ (8*l.length)
 | [],_=>by simp [getB]
 | x::l,h=>by
  have h1:=Zmz (l:=l) fun y hy=>h y (ZaB _ hy);have h2:=h x (Zat ..);unfold isByte at h2;have e:(2:Int) ^ (8*(x::l).length)=256*2 ^ (8*l.length):=by
   rw [Z9,show 8*(l.length+1)=8+8*l.length by omega,Int.pow_add];rfl
  rw [e,getB];omega
theorem Zll:∀ (l:List Int) (x:Int),getB (l++[x])=getB l+x*2 ^ (8*l.length)
 | [],x=>by simp [getB]
 | y::l,x=>by
  rw [ZG,getB,Zll,getB,Z9,show 8*(l.length+1)=8+8*l.length by omega,Int.pow_add];rw [show (2:Int) ^ 8=256 by rfl,Int.mul_add,Int.mul_comm x (256*2 ^ (8*l.length)),Int.mul_assoc,Int.mul_comm x];omega
theorem Ztp {n x:Int} {i:Nat} (h0:0<=n) (h1:n<2 ^ (8*i)) (hx0:0<=x) (hx1:x<256) (hi:i<8):bits .or u64 n (IntKind.u64.wrap (x*2 ^ (8*i)))=n+x*2 ^ (8*i):=by
 obtain ⟨N,rfl⟩:∃ N:Nat,n=N:=⟨n.toNat,by omega⟩;obtain ⟨X,rfl⟩:∃ X:Nat,x=X:=⟨x.toNat,by omega⟩;have hN:N<2 ^ (8*i):=by exact_mod_cast h1
 have hX:X<256:=by omega
 have hp:X*2 ^ (8*i)+2 ^ (8*i)<=2 ^ 64:=by
  have h2:2 ^ (8*i)*256<=2 ^ 64:=by
   rw [show (256:Nat)=2 ^ 8 by rfl,<-ZfJ];exact ZiJ (by decide) (by omega)
  have h3:(X+1)*2 ^ (8*i)<=256*2 ^ (8*i):=Zdb _ (by omega);rw [ZcK,Nat.one_mul] at h3;omega
 have e1:(X:Int)*2 ^ (8*i)=((X*2 ^ (8*i):Nat):Int):=by push_cast;rfl
 rw [e1,IntKind.wrap_u64];have e2:((X*2 ^ (8*i):Nat):Int) % 18446744073709551616=((X*2 ^ (8*i):Nat):Int):=by omega
 rw [e2];show IntKind.u64.wrap ((BitVec.ofInt 64 (N:Int) ||| BitVec.ofInt 64 ((X*2 ^ (8*i):Nat):Int)).toNat:Nat)=_;rw [BitVec.toNat_or,Zi1,Zi1,Zi2,Zi2,Zi3 (by omega),Zi3 (by omega),Nat.or_comm,ZfK,<-Nat.two_pow_add_eq_or_of_lt hN,IntKind.wrap_u64,ZfK];omega
section
theorem Zfv (v:Value) (b:List Int) (at' k:Nat) (w:World) (hs:SliceSrc w 1 v b.length (b.map byteV)) (hb:∀ x ∈ b,isByte x) (hk1:1<=k) (hk8:k<=8) (hl:at'+k<=b.length) (hbl:b.length<=1000000) :
  Calls prog 202 #[v,int i64 at',int i64 k] w fun e w'=>e=.returned (.tuple #[int u64 (getB ((b.drop at').take k)),.bool true])∧w=w':=by
 obtain ⟨A,c,rfl,hsrc,_⟩:=hs;obtain ⟨g,o,rfl,hlt0,hc⟩:=ZgA hsrc (by omega);have hk1':(1:Int)<=(k:Int):=by omega
 have hk8':(k:Int)<=8:=by omega
 have h1:decide ((at':Int)<0)=false:=by rw [ZT];omega
 have h2:decide (b.length<at')=false:=by rw [ZT];omega
 have h3:IntKind.i64.wrap ((b.length:Int) - (at':Int))=((b.length - at':Nat):Int):=by rw [Zx];omega
 have h4:decide (b.length - at'<k)=false:=by rw [ZT];omega
 have HC:=Zh hc;clear hc hsrc;go_enter func202,ntmps202;go_wp2_with fail;go_loop [8,35] (fun a8 a35=>∃ i:Nat,i<=k∧a35=int i64 i∧a8=int u64 (getB ((b.drop at').take i))) (fun _ a35=>k - (intOf a35).toNat);case atStart=>exact ⟨0,ZL _,rfl,by simp [getB]⟩
 case round =>
  obtain ⟨i,hi,rfl,rfl⟩:=hrel;by_cases hlt:i<k
  ·obtain ⟨x,hx⟩:∃ x,b[at'+i]?=some x:=⟨_,Zy (by omega)⟩;have hxb:=hb x (ZaG hx);unfold isByte at hxb;have y1:w.cell? ⟨g,o+(at'+i),none⟩=some (int .u8 x):=HC.o (at'+i) _ (by rw [ZcH,hx];rfl);have hx0:=hxb.1;have hx1:=hxb.2;have hi8:(i:Int)<8:=by omega
   have hx':=hx;have hlt8:i<8:=by omega
   clear hx hxb;have hgb:=Zmz (l:=(b.drop at').take i) fun y hy=>hb y (Zda (ZbI hy));have hli:((b.drop at').take i).length=i:=by rw [ZJ,ZW];omega
   rw [hli] at hgb;have hor:=Ztp (i:=i) hgb.1 hgb.2 hx0 hx1 hlt8;have htk:(b.drop at').take (i+1)=(b.drop at').take i++[x]:=by
    rw [Zb9,Zbw,hx'];rfl
   have hnew:getB ((b.drop at').take (i+1))=getB ((b.drop at').take i)+x*2 ^ (8*i):=by rw [htk,Zll,hli]
   have HOR:=Zh (hor.trans hnew.symm);clear hgb hli hor htk hnew hx';go_wp2;go_round;case rel=>exact ⟨i+1,by omega,by go_num,by rw [HOR.o]⟩
   case measure=>simp [intOf]<;>omega
  ·obtain rfl:i=k:=by omega
   go_wp2;go_ret2;exact ⟨rfl,rfl⟩
end
def headB (e:En):List Int:=[72,71,74,69]++putB e.tag 4++putB e.seq 8++putB e.data.length 2++e.data
def Zah (e:En):List Int:=headB e++putB (crcOf (headB e)) 4
def En.okB (e:En):Bool:=decide (1<=e.tag∧e.tag<=1073741824∧1<=e.seq∧e.seq<=1099511627776∧1<=e.data.length∧e.data.length<=90)
theorem ZfS (e:En):(headB e).length=18+e.data.length:=by
 simp [headB,Zb1];omega
theorem ZcM (e:En):(Zah e).length=22+e.data.length:=by
 simp [Zah,ZfS,Zb1];omega
def Rg.val (c:Rg):Value:=.agg #[int i64 c.splay,int i64 c.sets,int i64 c.size]
def Fl.val (f:Fl):Value:=.agg #[int i64 f.set,int i64 f.u0,int i64 f.u1,int i64 f.u2,int i64 f.u3]
def Pl.val (p:Pl):Value:=.agg #[int i64 p.set,int i64 p.obj]
section
theorem Zl9 {c:Rg} {b:Bool} (h:b=true↔((1<=c.splay∧c.splay<=4)∧(4<=c.sets∧c.sets<=8)∧(512<=c.size∧c.size<=4096))):b=c.okB:=by
 rw [Zb8,h,Rg.okB,Zk]
theorem Zgb (c:Rg) (w:World):Calls prog 88 #[c.val] w fun e w'=>e=.returned (.bool c.okB)∧Below w.heap.size w w':=by
 obtain ⟨a,b,c⟩:=c;unfold Rg.val;go_enter func88,ntmps88;go_wp2;all_goals
  go_ret;refine ⟨ret_bool (Zl9 ?_),ZS _ _⟩;simp only [Zk,Zbu,false_iff];omega
theorem Zkt (n:Int) (w:World):Calls prog 173 #[int i64 n] w fun e w'=>e=.returned (int i64 (Zcg n))∧w=w':=by
 have h1:IntKind.i64.wrap (22+max 0 (min n 90))=22+max 0 (min n 90):=by rw [Zx];omega
 go_enter func173,ntmps173;go_wp2_with fail;all_goals
  go_ret;refine ⟨ret_int ?_,rfl⟩;unfold Zcg;first|omega|simp
theorem ZqX (c:Rg) (f:Fl) (w:World):Calls prog 172 #[c.val,f.val] w fun e w'=>e=.returned (.bool (f.okB c))∧Below w.heap.size w w':=by
 obtain ⟨a,b,sz⟩:=c;obtain ⟨s,u0,u1,u2,u3⟩:=f;unfold Rg.val Fl.val;have i0:∀ w:World,(Instr.index 106 (.agg #[int i64 u0,int i64 u1,int i64 u2,int i64 u3]) (int i64 0)).run prog w=.ok (int i64 u0) w:=fun _=>by kernel_rfl
 have i1:∀ w:World,(Instr.index 106 (.agg #[int i64 u0,int i64 u1,int i64 u2,int i64 u3]) (int i64 1)).run prog w=.ok (int i64 u1) w:=fun _=>by kernel_rfl
 have i2:∀ w:World,(Instr.index 106 (.agg #[int i64 u0,int i64 u1,int i64 u2,int i64 u3]) (int i64 2)).run prog w=.ok (int i64 u2) w:=fun _=>by kernel_rfl
 have i3:∀ w:World,(Instr.index 106 (.agg #[int i64 u0,int i64 u1,int i64 u2,int i64 u3]) (int i64 3)).run prog w=.ok (int i64 u3) w:=fun _=>by kernel_rfl
 go_enter func172,ntmps172;go_wp2;go_loopw [9] (fun a9 wr=>∃ i:Nat,a9=int i64 i∧i<=4∧(0<i->0<=u0∧u0<=sz)∧(1<i->0<=u1∧u1<=sz)∧(2<i->0<=u2∧u2<=sz)∧(3<i->0<=u3∧u3<=sz)∧wr=((w.alloc (cells #[int i64 a,int i64 b,int i64 sz] 26)).alloc (cells #[int i64 s,int i64 u0,int i64 u1,int i64 u2,int i64 u3] 108))) (fun a9 _=>4 - (intOf a9).toNat);case atStart=>exact ⟨0,rfl,by omega,by omega,by omega,by omega,by omega,rfl⟩
 case round =>
  obtain ⟨i,rfl,hi,g0,g1,g2,g3,rfl⟩:=hrel;have HG:=Zh (And.intro g0 (And.intro g1 (And.intro g2 g3)));clear g0 g1 g2 g3;have HB:=Zh (show Below w.heap.size w ((w.alloc (cells #[int i64 a,int i64 b,int i64 sz] 26)).alloc (cells #[int i64 s,int i64 u0,int i64 u1,int i64 u2,int i64 u3] 108)) from (ZS _ _).trans ((ZS _ _).mono (by simp)));rcases (show i=0∨i=1∨i=2∨i=3∨i=4 by omega) with rfl|rfl|rfl|rfl|rfl
  ·by_cases b1:u0<0
   ·have d1:decide (u0<0)=true:=Zt b1;go_wp2;go_ret;refine ⟨ret_bool ?_,HB.o⟩;symm;unfold Fl.okB;rw [ZT];simp only;omega
   ·have d1:decide (u0<0)=false:=Zq b1;by_cases b2:sz<u0
    ·have d2:decide (sz<u0)=true:=Zt b2;go_wp2;go_ret;refine ⟨ret_bool ?_,HB.o⟩;symm;unfold Fl.okB;rw [ZT];simp only;omega
    ·have d2:decide (sz<u0)=false:=Zq b2;have HN:=Zh (show 0<=u0∧u0<=sz by omega);clear b1 b2;go_wp2;go_roundw;case rel=>exact ⟨1,by go_num,by omega,fun _=>HN.o,by omega,by omega,by omega,trivial⟩
     case measure=>simp [intOf]<;>omega
  ·by_cases b1:u1<0
   ·have d1:decide (u1<0)=true:=Zt b1;go_wp2;go_ret;refine ⟨ret_bool ?_,HB.o⟩;symm;unfold Fl.okB;rw [ZT];simp only;omega
   ·have d1:decide (u1<0)=false:=Zq b1;by_cases b2:sz<u1
    ·have d2:decide (sz<u1)=true:=Zt b2;go_wp2;go_ret;refine ⟨ret_bool ?_,HB.o⟩;symm;unfold Fl.okB;rw [ZT];simp only;omega
    ·have d2:decide (sz<u1)=false:=Zq b2;have HN:=Zh (show 0<=u1∧u1<=sz by omega);clear b1 b2;go_wp2;go_roundw;case rel=>exact ⟨2,by go_num,by omega,fun _=>HG.o.1 (by omega),fun _=>HN.o,by omega,by omega,trivial⟩
     case measure=>simp [intOf]<;>omega
  ·by_cases b1:u2<0
   ·have d1:decide (u2<0)=true:=Zt b1;go_wp2;go_ret;refine ⟨ret_bool ?_,HB.o⟩;symm;unfold Fl.okB;rw [ZT];simp only;omega
   ·have d1:decide (u2<0)=false:=Zq b1;by_cases b2:sz<u2
    ·have d2:decide (sz<u2)=true:=Zt b2;go_wp2;go_ret;refine ⟨ret_bool ?_,HB.o⟩;symm;unfold Fl.okB;rw [ZT];simp only;omega
    ·have d2:decide (sz<u2)=false:=Zq b2;have HN:=Zh (show 0<=u2∧u2<=sz by omega);clear b1 b2;go_wp2;go_roundw;case rel=>exact ⟨3,by go_num,by omega,fun _=>HG.o.1 (by omega),fun _=>HG.o.2.1 (by omega),fun _=>HN.o,by omega,trivial⟩
     case measure=>simp [intOf]<;>omega
  ·by_cases b1:u3<0
   ·have d1:decide (u3<0)=true:=Zt b1;go_wp2;go_ret;refine ⟨ret_bool ?_,HB.o⟩;symm;unfold Fl.okB;rw [ZT];simp only;omega
   ·have d1:decide (u3<0)=false:=Zq b1;by_cases b2:sz<u3
    ·have d2:decide (sz<u3)=true:=Zt b2;go_wp2;go_ret;refine ⟨ret_bool ?_,HB.o⟩;symm;unfold Fl.okB;rw [ZT];simp only;omega
    ·have d2:decide (sz<u3)=false:=Zq b2;have HN:=Zh (show 0<=u3∧u3<=sz by omega);clear b1 b2;go_wp2;go_roundw;case rel=>exact ⟨4,by go_num,by omega,fun _=>HG.o.1 (by omega),fun _=>HG.o.2.1 (by omega),fun _=>HG.o.2.2.1 (by omega),fun _=>HN.o,trivial⟩
     case measure=>simp [intOf]<;>omega
  ·obtain ⟨g0,g1,g2,g3⟩:=HG.o;have q0:=g0 (by omega);have q1:=g1 (by omega);have q2:=g2 (by omega);have q3:=g3 (by omega);have HQ:=Zh (And.intro q0 (And.intro q1 (And.intro q2 q3)));clear g0 g1 g2 g3 q0 q1 q2 q3;by_cases b1:0<=s
   ·have d1:decide (0<=s)=true:=Zt b1;by_cases b2:s<1073741824
    ·have d2:decide (s<1073741824)=true:=Zt b2;go_wp2;go_ret;refine ⟨ret_bool ?_,HB.o⟩;symm;unfold Fl.okB;rw [Zk];have:=HQ.o;simp only;omega
    ·have d2:decide (s<1073741824)=false:=Zq b2;go_wp2;go_ret;refine ⟨ret_bool ?_,HB.o⟩;symm;unfold Fl.okB;rw [ZT];simp only;omega
   ·have d1:decide (0<=s)=false:=Zq b1;go_wp2;go_ret;refine ⟨ret_bool ?_,HB.o⟩;symm;unfold Fl.okB;rw [ZT];simp only;omega
end
section
theorem Zsh (c:Rg) (p:Pl) (w:World):Calls prog 131 #[c.val,p.val] w fun e w'=>e=.returned (int i64 (rnum c p))∧Below w.heap.size w w':=by
 obtain ⟨a,b,sz⟩:=c;obtain ⟨s,o⟩:=p;have hr:=Zgb ⟨a,b,sz⟩;obtain ⟨ok,hok⟩:∃ ok,Rg.okB ⟨a,b,sz⟩=ok:=⟨_,rfl⟩;rw [hok] at hr;have HOK:=Zh hok;unfold Rg.val at hr |-;unfold Pl.val;have HR:=Zh hr;clear hr hok;have HB0:=Zh (show Below w.heap.size w ((w.alloc (cells #[int i64 a,int i64 b,int i64 sz] 26)).alloc (cells #[int i64 s,int i64 o] 41)) from (ZS _ _).trans ((ZS _ _).mono (by simp)));obtain ⟨w2,hw2⟩:=Zn ((w.alloc (cells #[int i64 a,int i64 b,int i64 sz] 26)).alloc (cells #[int i64 s,int i64 o] 41));have e0:w2.cell? ⟨w.heap.size,0,none⟩=some (int i64 a):=by rw [hw2];simp
 have e1:w2.cell? ⟨w.heap.size,1,none⟩=some (int i64 b):=by rw [hw2];simp
 have e2:w2.cell? ⟨w.heap.size,2,none⟩=some (int i64 sz):=by rw [hw2];simp
 have f0:w2.cell? ⟨w.heap.size+1,0,none⟩=some (int i64 s):=by rw [hw2];simp
 have f1:w2.cell? ⟨w.heap.size+1,1,none⟩=some (int i64 o):=by rw [hw2];simp
 have hsz:w.heap.size+1<w2.heap.size:=by rw [hw2];simp
 have HW:=Zh hw2;clear hw2;go_enter func131,ntmps131;go_upto_region 1 with fail;rw [<-HW.o];rw [<-HW.o] at HB0;go_wp2_with fail;refine (HR.o w2).mono ?_;rintro e w3 ⟨rfl,hb3⟩;have g0:w3.cell? ⟨w.heap.size,0,none⟩=some (int i64 a):=(hb3.cell (by simp;omega)).trans e0;have g1:w3.cell? ⟨w.heap.size,1,none⟩=some (int i64 b):=(hb3.cell (by simp;omega)).trans e1;have h0:w3.cell? ⟨w.heap.size+1,0,none⟩=some (int i64 s):=(hb3.cell (by simp;omega)).trans f0;have h1:w3.cell? ⟨w.heap.size+1,1,none⟩=some (int i64 o):=(hb3.cell (by simp;omega)).trans f1;have HB:=Zh (HB0.o.trans (hb3.mono (by omega)));have HLT:=Zh (ZfC hsz hb3.size);clear e0 e1 e2 f0 f1 hb3;have hlt3:w.heap.size+1<w3.heap.size:=HLT.o;cases ok with
 | false =>
  have HV:Hid (rnum ⟨a,b,sz⟩ ⟨s,o⟩=0):=Zh (by unfold rnum;rw [Zb (.inl HOK.o)]);go_wp2;go_ret;rw [HV.o];exact ⟨rfl,HB.o⟩
 | true =>
  by_cases hbad:s<0∨1073741824<s∨o<0∨a<=o
  ·have HV:Hid (rnum ⟨a,b,sz⟩ ⟨s,o⟩=0):=Zh (by unfold rnum;rw [Zb (.inr hbad)]);by_cases b1:s<0
   ·have d1:decide (s<0)=true:=Zt b1;go_wp2;go_ret;rw [HV.o];exact ⟨rfl,HB.o⟩
   ·have d1:decide (s<0)=false:=Zq b1;by_cases b2:1073741824<s
    ·have d2:decide (1073741824<s)=true:=Zt b2;go_wp2;go_ret;rw [HV.o];exact ⟨rfl,HB.o⟩
    ·have d2:decide (1073741824<s)=false:=Zq b2;by_cases b3:o<0
     ·have d3:decide (o<0)=true:=Zt b3;go_wp2;go_ret;rw [HV.o];exact ⟨rfl,HB.o⟩
     ·have d3:decide (o<0)=false:=Zq b3;have d4:decide (a<=o)=true:=Zt (by omega);go_wp2;go_ret;rw [HV.o];exact ⟨rfl,HB.o⟩
  ·have d1:decide (s<0)=false:=Zq (by omega);have d2:decide (1073741824<s)=false:=Zq (by omega);have d3:decide (o<0)=false:=Zq (by omega);have d4:decide (a<=o)=false:=Zq (by omega);have hk:=HOK.o;unfold Rg.okB at hk;rw [Zk] at hk;simp only at hk;have hb0:¬ b=0:=by omega
   have HV:Hid (rnum ⟨a,b,sz⟩ ⟨s,o⟩=s % b*a+o):=Zh (by unfold rnum;rw [Za (fun q=>q.elim (fun q=>by rw [HOK.o] at q;cases q) hbad)]);have m0:0<=s % b:=ZgO _ hb0;have m1:s % b<b:=ZgP _ (by omega);have hr:Int.tmod s b=s % b:=ZfL (by omega);have m2:0<=s % b*a:=Int.mul_nonneg m0 (by omega);have m3:s % b*a<=8*4:=Int.mul_le_mul (by omega) (by omega) (by omega) (by omega);have hw1:IntKind.i64.wrap (s % b)=s % b:=by rw [Zx];omega
   have hw2:IntKind.i64.wrap (s % b*a)=s % b*a:=by rw [Zx];omega
   have hw3:IntKind.i64.wrap (s % b*a+o)=s % b*a+o:=by rw [Zx];omega
   clear hbad hk;go_upto_region 3 with fail;go_quiet (fail);go_wp2;go_ret;rw [HV.o];exact ⟨rfl,HB.o.trans ⟨rfl,rfl,rfl,ZC _,fun _ _=>rfl⟩⟩
end
end Go.Proofs.YtpjchngjhijgmaaGreat
