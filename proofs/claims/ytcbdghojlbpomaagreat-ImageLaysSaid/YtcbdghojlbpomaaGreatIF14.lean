import Derived.Test.YtcbdghojlbpomaaGreatIF13
import Derived.Laws.BytesArg
import Derived.Lib.SlBytesConst
import Derived.Test.YtcbdghojlbpomaaGreatIF05
import Derived.ProofKit
import Derived.OpenShut
import Derived.Deep.Slices
import Derived.Lib.SmallJoins
import Derived.Deep.Fields
set_option linter.all false
set_option maxRecDepth 4000
set_option maxHeartbeats 8000000
open Go.RowKit
open Go.IntKind (i64 u64)
open Go.Value (int pointer slice)
open Go.Obj (cells)
namespace Go.Proofs.YtcbdghojlbpomaaGreat
structure Rg where
 splay:Int
 sets:Int
 size:Int
 deriving DecidableEq
structure Fl where
 set:Int
 u0:Int
 u1:Int
 u2:Int
 u3:Int
 deriving DecidableEq
structure Pl where
 set:Int
 obj:Int
 deriving DecidableEq
structure En where
 tag:Int
 seq:Int
 data:List Int
structure Cl where
 id:Int
 pos:Int
 off:Bool
 deriving DecidableEq
structure Rc where
 shape:Rg
 first:Int
 set:Int
 tags:List Tag
 cls:List Cl
structure Jn where
 r:Rc
 l:List En
 at_:List Pl
 fill:Fl
 safe:Int
 dead:Bool
def Fl.zero:Fl:=⟨0,0,0,0,0⟩
def Fl.get (f:Fl) (o:Int):Int:=if o=0 then f.u0 else if o=1 then f.u1 else if o=2 then f.u2 else f.u3
def Fl.put (f:Fl) (o x:Int):Fl:=if o=0 then { f with u0:=x } else if o=1 then { f with u1:=x } else if o=2 then { f with u2:=x } else { f with u3:=x }
def Rg.okB (c:Rg):Bool:=decide ((1<=c.splay∧c.splay<=4)∧(4<=c.sets∧c.sets<=8)∧(512<=c.size∧c.size<=4096))
def Fl.okB (c:Rg) (f:Fl):Bool:=decide ((0<=f.u0∧f.u0<=c.size)∧(0<=f.u1∧f.u1<=c.size)∧(0<=f.u2∧f.u2<=c.size)∧(0<=f.u3∧f.u3<=c.size)∧(0<=f.set∧f.set<1073741824))
def Zh3 (n:Int):Int:=22+max 0 (min n 90)
def rput (c:Rg) (f:Fl) (seq n:Int):Fl × Pl × Bool × Bool :=
 if c.okB=false∨f.okB c=false∨seq<1∨1099511627776<seq∨n<1∨90<n then (Fl.zero,⟨0,0⟩,false,false)
 else if c.size<f.get (seq % c.splay)+Zh3 n then
  ((Fl.put ⟨f.set+1,0,0,0,0⟩ (seq % c.splay) (Zh3 n)),⟨f.set+1,seq % c.splay⟩,true,true)
 else (f.put (seq % c.splay) (f.get (seq % c.splay)+Zh3 n),⟨f.set,seq % c.splay⟩,false,true)
def rnum (c:Rg) (p:Pl):Int :=
 if c.okB=false∨p.set<0∨1073741824<p.set∨p.obj<0∨c.splay<=p.obj then 0 else p.set % c.sets*c.splay+p.obj
def tagOf (l:List Tag) (seq:Int):Int:=match l.reverse.find? fun t=>decide (t.at_<seq) with
 | some t=>t.id
 | none=>0
def Zrg (l:List Tag) (end_:Int):List Tag:=l.takeWhile fun t=>decide (t.at_<=end_)
def mayC (id pos:Int):Bool:=decide (1<=id∧id<=1073741824∧0<=pos∧pos<=1099511627776)
def clsGo:List Cl->Int->Bool
 | [],_=>true
 | c::l,last=>mayC c.id c.pos&&decide (last<c.id)&&clsGo l c.id
def Zk5 (l:List Cl):Bool:=clsGo l 0&&decide (l.length<=4)
def ZdX:List Cl->Int->Nat × Bool
 | [],_=>(0,false)
 | c::l,id=>if id<=c.id then (0,decide (c.id=id)) else ((ZdX l id).1+1,(ZdX l id).2)
def addC (l:List Cl) (id pos:Int):List Cl × Int :=
 if Zk5 l=false∨mayC id pos=false then ([],1) else if (ZdX l id).2 then ([],5) else if l.length=4 then ([],6)
 else (l.take (ZdX l id).1++[⟨id,pos,false⟩]++l.drop (ZdX l id).1,0)
def Zc5 (l:List Cl) (id pos:Int):Nat × Int :=
 if Zk5 l=false∨mayC id pos=false then (0,1) else if (ZdX l id).2=false then (0,4) else ((ZdX l id).1,0)
def dropC (l:List Cl) (id:Int):List Cl × Int:=if (Zc5 l id 0).2≠0 then ([],(Zc5 l id 0).2) else (l.eraseIdx (Zc5 l id 0).1,0)
def Zrh (l:List Cl) (id pos:Int):List Cl × Int :=
 if (Zc5 l id pos).2≠0 then ([],(Zc5 l id pos).2) else (l.modify (Zc5 l id pos).1 fun c=>{ c with pos:=max c.pos pos },0)
def turnC (l:List Cl) (id:Int) (off:Bool):List Cl × Int :=
 if (Zc5 l id 0).2≠0 then ([],(Zc5 l id 0).2) else (l.modify (Zc5 l id 0).1 fun c=>{ c with off:=off },0)
def Zly:List Cl->Int × Bool->Int × Bool
 | [],s=>s
 | c::l,s=>Zly l (if c.off then s else if s.2=false∨c.pos<s.1 then (c.pos,true) else s)
def slowC (l:List Cl):Int × Bool:=Zly l (0,false)
section
variable {P : Program} {ops : Array Oper} {md : Region.Mode} {S : World -> Prop}
def Det (P:Program) (ops:Array Oper) (S:World->Prop) (o:Oper) (v:Value) (a:Act):Prop :=
 (Region.wanted o (yielded ops a.tmps)=true∧∀ w,S w->(execOp a.eval o).run P w=.ok (.value v) w ∨
   ∃ f args w1,(execOp a.eval o).run P w=.ok (.enter f args) w1∧Calls P f args w1 (fun e w'=>e=.returned v∧S w')) ∨
 (Region.wanted o (yielded ops a.tmps)=false∧v=undef)
def wpU (P:Program) (md:Region.Mode) (ops:Array Oper) (S:World->Prop) (M:Nat->Bool) (L:Array Bool->Act->Prop):Nat->Array Bool->Act->Prop
 | 0,listed,a=>L listed a
 | f+1,listed,a=>Region.ready md ops listed≠[]∧∀ i ∈ Region.ready md ops listed,M i=true∧∃ o v,ops[i]?=some o∧Det P ops S o v a∧wpU P md ops S M L f (listed.setIfInBounds i true) (a.put o.dst v)
def wpDet (P:Program) (ops:Array Oper) (S:World->Prop) (K:Act->Prop):List Oper->Act->Prop
 | [],a=>K a
 | o::l,a=>∃ v,Det P ops S o v a∧wpDet P ops S K l (a.put o.dst v)
def detB (md:Region.Mode) (l:List Oper) (head tail:List Nat):Bool :=
 Region.noSelect l.toArray&&Zbd md l.toArray head (Array.replicate l.length false) &&
  Zgj md l.toArray (fun t=>head.contains t) head (Array.replicate l.length false)&&tailB md l.toArray tail (Zal head (Array.replicate l.length false)) &&
  decide (head.length+tail.length=l.length)&&tail.all (fun t=>!head.contains t)
def hdB (md:Region.Mode) (l:List Oper) (early one head tail:List Nat):Bool :=
 Region.noSelect l.toArray&&Zbd md l.toArray early (Array.replicate l.length false)&&Zdx md l.toArray one (Zal early (Array.replicate l.length false)) &&
  Zbd md l.toArray head (Zal one (Zal early (Array.replicate l.length false))) &&
  Zgj md l.toArray (fun t=>head.contains t) head (Zal one (Zal early (Array.replicate l.length false))) &&
  tailB md l.toArray tail (Zal head (Zal one (Zal early (Array.replicate l.length false)))) &&
  ((List.range l.length).all fun t=>early.contains t||early.all fun k=>reaches md l.toArray k l.length t) &&
  decide (early.length+(one.length+(head.length+tail.length))=l.length)&&(early.all fun t=>(Zal early (Array.replicate l.length false)).getD t false)&&tail.all (fun t=>!head.contains t)
end
theorem Zdk {w:World} {v:Value} {n:Nat} {xs:List Int} (h:SliceSrc w 1 v n (xs.map byteV)):(convert 32 9 v).run Tryz.prog w=.ok (.string (strOfNums xs)) w:=by
 obtain ⟨A,c,rfl,hsrc,hA⟩:=h;have hl:=hsrc.len;rw [ZE,ZaT] at hl;rcases Zbf n with h0|h0
 ·subst h0;obtain rfl:=ZbZ hl;rw [run_convert_bytes_string w 32 9 _ A 0 c Tryz.underlying32 (by kernel_rfl) Tryz.underlying9];cases A with
  | none=>simp [Conv.bytesToString];rfl
  | some a =>
   have hz:(loadCells a 0).run Tryz.prog w=.ok #[] w:=by
    have:=run_loadCells_list (P:=Tryz.prog) w a [] (fun j v hj=>by simp at hj);simpa using this
   rw [run_bytesToString w a 0 c [] (by simpa using hz)];rfl
 ·obtain ⟨ad,rfl,hc⟩:=hsrc.cells h0;have hl2:(loadCells ad n).run Tryz.prog w=.ok (xs.map (int .u8)).toArray w:=by
   have:=run_loadCells_list (P:=Tryz.prog) w ad (xs.map byteV) (fun j v hj=>hc j v hj);rw [ZE,hl] at this;exact this
  rw [run_convert_bytes_string w 32 9 _ _ n c Tryz.underlying32 (by kernel_rfl) Tryz.underlying9,run_bytesToString w ad n c xs hl2,foldl_push_bytes];simp [strOfNums,ByteArray.empty,ByteArray.emptyWithCapacity];rfl
theorem ZqB (w:World) (cs:Array Value) (xs:List Int) (n:Nat) (f:Nat × Nat) (h1:cs.toList=xs.map byteV) (h2:xs.length=n):SliceSrc (w.alloc (cells cs 5 f)) 1 (slice (some ⟨w.heap.size,0,none⟩) n n) n (xs.map byteV):=by
 refine ⟨_,_,rfl,⟨by simp [h2],fun _=>⟨_,rfl,fun j u hu=>?_⟩,Zac xs⟩,fun e=>by cases e⟩;rw [add_plain,Zar,Zc (Zbh _ _) j,<-hu,<-h1];simp
section
variable {W w : World} {I : Hp} {l : List HP}
end
section
variable {W w : World} {I : Hp} {l : List HP}
theorem St.bytes_append {v v2:Value} {n m:Nat} {xs ys:List Value} (ty:TypeId) (h:St W I w (HP.row 5 1 v n xs::l)) (hs:SliceSrc w 1 v2 m ys) (hb:n+m<=1000000000) :
  ∃ v' w',(Builtin.append_ #[32,32] ty #[v,v2]).run Tryz.prog w=.ok v' w'∧St W I w' (HP.row 5 1 v' (n+m) (xs++ys)::l):=by
 obtain ⟨A,c,rfl,hsrc,hA⟩:=hs;obtain ⟨i0,hi0,hz0,hz1,hz2⟩:=info_parts Zfu;obtain ⟨v',w',hr,ho',hgr,hv'⟩:=Zdf (P:=Tryz.prog) w 0 32 ty 5 i0 _ 1 1 Tryz.underlying32 hi0 hz0 hz1 hz2 rfl (by decide) v n xs h.row_owns A m c ys hsrc hA (by unfold maxLen;omega) (by omega) (ZaY _);exact ⟨v',w',hr,h.row_grown ho' hgr hv'⟩
end
open Go.ChangeShapes Go.WideShapes Go.ChangeAt Go.Deep Go.Joins
set_option maxRecDepth 100000
theorem Zf3 (b o j:Nat):(⟨b,o,none⟩:Addr).add j=⟨b,o+j,none⟩:=by
 unfold Addr.add;split
 ·subst j;rfl
 ·rfl
theorem Zji {w:World} {b o:Nat} {v:Value} (h:w.cell? ⟨b,o,none⟩=some v):∃ cs t f,w.heap[b]?=some (cells cs t f)∧cs[o]?=some v:=by
 unfold World.cell? at h;simp only at h;split at h
 ·rename_i cs t f hb;simp only [ZdJ,ZaS,Zau] at h;exact ⟨cs,t,f,hb,h⟩
 ·cases h
section
variable {H : Type} {enc : TypeId × Value -> H} {P : Program} {w : World} {base : Nat} {spare : Nat -> Bool} {held : Bool}
theorem ZkM {t e:TypeId} {k:Nat} (ht:P.underlying t=some (.slice e)) (hk:P.cellsOf e=k) (h0:0<k) {v:Value} {d:DataW H} {p:List MemPlace} (h:DataW.Trod enc P w base spare held t v d p) (hs:∃ A n c,v=slice A n c) :
  ∃ A n c,v=slice A n c∧n<=c∧c<=maxLen∧(A=none->n=0∧c=0)∧(0<n->∃ b off,A=some ⟨b,off,none⟩∧b<w.heap.size∧∀ i,i<n->∃ cs fuel x,DataW.trod enc P w base spare held fuel e cs=some x∧cs.length=k∧∀ j,j<k->w.cell? ⟨b,off+(i*k+j),none⟩=cs[j]?):=by
 obtain ⟨A,n,c,rfl⟩:=hs;obtain ⟨fuel,hf⟩:=h;rcases open_slice ht hf with ⟨hcs,_⟩|⟨a,len,cap,m,n',D,Pl,hcs,_,hl,hm,hmm,_,hi⟩
 ·simp [Value.cells] at hcs;obtain ⟨rfl,rfl,rfl⟩:=hcs;exact ⟨none,0,0,rfl,Z9 _,ZaY _,fun _=>⟨rfl,rfl⟩,fun h=>absurd h (by omega)⟩
 ·simp [Value.cells] at hcs;obtain ⟨rfl,rfl,rfl⟩:=hcs;rw [hk] at hi;have hlm:n<=m:=by rw [hmm];split <;> omega
  refine ⟨some a,n,c,rfl,hl,hm,fun e=>by (cases e),fun hn=>?_⟩;have key:∀ i,i<n->∃ cs fuel x,DataW.trod enc P w base spare held fuel e cs=some x∧cs.length=k∧∀ j,j<k->w.cell? ((a.add (i*k)).add j)=cs[j]?:=fun i hin=>by
   obtain ⟨cs',hc,ht⟩:=hi i (by omega);obtain ⟨_,hcl,hat⟩:=World.cells?_some hc;exact ⟨cs',n',_,ht,hcl,hat⟩
  obtain ⟨b,off,spot⟩:=a;have hspot:spot=none:=by
   obtain ⟨cs,_,_,_,hcl,hat⟩:=key 0 hn;have h1:=hat 0 h0;rw [ZL (by omega)] at h1;simpa [Addr.add] using World.cell?_spot h1
  subst hspot;refine ⟨b,off,rfl,?_,fun i hin=>?_⟩
  ·obtain ⟨cs,_,_,_,hcl,hat⟩:=key 0 hn;have h1:=hat 0 h0;rw [Zf3,Zf3,ZL (by omega)] at h1;exact Zh8 w _ h1
  ·obtain ⟨cs,fuel,x,h1,h2,h3⟩:=key i hin;refine ⟨cs,fuel,x,h1,h2,fun j hj=>?_⟩;rw [<-h3 j hj,Zf3,Zf3,Zb3]
theorem ZqV {α:Type} (mk:α->Value) (ok:α->Prop) {t e:TypeId} (ht:P.underlying t=some (.slice e)) (hk:P.cellsOf e=1)
  (hel:∀ fuel c x,DataW.trod enc P w base spare held fuel e [c]=some x->∃ a,c=mk a∧ok a) [Nonempty α]
  {v:Value} {d:DataW H} {p:List MemPlace} (h:DataW.Trod enc P w base spare held t v d p) (hs:∃ A n c,v=slice A n c) :
  ∃ l:List α,RowI w.hp 1 v l.length (l.map mk)∧(∀ a ∈ l,ok a)∧l.length<=maxLen:=by
 obtain ⟨A,n,c,rfl,hnc,hcm,hA,hcells⟩:=ZkM ht hk (by omega) h hs;rcases Zbf n with rfl|hn
 ·exact ⟨[],⟨A,c,rfl,rfl,by simp,hcm,fun e=>(hA e).2,fun h=>absurd h (by simp)⟩,fun a ha=>by (cases ha),by simp⟩
 ·obtain ⟨b,off,rfl,hb,hc⟩:=hcells hn;have key:∀ i,∃ a,i<n->ok a∧w.cell? ⟨b,off+i,none⟩=some (mk a):=fun i=>by
   by_cases hin:i<n
   ·obtain ⟨cs,fuel,x,h1,h2,h3⟩:=hc i hin
    match cs,h2 with
    | [c0],_ =>
     obtain ⟨a,rfl,ha⟩:=hel fuel c0 x h1;have:=h3 0 (by omega);rw [ZaT,Zbg] at this;exact ⟨a,fun _=>⟨ha,this⟩⟩
   ·exact ⟨Classical.choice inferInstance,fun h=>absurd h hin⟩
  obtain ⟨f,key⟩:∃ f:Nat->α,∀ i,i<n->ok (f i)∧w.cell? ⟨b,off+i,none⟩=some (mk (f i)):=⟨fun i=>Classical.choose (key i),fun i=>Classical.choose_spec (key i)⟩;obtain ⟨cs,t',f',hblk,_⟩:=Zji (key 0 hn).2;refine ⟨(List.range n).map f,⟨_,c,by simp,by simp,by simpa using hnc,hcm,(fun e=>by cases e),fun _=>⟨b,off,cs,t',f',rfl,hblk,fun i x hi=>?_⟩⟩,fun a ha=>?_,by simp;omega⟩
  ·rw [ZdD,ZaN] at hi;cases hr:(List.range n)[i]? with
   | none=>rw [hr] at hi;cases hi
   | some q =>
    obtain ⟨hq,hq'⟩:=ZS.1 hr;simp at hq hq';subst hq';rw [hr] at hi;simp only [Zbb,Zah,Function.comp] at hi;subst hi;have h4:=(key i hq).2;unfold World.cell? at h4;simpa [hblk] using h4
  ·obtain ⟨i,hi,rfl⟩:=ZH.1 ha;exact (key i (Za8.1 hi)).1
end
def isByte (x:Int):Prop:=0<=x∧x<256
def isInt (x:Int):Prop:=-9223372036854775808<=x∧x<=9223372036854775807
def boolV (b:Bool):Value:=.bool b
section
variable {H : Type} {enc : TypeId × Value -> H} {w : World} {base : Nat} {spare : Nat -> Bool} {held : Bool}
theorem ZqC (fuel:Nat) (c:Value) (x:DataW H × List MemPlace) (h:DataW.trod enc Tryz.prog w base spare held fuel 5 [c]=some x):∃ a,c=byteV a∧isByte a:=by
 obtain ⟨m,hm,_,hw⟩:=DataW.trod_int Tryz.underlying5 h;refine ⟨m,by simpa [byteV] using hm,?_⟩;have:=hw;simp [Lit.wf,IntKind.min,IntKind.max,IntKind.signed,IntKind.bits] at this;unfold isByte;omega
theorem ZpT:Tryz.prog.cellsOf 5=1:=by kernel_rfl
theorem Zhp:Tryz.prog.cellsOf 3=1:=by kernel_rfl
theorem ZmF:Tryz.prog.cellsOf 32=1:=by kernel_rfl
variable {r : Reach} {b0 : Nat} {v : Value} {d : DataW H} {p : List MemPlace}
def RowsI (I:Hp) (v:Value) (l:List (List Int)):Prop:=∃ vs:List Value,vs.length=l.length∧RowI I 1 v l.length vs∧(∀ (i:Nat) x q,vs[i]?=some x->l[i]?=some q->Zw I x q)∧∀ q ∈ l,(∀ x ∈ q,isByte x)∧q.length<=maxLen
theorem ZpU (fuel:Nat) (c:Value) (x:DataW H × List MemPlace) (h:DataW.trod enc Tryz.prog w base spare held fuel 32 [c]=some x):∃ a:Value × List Int,c=a.1∧(Zw w.hp a.1 a.2∧(∀ x ∈ a.2,isByte x)∧a.2.length<=maxLen):=by
 have hs:∃ A n c',c=slice A n c':=by
  rcases open_slice Tryz.underlying32 h with ⟨hcs,_⟩|⟨a,len,cap,m,n',D,Pl,hcs,_⟩
  ·exact ⟨none,0,0,by simpa using hcs⟩
  ·exact ⟨some a,len,cap,by simpa using hcs⟩
 have hT:DataW.Trod enc Tryz.prog w base spare held 32 c x.1 x.2:=by
  obtain ⟨A,n,c',rfl⟩:=hs;exact ⟨fuel,by simpa [Value.cells] using h⟩
 obtain ⟨q,h1,h2,h3⟩:=ZqV byteV isByte Tryz.underlying32 ZpT ZqC hT hs;exact ⟨(c,q),rfl,h1,h2,h3⟩
end
def isU32 (x:Int):Prop:=0<=x∧x<4294967296
def ZdA (c:Int):Int:=if c % 2=1 then bits .xor .u32 (c / 2) 2197175160 else c / 2
def crcN:Nat->Int->Int
 | 0,c=>c
 | n+1,c=>ZdA (crcN n c)
def ZcL (c b:Int):Int:=crcN 8 (bits .xor .u32 c b)
theorem Zf7 (x:Int):IntKind.u32.wrap x=x % 4294967296:=by
 unfold IntKind.wrap;first|rfl|simp [IntKind.bits,IntKind.signed]|(simp only [IntKind.signed,IntKind.size];rfl)
theorem u32_xor (a b:Int):isU32 (bits .xor .u32 a b):=by
 have e:bits .xor .u32 a b=IntKind.u32.wrap ((BitVec.ofInt 32 a ^^^ BitVec.ofInt 32 b).toNat:Nat):=rfl;rw [e,Zf7];unfold isU32;omega
theorem ZpV (n:Int):bits .and .u32 n 1=n % 2:=by
 show IntKind.u32.wrap ((BitVec.ofInt 32 n &&& BitVec.ofInt 32 ((1:Nat):Int)).toNat:Nat)=n % 2;rw [BitVec.toNat_and,BitVec.toNat_ofInt,show (BitVec.ofInt 32 ((1:Nat):Int)).toNat=2 ^ 1 - 1 by decide,ZlA,Zf7];omega
theorem Znt {c:Int} (h:isU32 c):isU32 (ZdA c):=by
 unfold ZdA;split
 ·exact u32_xor _ _
 ·unfold isU32 at *;omega
theorem ZkN {c:Int} (h:isU32 c):∀ n,isU32 (crcN n c)
 | 0=>h
 | n+1=>Znt (ZkN h n)
section
theorem ZpW (c b:Int) (w:World) (hb:0<=b∧b<256):Calls Tryz.prog 252 #[int .u32 c,int .u8 b] w fun e w'=>e=.returned (int .u32 (ZcL c b))∧w=w':=by
 have hw:IntKind.u32.wrap b=b:=by rw [Zf7];omega
 obtain ⟨x,hx⟩:∃ x,bits .xor .u32 c b=x:=⟨_,rfl⟩;have hxu:isU32 x:=by rw [<-hx];exact u32_xor _ _
 have HXU:=Zh hxu;have HX:=Zh hx;clear hxu;go_enter Tryz.func252,Tryz.ntmps252;go_wp2;go_loopw [0,5,10] (fun a0 a5 a10 wr=>∃ i:Nat,a10=int i64 i∧i<=8∧a0=int .u32 (crcN i x)∧wr=w) (fun _ _ a10 _=>8 - (intOf a10).toNat);case atStart=>exact ⟨0,rfl,by omega,rfl,rfl⟩
 case round =>
  obtain ⟨i,rfl,hi,rfl,rfl⟩:=hrel;by_cases hlt:i<8
  ·have d0:decide ((i:Int)<8)=true:=by rw [Ze];omega
   obtain ⟨y,hy⟩:∃ y,crcN i x=y:=⟨_,rfl⟩;have hyu:isU32 y:=by rw [<-hy];exact ZkN HXU.o i
   have hand:=ZpV y;have hsh:IntKind.u32.wrap (y / 2)=y / 2:=by rw [Zf7];unfold isU32 at hyu;omega
   have HN:=Zh (show crcN (i+1) x=ZdA y by rw [<-hy];rfl);rw [hy];by_cases h2:y % 2=1
   ·have HB:=Zh (show ZdA y=bits .xor .u32 (y / 2) 2197175160 by unfold ZdA;rw [Zb h2]);have d2:decide (y % 2=1)=true:=Zcb h2;clear hy hyu;go_wp2;go_roundw;case rel=>exact ⟨i+1,by go_num,by omega,by rw [HN.o,HB.o],trivial⟩
    case measure=>simp [intOf]<;>omega
   ·have HB:=Zh (show ZdA y=y / 2 by unfold ZdA;rw [Za h2]);have d2:decide (y % 2=1)=false:=ZbH h2;clear hy hyu;go_wp2;go_roundw;case rel=>exact ⟨i+1,by go_num,by omega,by rw [HN.o,HB.o],trivial⟩
    case measure=>simp [intOf]<;>omega
  ·obtain rfl:i=8:=by omega
   go_wp2;go_ret;rw [show ZcL c b=crcN 8 x by unfold ZcL;rw [HX.o]];exact ⟨rfl,rfl⟩
def crcOf (b:List Int):Int:=bits .xor .u32 4294967295 (b.foldl ZcL 4294967295)
theorem Zlp (v:Value) (b:List Int) (w:World) (hs:SliceSrc w 1 v b.length (b.map byteV)) (hb:∀ x ∈ b,isByte x) (hl:b.length<=1000000) :
  Calls Tryz.prog 236 #[v] w fun e w'=>e=.returned (int .u32 (crcOf b))∧w=w':=by
 obtain ⟨A,c,rfl,hsrc,hA⟩:=hs;have HSRC:=Zh hsrc;have HB:=Zh hb;clear hsrc hb;go_enter Tryz.func236,Tryz.ntmps236;go_wp2;go_loopw [3,5,8] (fun a3 a5 a8 wr=>∃ i:Nat,a8=int i64 i∧i<=b.length∧a3=int .u32 ((b.take i).foldl ZcL 4294967295)∧wr=w) (fun _ _ a8 _=>b.length - (intOf a8).toNat);case atStart=>exact ⟨0,rfl,by omega,rfl,rfl⟩
 case round =>
  obtain ⟨i,rfl,hi,rfl,rfl⟩:=hrel;by_cases hlt:i<b.length
  ·have d0:decide ((i:Int)<(b.length:Int))=true:=by rw [Ze];omega
   obtain ⟨x,hx⟩:∃ x,b[i]?=some x:=⟨_,ZL hlt⟩;have hbx:=HB.o x (Zay hx);obtain ⟨ad,rfl,hc⟩:=HSRC.o.cells (by omega);have hc0:=hc i (byteV x) (by rw [ZaN,hx];rfl)
   have HN:=Zh (show (b.take (i+1)).foldl ZcL 4294967295=ZcL ((b.take i).foldl ZcL 4294967295) x by
    obtain ⟨hil,he⟩:=ZS.1 hx
    rw [ZbG hil,List.foldl_append,he];rfl)
   have HCN:=Zh (ZpW ((b.take i).foldl ZcL 4294967295) x wr (by unfold isByte at hbx;omega));unfold byteV at hc0;clear hx hbx hc;obtain ⟨gb,goff,gp⟩:=ad;obtain ⟨y,hy⟩:∃ y,(b.take i).foldl ZcL 4294967295=y:=⟨_,rfl⟩;rw [hy] at HCN HN |-;clear hy;go_wp2_with fail;refine HCN.o.mono ?_;rintro e w2 ⟨rfl,rfl⟩;go_wp2;go_roundw;case rel=>exact ⟨i+1,by go_num,by omega,by rw [HN.o],trivial⟩
   case measure=>simp [intOf]<;>omega
  ·obtain rfl:i=b.length:=by omega
   have d0:decide (((b.length:Nat):Int)<(b.length:Int))=false:=by rw [Zk];omega
   rw [Zbk];go_wp2;go_ret;exact ⟨rfl,rfl⟩
end
theorem Zer {w:World} {A:Option Addr} {n:Nat} {xs:List Value} (h:SrcAt w 1 A n xs) (hn:0<n):∃ b off,A=some ⟨b,off,none⟩∧b<w.heap.size∧∀ j u,xs[j]?=some u->w.cell? ⟨b,off+j,none⟩=some u:=by
 obtain ⟨ad,rfl,hc⟩:=h.cells hn;have hl:=h.len;obtain ⟨u0,hu0⟩:∃ u,xs[0]?=some u:=⟨_,ZL (by omega)⟩;have h0:=hc 0 u0 hu0;obtain ⟨b,off,spot⟩:=ad;have hspot:spot=none:=by simpa [Addr.add] using World.cell?_spot h0
 subst hspot;refine ⟨b,off,rfl,?_,fun j u hu=>?_⟩
 ·rw [add_plain] at h0;exact Zh8 w _ h0
 ·have:=hc j u hu;rwa [add_plain] at this
def putB (n:Int) (k:Nat):List Int:=(List.range k).map fun i=>n / 2 ^ (8*i) % 256
theorem ZoP (n:Int) (k:Nat):putB n (k+1)=putB n k++[n / 2 ^ (8*k) % 256]:=by
 unfold putB;rw [List.range_succ,Z4];rfl
theorem Zfy (n:Int) (k:Nat):(putB n k).length=k:=by simp [putB]
def getB:List Int->Int
 | []=>0
 | x::l=>x+256*getB l
section
variable {W w : World} {I : Hp} {l : List HP}
theorem St.pt_new {b:Nat} {o:Obj} (h:St W I w (HP.pt b o::l)):W.heap.size<=b:=by
 obtain ⟨k,a,d,h1,h2,_,a',_,p,_⟩:=h.own;rcases Nat.lt_or_ge b W.heap.size with hlt|hge
 ·have e:W.hp b=some W.heap[b]:=Zfh hlt;have h3:=h.base _ _ e;rcases d b with q|q
  ·rw [h3] at q;cases q
  ·rw [a' _ _ (show h1 b=some o from p)] at q;cases q
 ·exact hge
theorem St.row_new {e:TypeId} {size:Nat} {v:Value} {n:Nat} {xs:List Value} (h:St W I w (HP.row e size v n xs::l)):w.ownsRow W.heap.size e size v n xs:=by
 obtain ⟨hl,⟨p1,p2,_⟩|⟨g,cap,cur,p1,p3,p4,p5,p6,s⟩⟩:=h.row_open
 ·exact ⟨hl,.inl ⟨p1,p2⟩⟩
 ·exact ⟨hl,.inr ⟨g,cap,cur,p1,s.pt_new,s.heap,p3,p4,p5,p6⟩⟩
theorem ZhH (w:World) (x:Int):SliceSrc (w.alloc (cells #[int .u8 x] 5)) 1 (slice (some ⟨w.heap.size,0,none⟩) 1 1) 1 [int .u8 x]:=by
 refine ⟨_,_,rfl,⟨rfl,fun _=>⟨_,rfl,fun j u hu=>?_⟩,fun u hu=>by (rw [Zaz.1 hu];rfl)⟩,fun e=>by cases e⟩;rw [add_plain,Zar,Zc (Zbh _ _) j,<-hu];simp
theorem ZkO (v:Value) (b:List Int) (n:Int) (k:Nat) (w:World) (hs:SliceSrc w 1 v b.length (b.map byteV)) (hn0:0<=n) (hn:n<18446744073709551616) (hk1:1<=k) (hk8:k<=8) (hbl:b.length<=1000000) :
  Calls Tryz.prog 178 #[v,int u64 n,int i64 k] w fun e w'=>∃ v',e=.returned v'∧Below w.heap.size w w'∧w'.ownsRow w.heap.size 5 1 v' (b++putB n k).length ((b++putB n k).map byteV):=by
 have hk1':(1:Int)<=(k:Int):=by omega
 have hk8':(k:Int)<=8:=by omega
 go_enter Tryz.func178,Tryz.ntmps178;go_wp2_with fail;refine (Za4 v b.length (b.map byteV) w hs hbl).mono ?_;rintro e w1 ⟨v1,rfl,ho1,hb1⟩;have h1:St w w.hp w1 (HP.row 5 1 v1 b.length (b.map byteV)::[]):=(St.init w).row_fresh hb1 ho1;obtain ⟨A1,c1,rfl⟩:=ZD ho1;have H1:=Zh h1;clear h1 ho1 hb1;go_wp2;go_loopw [7,19] (fun a7 a19 wr=>∃ (i:Nat) (A:Option Addr) (c:Nat),a19=int i64 i∧a7=slice A (b++putB n i).length c∧i<=k∧St w w.hp wr (HP.row 5 1 (slice A (b++putB n i).length c) (b++putB n i).length ((b++putB n i).map byteV)::[])) (fun _ a19 _=>k - (intOf a19).toNat);case atStart=>exact ⟨0,A1,c1,rfl,by simp [putB],ZaY _,by simpa [putB] using H1.o⟩
 case round =>
  obtain ⟨i,A,c,rfl,rfl,hi,hst⟩:=hrel;by_cases hlt:i<k
  ·have hp:=ZoP n i;have hst2:=hst.keep (ZM wr (cells #[int .u8 (n / 2 ^ (8*i) % 256)] 5));have hle:(b++putB n i).length+1<=1000000000:=by rw [ZA,Zfy];omega
   obtain ⟨v',w',hr,h2⟩:=St.bytes_append 32 hst2 (ZhH wr (n / 2 ^ (8*i) % 256)) hle;obtain ⟨A',c',rfl⟩:=ZD h2.row_owns;have e2:(b++putB n i).length+1=(b++putB n (i+1)).length:=by rw [hp];simp [Zb3]
   have e3:(b++putB n i).map byteV++[int .u8 (n / 2 ^ (8*i) % 256)]=(b++putB n (i+1)).map byteV:=by rw [hp,<-Zam,Z4 (l₂:=[n / 2 ^ (8*i) % 256])];rfl
   rw [e3,e2] at h2;rw [e2] at hr;have HR:=Zh hr;have H2:=Zh h2;clear hst hst2 hr h2 hp e2 e3 hle;go_wp2_with (at_builtin;refine Zax _ rfl (.tmp 22) (.tmp 28) 32 32 rfl _ _ rfl rfl _ _ HR.o ?_);go_roundw;case rel=>exact ⟨i+1,A',c',by go_num,by rw [ZA],by omega,H2.o⟩
   case measure=>simp [intOf]<;>omega
  ·obtain rfl:i=k:=by omega
   have HST:=Zh hst;clear hst;go_wp2;go_ret;refine ⟨_,rfl,HST.o.below,?_⟩;exact HST.o.row_new
end
def getAt (b:List Int) (at' k:Int):Int × Bool :=
 if k<1∨8<k∨at'<0∨(b.length:Int)<at'∨(b.length:Int) - at'<k then (0,false) else (getB ((b.drop at'.toNat).take k.toNat),true)
section
variable {W w : World} {I : Hp} {l : List HP}
end
end Go.Proofs.YtcbdghojlbpomaaGreat
