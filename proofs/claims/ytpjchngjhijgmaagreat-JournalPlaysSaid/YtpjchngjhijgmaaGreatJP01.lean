import Derived.Laws.OwnMore
import Derived.Deep.Draws
import Derived.Test.YtpjchngjhijgmaaGreatProg
import Derived.WalkKit
import Derived.WalkSpells
import Derived.WalkLawsBesides
import Derived.Deep.RegionWith
import Derived.Test.YtpjchngjhijgmaaGreatJP00
set_option linter.all false
set_option maxRecDepth 4000
set_option maxHeartbeats 8000000
open Go.RowKit
open Go.IntKind (i64 u64)
open Go.Value (int pointer slice)
open Go.Obj (cells)
namespace Go.Proofs.YtpjchngjhijgmaaGreat
structure Tag where
 id:Int
 own:Int
 heir:Int
 at_:Int
def Tag.val (t:Tag):Value:=.agg #[int i64 t.id,int i64 t.own,int i64 t.heir,int i64 t.at_]
def Tag.vals (t:Tag):List Value:=[int i64 t.id,int i64 t.own,int i64 t.heir,int i64 t.at_]
def TagsAt (w:World) (A:Option Addr) (n:Nat) (l:List Tag):Prop :=
 l.length=n∧(0<n->∃ b off,A=some ⟨b,off,none⟩∧b<w.heap.size∧∀ i t,l[i]?=some t ->
  w.cell? ⟨b,off+i*4,none⟩=some (int i64 t.id)∧w.cell? ⟨b,off+i*4+1,none⟩=some (int i64 t.own) ∧
  w.cell? ⟨b,off+i*4+2,none⟩=some (int i64 t.heir)∧w.cell? ⟨b,off+i*4+3,none⟩=some (int i64 t.at_))
theorem TagsAt.len {w:World} {A:Option Addr} {n:Nat} {l:List Tag} (h:TagsAt w A n l):l.length=n:=h.1
theorem TagsAt.below {w w':World} {A:Option Addr} {n:Nat} {l:List Tag} {B:Nat} (h:TagsAt w A n l) (hb:Below B w w') (hB:w.heap.size<=B):TagsAt w' A n l :=
 ⟨h.1,fun hn=>by
  obtain ⟨b,off,e,hlt,hc⟩:=h.2 hn;refine ⟨b,off,e,ZfC hlt hb.size,fun i t hi=>?_⟩;obtain ⟨c0,c1,c2,c3⟩:=hc i t hi;have k:∀ o,w'.cell? ⟨b,o,none⟩=w.cell? ⟨b,o,none⟩:=fun o=>hb.cell (p:=⟨b,o,none⟩) (by simp;omega)
  exact ⟨(k _).trans c0,(k _).trans c1,(k _).trans c2,(k _).trans c3⟩⟩
theorem TagsAt.take {w:World} {A:Option Addr} {n:Nat} {l:List Tag} (h:TagsAt w A n l) {k:Nat} (hk:k<=n):TagsAt w A k (l.take k) :=
 ⟨by rw [ZJ,h.1];omega,fun hn=>by
  obtain ⟨b,off,e,hlt,hc⟩:=h.2 (by omega);refine ⟨b,off,e,hlt,fun i t hi=>hc i t ?_⟩;rw [ZcG] at hi;split at hi
  ·exact hi
  ·cases hi⟩
theorem TagsAt.at_ {w:World} {A:Option Addr} {n:Nat} {l:List Tag} (h:TagsAt w A n l) {k:Nat} (hk:k<n) :
  ∃ b off t,A=some ⟨b,off,none⟩∧b<w.heap.size∧l[k]?=some t ∧
  w.cell? ⟨b,off+k*4,none⟩=some (int i64 t.id)∧w.cell? ⟨b,off+k*4+1,none⟩=some (int i64 t.own) ∧
  w.cell? ⟨b,off+k*4+2,none⟩=some (int i64 t.heir)∧w.cell? ⟨b,off+k*4+3,none⟩=some (int i64 t.at_):=by
 obtain ⟨b,off,e,hlt,hc⟩:=h.2 (by omega);have hl:k<l.length:=by have:=h.1;omega
 exact ⟨b,off,l[k],e,hlt,Zy hl,hc k _ (Zy hl)⟩
def noDup (t:Tag) (l:List Tag):Bool:=l.all fun x=>x.id != t.id
def Zbf (l:List Tag):Int:=(l.getLast?.map Tag.at_).getD 0
theorem ZfU (l:List Tag) (t:Tag):Zbf (l++[t])=t.at_:=by simp [Zbf]
theorem Zpa (t x:Tag) (l:List Tag):noDup t (l++[x])=(noDup t l&&(x.id != t.id)):=by simp [noDup]
theorem Zee {α:Type} {l:List α} {k:Nat} {t:α} (h:l[k]?=some t):l.take (k+1)=l.take k++[t]:=by
 obtain ⟨hk,he⟩:=ZH.1 h;rw [Zc8 hk,he]
def Zcn (t:Tag) (n:Nat) (at_:Int):Prop :=
 ¬ (n=0∧t.at_≠0)∧¬ t.at_<at_∧t.at_<=1099511627776∧1<=t.id∧t.id<=1073741824∧0<=t.own∧t.own<=2 ∧
 (0<t.own->t.heir=0)∧(¬ 0<t.own->1<=t.heir∧t.heir<=2)
instance (t:Tag) (n:Nat) (a:Int):Decidable (Zcn t n a):=by unfold Zcn;infer_instance
def tagOk (t:Tag) (l:List Tag):Bool:=noDup t l&&decide (Zcn t l.length (Zbf l))
theorem Zk7 {t x:Tag} {l:List Tag} {k:Nat} (hx:l[k]?=some x) (h:(x.id==t.id)=true):tagOk t l=false:=by
 have hm:x ∈ l:=ZaG hx;have:noDup t l=false:=by
  rw [noDup,ZiM];exact ⟨x,hm,by simpa using h⟩
 simp [tagOk,this]
theorem Zpb {t:Tag} {l:List Tag} {k n:Nat} (hl:l.length=n) (hk:k<=n) (hn:¬ k<n) (h:noDup t (l.take k)=true) {b:Bool}
  (hb:b=true↔Zcn t n (Zbf (l.take k))):b=tagOk t l:=by
 obtain rfl:k=n:=by omega
 rw [Zba (by omega)] at h hb;rw [tagOk,h,hl,ZgF,Zb8,hb,Zk]
theorem Zkg {t x:Tag} {l:List Tag} {k:Nat} (hx:l[k]?=some x) (h:(x.id==t.id)=false) (hd:noDup t (l.take k)=true):noDup t (l.take (k+1))=true:=by
 rw [Zee hx,Zpa,hd];simpa using h
theorem Zhf {x:Tag} {l:List Tag} {k:Nat} (hx:l[k]?=some x):Zbf (l.take (k+1))=x.at_:=by
 rw [Zee hx,ZfU]
def ZaA (l:List Tag):Nat->Bool
 | 0=>true
 | k+1=>ZaA l k&&(match l[k]? with|some t=>tagOk t (l.take k)|none=>true)
def Z3 (l:List Tag):Bool:=decide (1<=l.length∧l.length<=32)&&ZaA l l.length
theorem Zed {l:List Tag} {k:Nat} {t:Tag} (ht:l[k]?=some t) (h:ZaA l k=true):ZaA l (k+1)=tagOk t (l.take k):=by
 simp [ZaA,h,ht]
theorem Zhg {l:List Tag} {k:Nat} (h:ZaA l k=false) (j:Nat):ZaA l (k+j)=false:=by
 induction j with
 | zero=>exact h
 | succ j ih=>rw [Nat.add_succ,ZaA,ih,Bool.false_and]
theorem Zf7 {l:List Tag} {k n:Nat} {t:Tag} (hl:l.length=n) (hk:k<n) (ht:l[k]?=some t) (h:ZaA l k=true) (hf:tagOk t (l.take k)=false):Z3 l=false:=by
 have h1:=Zhg (l:=l) (k:=k+1) (by rw [Zed ht h,hf]) (n - (k+1));rw [Z3,hl,show n=k+1+(n - (k+1)) by omega,h1,ZfD]
def ZbY (l:List Tag):Int:=l.foldl (fun n t=>max n t.id) 0
def ZcP (l:List Tag):Bool:=l.any fun t=>decide (1073741824<t.id)
def Zen (n s:Int):Int:=if (decide (n % 2=1))=(decide (s=1)) then n else n+1
def nextId (l:List Tag) (s:Int):Int:=if ZcP l then 0 else Zen (ZbY l+1) s
theorem ZjC (l:List Tag) (t:Tag):ZbY (l++[t])=max (ZbY l) t.id:=by simp [ZbY]
theorem ZjD (l:List Tag) (t:Tag):ZcP (l++[t])=(ZcP l||decide (1073741824<t.id)):=by simp [ZcP]
theorem Zob {l:List Tag} {k:Nat} {t:Tag} (h:l[k]?=some t):ZbY (l.take (k+1))=if ZbY (l.take k)<t.id then t.id else ZbY (l.take k):=by
 rw [Zee h,ZjC];omega
theorem Zoc {l:List Tag} {k:Nat} {t:Tag} (h:l[k]?=some t) (hf:ZcP (l.take k)=false):ZcP (l.take (k+1))=decide (1073741824<t.id):=by
 rw [Zee h,ZjD,hf,Bool.false_or]
theorem Zqs {l:List Tag} {k:Nat} {t:Tag} (h:l[k]?=some t) (hf:1073741824<t.id):ZcP l=true:=by
 rw [ZcP,List.any_eq_true];exact ⟨t,ZaG h,by simpa using hf⟩
theorem Zod {l:List Tag} {k:Nat} {t:Tag} (h:l[k]?=some t) (hf:1073741824<t.id) (s:Int):0=nextId l s:=by
 rw [nextId,Zqs h hf];rfl
theorem Zkh {l:List Tag} {k n:Nat} (hl:l.length=n) (hk:k<=n) (hn:¬ k<n) (hf:ZcP (l.take k)=false) {m r:Int} (hm:m=ZbY (l.take k)) {s:Int} (hr:r=Zen (m+1) s):r=nextId l s:=by
 obtain rfl:k=n:=by omega
 rw [Zba (by omega)] at hf hm;rw [nextId,hf,hr,hm];rfl
theorem ZnK {n s:Int} (h:((n % 2==1)==(s==1))=false):n+1=Zen n s:=by
 rw [Zen,Za];rw [Zes] at h;exact h
theorem ZnL {n s:Int} (h:((n % 2==1)==(s==1))=true):n=Zen n s:=by
 rw [Zen,Zb];rw [ZfB] at h;exact h
def Tag.same (a b:Tag):Bool:=a.id==b.id&&a.own==b.own&&a.heir==b.heir&&a.at_==b.at_
def sameB:List Tag->List Tag->Bool
 | [],[]=>true
 | a::l,b::r=>a.same b&&sameB l r
 | _,_=>false
theorem Zk8:∀ (l r:List Tag),l.length≠r.length->sameB l r=false
 | [],[],h=>absurd rfl h
 | [],_::_,_=>rfl
 | _::_,[],_=>rfl
 | a::l,b::r,h=>by
  rw [sameB,Zk8 l r (by simpa using h),ZfD]
theorem Zhr:∀ {l r:List Tag} {k:Nat} {x y:Tag},l[k]?=some x->r[k]?=some y->sameB (l.take (k+1)) (r.take (k+1))=(sameB (l.take k) (r.take k)&&x.same y)
 | [],_,_,_,_,h,_=>by simp at h
 | _::_,[],_,_,_,_,h=>by simp at h
 | a::l,b::r,0,x,y,hx,hy=>by
  simp at hx hy;subst hx;subst hy;simp [sameB]
 | a::l,b::r,k+1,x,y,hx,hy=>by
  simp at hx hy;have:=Zhr hx hy;simp only [Zdl,sameB,this,Bool.and_assoc]
theorem ZjE:∀ {l r:List Tag} (k:Nat),sameB (l.take k) (r.take k)=false->sameB l r=false
 | _,_,0,h=>by simp [sameB] at h
 | [],[],_+1,h=>by simp [sameB] at h
 | [],_::_,_+1,_=>rfl
 | _::_,[],_+1,_=>rfl
 | a::l,b::r,k+1,h=>by
  simp only [Zdl,sameB] at h |-;cases hs:a.same b with
  | false=>rfl
  | true=>rw [hs,ZgF] at h;rw [ZjE k h,ZfD]
theorem ZrU {l r:List Tag} {k:Nat} {x y:Tag} (hx:l[k]?=some x) (hy:r[k]?=some y) (h:x.same y=false):sameB l r=false :=
 ZjE (k+1) (by rw [Zhr hx hy,h,ZfD])
theorem Zpc {l r:List Tag} {k:Nat} {x y:Tag} (hx:l[k]?=some x) (hy:r[k]?=some y) (hs:sameB (l.take k) (r.take k)=true) (h:x.same y=true):sameB (l.take (k+1)) (r.take (k+1))=true:=by
 rw [Zhr hx hy,hs,h];rfl
theorem Zoe {l r:List Tag} {k n:Nat} (hl:l.length=n) (hr:r.length=n) (hk:k<=n) (hn:¬ k<n) (h:sameB (l.take k) (r.take k)=true):sameB l r=true:=by
 obtain rfl:k=n:=by omega
 rwa [Zba (by omega),Zba (by omega)] at h
def ZsI (l:List Tag) (t:Tag):List Tag × Int:=if l.length=32∨1073741824<t.id then ([],6) else (l++[t],0)
def Zb4 (x:Tag) (k:Nat) (prev:Int):Prop :=
 x.id<1∨1073741824<x.id∨x.own<0∨2<x.own∨x.heir<0∨2<x.heir∨((x.own=0)↔¬ 0<x.heir)∨1099511627776<x.at_∨(0<k∧x.at_<prev)
theorem Zki {x:Tag} {k:Nat} {prev:Int} (h0:k=0->x.at_=0) (h1:k=0->prev=0):Zb4 x k prev↔¬ Zcn x k prev:=by
 unfold Zb4 Zcn;rcases ZbF k with h|h
 ·have:=h0 h;have:=h1 h;subst h;omega
 ·omega
theorem ZjF {l:List Tag} {k:Nat} {p:Tag} (h:l[k]?=some p):Zbf (l.take (k+1))=p.at_:=Zhf h
theorem Zqt {x:Tag} {l:List Tag} (h:Zb4 x l.length (Zbf l)) (h0:l.length=0->x.at_=0):tagOk x l=false:=by
 have h1:l.length=0->Zbf l=0:=fun h=>by rw [ZiN.1 h];rfl
 rw [tagOk,Zq ((Zki h0 h1).1 h),ZfD]
theorem Zpd {x:Tag} {l:List Tag} (h:¬ Zb4 x l.length (Zbf l)) (h0:l.length=0->x.at_=0):tagOk x l=noDup x l:=by
 have h1:l.length=0->Zbf l=0:=fun h=>by rw [ZiN.1 h];rfl
 rw [tagOk,Zt (Decidable.not_not.1 fun hf=>h ((Zki h0 h1).2 hf)),Bool.and_true]
theorem ZrV (x:Tag) (k:Nat) (prev:Int) :
  (Zb4 x k prev∧decide (x.id<1)=true) ∨
  (Zb4 x k prev∧decide (x.id<1)=false∧decide (1073741824<x.id)=true) ∨
  (decide (x.id<1)=false∧decide (1073741824<x.id)=false ∧
    ((Zb4 x k prev∧decide (x.own<0)=true) ∨
     (Zb4 x k prev∧decide (x.own<0)=false∧decide (2<x.own)=true) ∨
     (decide (x.own<0)=false∧decide (2<x.own)=false ∧
       ((Zb4 x k prev∧decide (x.heir<0)=true) ∨
        (Zb4 x k prev∧decide (x.heir<0)=false∧decide (2<x.heir)=true) ∨
        (decide (x.heir<0)=false∧decide (2<x.heir)=false ∧
          ((Zb4 x k prev∧(!((x.own==0)==decide (0<x.heir)))=true) ∨
           (Zb4 x k prev∧(!((x.own==0)==decide (0<x.heir)))=false∧decide (1099511627776<x.at_)=true) ∨
           ((!((x.own==0)==decide (0<x.heir)))=false∧decide (1099511627776<x.at_)=false∧(Zb4 x k prev↔0<k∧x.at_<prev)))))))):=by
 have e:(!((x.own==0)==decide (0<x.heir)))=!decide (x.own=0↔0<x.heir):=by
  by_cases h1:x.own=0 <;> by_cases h2:0<x.heir <;> simp [h1,h2]
 rw [e];simp only [Zk,ZT,ZgG,ZiO,Zb4];omega
theorem Zof {x:Tag} (h:x.at_≠0):tagOk x []=false:=by
 rw [tagOk,Zq,ZfD];intro hf;exact hf.1 ⟨rfl,h⟩
def histB (site:Int) (l:List Tag) (to:Int):Bool:=decide (1<=site∧site<=2)&&Z3 l&&decide (0<=to∧to<=1099511627776∧Zbf l<=to)
theorem Ze6 {l:List Tag} (h:Z3 l=true):1<=l.length∧l.length<=32:=by
 rw [Z3,ZR,Zk] at h;exact h.1
theorem Zog {l:List Tag} {m:Nat} {x:Tag} (hl:l.length=m+1) (h:l[m]?=some x):Zbf l=x.at_:=by
 rw [<-ZjF h,Zba (by omega)]
def ZtC (s:Int):Int:=if s=1 then 2 else 1
def ZmZ (l:List Tag) (p:Tag->Prop) [DecidablePred p]:Bool:=match l.getLast? with|some t=>decide (p t)|none=>false
def Ziv (site:Int) (l:List Tag) (own heir to:Int):List Tag × Int:=ZsI l ⟨nextId l site,own,heir,to⟩
def ZtI (phase site:Int) (l:List Tag) (to:Int):List Tag × Int :=
 if histB site l to=false then ([],1) else if phase=2 then ([],10) else if phase=4 then ([],12)
 else if phase≠3∨ZmZ l (fun t=>t.own=0∧t.heir=site∧t.at_=to)=false then ([],9) else Ziv site l site 0 to
def ZtM (phase site:Int) (l:List Tag) (to:Int):List Tag × Int :=
 if histB site l to=false then ([],1) else if phase=2 then ([],10) else if phase=4 then ([],12)
 else if phase≠3∧phase≠5 then ([],9) else Ziv site l site 0 to
def ZtJ (phase site:Int) (l:List Tag) (to:Int):List Tag × Int :=
 if histB site l to=false then ([],1) else if phase≠1 then ([],9) else Ziv site l 0 (ZtC site) to
def ZtO (phase site:Int) (l:List Tag):Int :=
 if phase=2 then phase else if ZmZ l (fun t=>t.own=site)=true then 1 else if phase=1 then 3 else phase
theorem ret_bool {a b:Bool} (h:a=b):Ending.returned (.bool a)=.returned (.bool b):=by rw [h]
theorem ret_int {k:IntKind} {a b:Int} (h:a=b):Ending.returned (int k a)=.returned (int k b):=by rw [h]
theorem heap_alloc_old {w:World} {i:Nat} (h:i<w.heap.size) (o:Obj):(w.alloc o).heap[i]?=w.heap[i]?:=ZiP w o i h
theorem ZjG {w:World} {i:Nat} (h:i=w.heap.size) (o:Obj):(w.alloc o).heap[i]?=some o:=by rw [h];exact Za3 w o
theorem block_behind {w w1:World} {o:Obj} (hb:Below (w.alloc o).heap.size (w.alloc o) w1):w1.heap[w.heap.size]?=some o:=(hb.block _ (by simp)).trans (Za3 _ _)
theorem frozen_of_row {w:World} {g:Nat} {cs:Array Value} {t:TypeId} (h:w.heap[g]?=some (cells cs t (0,0))) (i:Nat):w.frozen? ⟨g,i,none⟩=false:=by simp [World.frozen?,h]
theorem Zqu:Tryz.prog.eqGuardType Tryz.prog.depth 80=false:=by kernel_rfl
theorem Zqv:Tryz.prog.stoodInHeld 80=false:=by kernel_rfl
theorem Zqw:Tryz.prog.underlying 80=some (.struct (Tryz.prog.fieldsOf 80)):=by kernel_rfl
theorem Zpe:(Tryz.prog.fieldsOf 80).toList.map (fun f=>(f.name == "_",f.type,f.offset))=[(false,3,0),(false,3,1),(false,3,2),(false,3,3)]:=by kernel_rfl
theorem Zoh (op:BinOp) (x y:Operand) (xs ys:Array Value) (w:World):(eqGuard op 80 x y (.agg xs) (.agg ys)).run Tryz.prog w=.ok () w:=run_eqGuard_agg _ _ _ _ _ _ _ Zqu
set_option maxRecDepth 100000 in
theorem ZrW (x y:Tag) (w:World) :
  (Op.equalIn 10000 80 (.agg #[int i64 x.id,int i64 x.own,int i64 x.heir,int i64 x.at_]) (.agg #[int i64 y.id,int i64 y.own,int i64 y.heir,int i64 y.at_])).run Tryz.prog w=.ok (x.same y) w:=by
 rw [run_equalIn_struct w 9999 _ _ _ Zqw Zqv];obtain ⟨fs,hfs⟩:∃ fs,(Tryz.prog.fieldsOf 80).toList=fs:=⟨_,rfl⟩;have h:=Zpe;rw [hfs] at h |-
 match fs,h with
 | [f0,f1,f2,f3],h =>
  simp only [ZaT,Zcr,ZdH,Zv,Zes,Zap] at h;obtain ⟨⟨n0,t0,o0⟩,⟨n1,t1,o1⟩,⟨n2,t2,o2⟩,⟨n3,t3,o3⟩⟩:=h;simp only [Op.eqFields,n0,n1,n2,n3,t0,t1,t2,t3,o0,o1,o2,o3,Zbn,ZdI,Zan];simp [go_sem,Tag.same];by_cases e0:x.id=y.id <;> by_cases e1:x.own=y.own <;> by_cases e2:x.heir=y.heir <;> by_cases e3:x.at_=y.at_ <;> simp [e0,e1,e2,e3]
theorem ZsJ (t:Tag) (A:Option Addr) (n c:Nat) (l:List Tag) (w:World) (hl:TagsAt w A n l) (hn:n<=1000000) :
  Calls Tryz.prog 148 #[t.val,slice A n c] w fun e w'=>e=.returned (.bool (tagOk t l))∧Below w.heap.size w w':=by
 unfold Tag.val;go_enter Tryz.func148,Tryz.ntmps148;go_wp2
 go_loopw [5,10] (fun v5 v10 wr=>∃ k:Nat,k<=n∧v10=int i64 k∧v5=int i64 (Zbf (l.take k))∧noDup t (l.take k)=true∧Below w.heap.size w wr ∧
   wr.heap[w.heap.size]?=some (cells #[int i64 t.id,int i64 t.own,int i64 t.heir,int i64 t.at_] 80)) (fun _ v10 _=>n - (intOf v10).toNat)
 case atStart=>exact ⟨0,ZL _,rfl,rfl,rfl,(ZI _ _).alloc (ZC _) _,Za3 _ _⟩
 case round =>
  obtain ⟨k,hk,rfl,rfl,hd,hb,hbox⟩:=hrel;by_cases hlt:k<n
  ·obtain ⟨b,off,x,rfl,hB,hx,c0,c1,c2,c3⟩:=hl.at_ hlt;have hcell:∀ o,wr.cell? ⟨b,o,none⟩=w.cell? ⟨b,o,none⟩:=fun o=>hb.cell (p:=⟨b,o,none⟩) hB;rw [<-hcell] at c0 c1 c2 c3;have b0:=cell_of_row wr _ 0 _ _ _ hbox;have b1:=cell_of_row wr _ 1 _ _ _ hbox;have b2:=cell_of_row wr _ 2 _ _ _ hbox;have b3:=cell_of_row wr _ 3 _ _ _ hbox;simp at b0 b1 b2 b3;have hz:=(Za9.1 hbox).1;have HX:=Zh hx;have HB:=Zh hbox;clear hcell hx hbox;go_wp2
   ·go_ret;exact ⟨ret_bool (Zk7 HX.o ‹_›).symm,hb.alloc (by omega) _⟩
   ·go_roundw;case rel=>exact ⟨k+1,by omega,by go_num,by rw [Zhf HX.o],Zkg HX.o ‹_› hd,hb.alloc (by omega) _,(heap_alloc_old hz _).trans HB.o⟩
    case measure=>simp [intOf]<;>omega
  ·have b0:=cell_of_row wr _ 0 _ _ _ hbox;have b1:=cell_of_row wr _ 1 _ _ _ hbox;have b2:=cell_of_row wr _ 2 _ _ _ hbox;have b3:=cell_of_row wr _ 3 _ _ _ hbox;simp at b0 b1 b2 b3;clear hbox;go_wp2;all_goals
    go_ret;refine ⟨ret_bool (Zpb hl.1 hk hlt hd ?_),hb⟩;simp only [Zcn,Zk,ZfB,Zbu,false_iff];omega
theorem ZhP (A:Option Addr) (n c:Nat) (l:List Tag) (w:World) (hl:TagsAt w A n l) (hn:n<=1000000) (hc:n<=c) :
  Calls Tryz.prog 89 #[slice A n c] w fun e w'=>e=.returned (.bool (Z3 l))∧Below w.heap.size w w':=by
 by_cases h32:1<=n∧n<=32
 ·obtain ⟨h1,h2⟩:=h32;go_enter Tryz.func89,Tryz.ntmps89;go_wp2;go_loopw [15] (fun v15 wr=>∃ k:Nat,k<=n∧v15=int i64 k∧ZaA l k=true∧Below w.heap.size w wr) (fun v15 _=>n - (intOf v15).toNat);case atStart=>exact ⟨0,ZL _,rfl,rfl,ZI _ _⟩
  case round =>
   obtain ⟨k,hk,rfl,hd,hb⟩:=hrel;by_cases hlt:k<n
   ·obtain ⟨b,off,x,rfl,hB,hx,c0,c1,c2,c3⟩:=hl.at_ hlt;have hcell:∀ o,wr.cell? ⟨b,o,none⟩=w.cell? ⟨b,o,none⟩:=fun o=>hb.cell (p:=⟨b,o,none⟩) hB;rw [<-hcell] at c0 c1 c2 c3;have HX:=Zh hx;clear hcell hx;have HT:=Zh ((hl.below hb (ZC _)).take hk);go_wp2_with fail;go_region_with (go_at_call 148;refine (ZsJ x _ k c (l.take k) _ ?ht (by omega)).mono ?_;(case ht=>exact HT.o.below (((ZI _ _).alloc (ZC _) _).drew) (ZC _));rintro e w1 ⟨rfl,hb'⟩);all_goals
     have hb1:Below w.heap.size w w1:=(hb.alloc hb.size _).drew.trans (hb'.mono (by simp;have:=hb.size;omega));clear hb';go_wp2
     ·go_ret;exact ⟨ret_bool (Zf7 hl.1 hlt HX.o hd ((ZgG _).mp ‹_›)).symm,hb1⟩
     ·go_roundw;case rel=>exact ⟨k+1,by omega,by go_num,by rw [Zed HX.o hd];exact (ZiO _).mp ‹_›,hb1⟩
      case measure=>simp [intOf]<;>omega
   ·go_wp2;go_ret;obtain rfl:k=n:=by omega
    exact ⟨ret_bool (by rw [Z3,hl.1,hd];simp [h1,h2]),hb⟩
 ·have hr:Z3 l=false:=by rw [Z3,hl.1,Zq h32,Bool.false_and]
  rw [hr];by_cases h1:1<=n;all_goals
   go_enter Tryz.func89,Tryz.ntmps89;go_wp2;go_ret;exact ⟨rfl,ZI _ _⟩
def flat (l:List Tag):List Value:=l.flatMap Tag.vals
theorem Zid:∀ l:List Tag,(flat l).length=l.length*4
 | []=>rfl
 | t::l=>by
  have:=Zid l;simp only [flat,Za0,Zs,Z9] at this |-;simp only [Tag.vals,Z9,ZaZ];omega
theorem ZgX:∀ (l:List Tag) (i j:Nat),j<4->(flat l)[i*4+j]?=(l[i]?).bind fun t=>t.vals[j]?
 | [],i,j,_=>by simp [flat]
 | t::l,0,j,h=>by
  have hv:t.vals.length=4:=rfl;simp only [flat,Za0,ZcE,ZX,Zg,ZgH];rw [ZiQ (by omega)]
 | t::l,i+1,j,h=>by
  have hv:t.vals.length=4:=rfl;have:=ZgX l i j h;simp only [flat,Za0,Zi] at this |-;rw [ZfE (by omega),hv,show (i+1)*4+j - 4=i*4+j by omega,this]
theorem ZeN (l:List Tag):∀ u ∈ flat l,u.oneCell'=true:=by
 intro u hu;simp only [flat,Zcs,Tag.vals] at hu;obtain ⟨t,_,hu⟩:=hu;simp only [Z4,Zbv,Zbi] at hu;rcases hu with rfl|rfl|rfl|rfl <;> rfl
theorem Zjk (b off j:Nat):(⟨b,off,none⟩:Addr).add j=⟨b,off+j,none⟩:=by
 unfold Addr.add;split
 ·subst j;rfl
 ·rfl
theorem TagsAt.src {w:World} {A:Option Addr} {n:Nat} {l:List Tag} (h:TagsAt w A n l):SrcAt w 4 A n (flat l) where
 len:=by rw [Zid,h.1]
 one:=ZeN l
 cells:=fun hn=>by
  obtain ⟨b,off,e,_,hc⟩:=h.2 hn;refine ⟨_,e,fun j u hu=>?_⟩;rw [show j=j / 4*4+j % 4 by omega,ZgX l _ _ (Nat.mod_lt _ (by omega))] at hu;cases ht:l[j / 4]? with
  | none=>rw [ht] at hu;cases hu
  | some t =>
   rw [ht] at hu;obtain ⟨c0,c1,c2,c3⟩:=hc _ t ht;rw [Zjk];have h4:j % 4<4:=Nat.mod_lt _ (by omega);rcases (by omega:j % 4=0∨j % 4=1∨j % 4=2∨j % 4=3) with e|e|e|e <;> rw [e] at hu <;> simp only [Tag.vals,ZgH,Zg,Zi,Zaa] at hu <;> subst hu
   ·rw [show off+j=off+j / 4*4 by omega];exact c0
   ·rw [show off+j=off+j / 4*4+1 by omega];exact c1
   ·rw [show off+j=off+j / 4*4+2 by omega];exact c2
   ·rw [show off+j=off+j / 4*4+3 by omega];exact c3
theorem TagsAt.of_own {w:World} {base e:Nat} {A:Option Addr} {n c:Nat} {l:List Tag} (h:w.ownsRow base e 4 (slice A n c) n (flat l)):TagsAt w A n l:=by
 have hl:l.length=n:=by have:=h.1;rw [Zid] at this;omega
 refine ⟨hl,fun hn=>?_⟩;obtain ⟨g,cap,hv,_,hlt⟩:=h.form hn;have hA:A=some ⟨g,0,none⟩:=by injection hv
 subst hA;refine ⟨g,0,rfl,hlt,fun i t hi=>?_⟩;have hc:=h.cells (g:=g) rfl;have k:∀ j,j<4->w.cell? ⟨g,0+i*4+j,none⟩=t.vals[j]?:=fun j hj=>by
  have hj':j<t.vals.length:=hj;have e1:(flat l)[i*4+j]?=some t.vals[j]:=by rw [ZgX l i j hj,hi,ZgH,Zy hj']
  have:=hc _ _ e1;rw [Zjk] at this;rw [Zbb,this,Zy hj']
 exact ⟨k 0 (by omega),k 1 (by omega),k 2 (by omega),k 3 (by omega)⟩
theorem Zie:(Tryz.prog.info? 80).map (fun i=>(i.zero,i.size,i.bytes))=some (some (.agg #[int i64 0,int i64 0,int i64 0,int i64 0]),4,32):=by kernel_rfl
theorem Zfb (A:Option Addr) (n c:Nat) (l:List Tag) (w:World) (hl:TagsAt w A n l) (hn:n<=1000000) :
  Calls Tryz.prog 94 #[slice A n c] w fun e w'=>∃ v,e=.returned v∧w'.ownsRow w.heap.size 80 4 v n (flat l)∧Below w.heap.size w w':=by
 cases A with
 | none =>
  have h0:n=0:=by
   rcases ZbF n with h|h
   ·exact h
   ·obtain ⟨_,_,e,_⟩:=hl.2 h;cases e
  subst h0;have hn:l=[]:=Zcq hl.1;subst hn;have hq:=@Lib.run_eql_slice_nil Tryz.prog;go_enter Tryz.func94,Tryz.ntmps94;go_wp2;go_ret;exact ⟨_,rfl,ZeU _ _ _ _,ZI _ _⟩
 | some ad =>
  obtain ⟨i0,hi0,hz0,hz1,hz2⟩:=info_parts Zie;have hq:=@Lib.run_eql_slice_nil Tryz.prog;go_enter Tryz.func94,Tryz.ntmps94;have hown:=ZiR (base:=w.heap.size) (e:=80) (size:=4) w #[] 0 (ZC _) (ZL _) rfl
  go_wp2_with (at_builtin
               refine ZeA _ rfl (.tmp 5) (.tmp 6) _ rfl w.heap.size 80 i0 _ 4 32 Tryz.underlying65 hi0 hz0 hz1 hz2 rfl (by omega) _ 0 [] rfl hown (some ad) n c (flat l) rfl
                (hl.below (((ZI _ _).alloc (ZC _) _)) (ZC _)).src (fun h=>by cases h) (by simp only [maxLen];omega) (by omega) (by simp) ?_
               intro v1 w1 hown1 hg1 hat1)
  go_ret;refine ⟨_,rfl,by simpa using hown1,((ZI _ _).alloc (ZC _) _).grown hg1 (by simp) (fun k hk=>?_)⟩;have hk':some w.heap.size=some k:=hk;injection hk' with hk';omega
def Gives (w:World) (r:List Tag × Int) (e:Ending) (w':World):Prop :=
 ∃ A n c,e=.returned (.tuple #[slice A n c,int i64 r.2])∧TagsAt w' A n r.1∧n<=1000∧n<=c∧Below w.heap.size w w'
def noteB (ph bo no st nu:Int) (n:Nat):Bool :=
 decide (1<=ph∧ph<=5∧0<=bo∧bo<1048576∧0<=no∧no<=1099511627776∧0<=st∧st<=17∧0<=nu∧nu<=512∧n<=1500)
structure Rg where
 splay:Int
 sets:Int
 size:Int
 deriving DecidableEq
structure Fl where
 set:Int
 u0:Int
 u1:Int
 u2:Int
 u3:Int
 deriving DecidableEq
structure Pl where
 set:Int
 obj:Int
 deriving DecidableEq
structure En where
 tag:Int
 seq:Int
 data:List Int
structure Cl where
 id:Int
 pos:Int
 off:Bool
 deriving DecidableEq
structure Rc where
 shape:Rg
 first:Int
 set:Int
 tags:List Tag
 cls:List Cl
structure Jn where
 r:Rc
 l:List En
 at_:List Pl
 fill:Fl
 safe:Int
 dead:Bool
def Fl.zero:Fl:=⟨0,0,0,0,0⟩
def Fl.get (f:Fl) (o:Int):Int:=if o=0 then f.u0 else if o=1 then f.u1 else if o=2 then f.u2 else f.u3
def Fl.put (f:Fl) (o x:Int):Fl:=if o=0 then { f with u0:=x } else if o=1 then { f with u1:=x } else if o=2 then { f with u2:=x } else { f with u3:=x }
def Rg.okB (c:Rg):Bool:=decide ((1<=c.splay∧c.splay<=4)∧(4<=c.sets∧c.sets<=8)∧(512<=c.size∧c.size<=4096))
def Fl.okB (c:Rg) (f:Fl):Bool:=decide ((0<=f.u0∧f.u0<=c.size)∧(0<=f.u1∧f.u1<=c.size)∧(0<=f.u2∧f.u2<=c.size)∧(0<=f.u3∧f.u3<=c.size)∧(0<=f.set∧f.set<1073741824))
def Zcg (n:Int):Int:=22+max 0 (min n 90)
def rput (c:Rg) (f:Fl) (seq n:Int):Fl × Pl × Bool × Bool :=
 if c.okB=false∨f.okB c=false∨seq<1∨1099511627776<seq∨n<1∨90<n then (Fl.zero,⟨0,0⟩,false,false)
 else if c.size<f.get (seq % c.splay)+Zcg n then
  ((Fl.put ⟨f.set+1,0,0,0,0⟩ (seq % c.splay) (Zcg n)),⟨f.set+1,seq % c.splay⟩,true,true)
 else (f.put (seq % c.splay) (f.get (seq % c.splay)+Zcg n),⟨f.set,seq % c.splay⟩,false,true)
def rnum (c:Rg) (p:Pl):Int :=
 if c.okB=false∨p.set<0∨1073741824<p.set∨p.obj<0∨c.splay<=p.obj then 0 else p.set % c.sets*c.splay+p.obj
def tagOf (l:List Tag) (seq:Int):Int:=match l.reverse.find? fun t=>decide (t.at_<seq) with
 | some t=>t.id
 | none=>0
def ZQ (l:List Tag) (end_:Int):List Tag:=l.takeWhile fun t=>decide (t.at_<=end_)
def mayC (id pos:Int):Bool:=decide (1<=id∧id<=1073741824∧0<=pos∧pos<=1099511627776)
def clsGo:List Cl->Int->Bool
 | [],_=>true
 | c::l,last=>mayC c.id c.pos&&decide (last<c.id)&&clsGo l c.id
def Zae (l:List Cl):Bool:=clsGo l 0&&decide (l.length<=4)
def Zaf:List Cl->Int->Nat × Bool
 | [],_=>(0,false)
 | c::l,id=>if id<=c.id then (0,decide (c.id=id)) else ((Zaf l id).1+1,(Zaf l id).2)
def addC (l:List Cl) (id pos:Int):List Cl × Int :=
 if Zae l=false∨mayC id pos=false then ([],1) else if (Zaf l id).2 then ([],5) else if l.length=4 then ([],6)
 else (l.take (Zaf l id).1++[⟨id,pos,false⟩]++l.drop (Zaf l id).1,0)
def ZaU (l:List Cl) (id pos:Int):Nat × Int :=
 if Zae l=false∨mayC id pos=false then (0,1) else if (Zaf l id).2=false then (0,4) else ((Zaf l id).1,0)
def dropC (l:List Cl) (id:Int):List Cl × Int:=if (ZaU l id 0).2≠0 then ([],(ZaU l id 0).2) else (l.eraseIdx (ZaU l id 0).1,0)
def Za5 (l:List Cl) (id pos:Int):List Cl × Int :=
 if (ZaU l id pos).2≠0 then ([],(ZaU l id pos).2) else (l.modify (ZaU l id pos).1 fun c=>{ c with pos:=max c.pos pos },0)
def turnC (l:List Cl) (id:Int) (off:Bool):List Cl × Int :=
 if (ZaU l id 0).2≠0 then ([],(ZaU l id 0).2) else (l.modify (ZaU l id 0).1 fun c=>{ c with off:=off },0)
def ZdY:List Cl->Int × Bool->Int × Bool
 | [],s=>s
 | c::l,s=>ZdY l (if c.off then s else if s.2=false∨c.pos<s.1 then (c.pos,true) else s)
def slowC (l:List Cl):Int × Bool:=ZdY l (0,false)
end Go.Proofs.YtpjchngjhijgmaaGreat
