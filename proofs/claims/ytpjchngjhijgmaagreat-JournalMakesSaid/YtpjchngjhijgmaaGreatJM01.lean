import Derived.Laws.OwnMore
import Derived.Deep.Draws
import Derived.Test.YtpjchngjhijgmaaGreatProg
import Derived.WalkKit
import Derived.WalkSpells
import Derived.WalkLawsBesides
import Derived.Deep.RegionWith
import Derived.Test.YtpjchngjhijgmaaGreatJM00
set_option linter.all false
namespace Go.Proofs.YtpjchngjhijgmaaGreat
open Go.RowKit
structure Tag where
 id:Int
 own:Int
 heir:Int
 at_:Int
def Tag.val (t:Tag):Value:=.agg #[.int .i64 t.id,.int .i64 t.own,.int .i64 t.heir,.int .i64 t.at_]
def Tag.vals (t:Tag):List Value:=[.int .i64 t.id,.int .i64 t.own,.int .i64 t.heir,.int .i64 t.at_]
def TagsAt (w:World) (A:Option Addr) (n:Nat) (l:List Tag):Prop :=
 l.length=n∧(0<n→∃ b off,A=some ⟨b,off,none⟩∧b<w.heap.size∧∀ i t,l[i]?=some t →
  w.cell? ⟨b,off+i*4,none⟩=some (.int .i64 t.id)∧w.cell? ⟨b,off+i*4+1,none⟩=some (.int .i64 t.own) ∧
  w.cell? ⟨b,off+i*4+2,none⟩=some (.int .i64 t.heir)∧w.cell? ⟨b,off+i*4+3,none⟩=some (.int .i64 t.at_))
theorem TagsAt.len {w:World} {A:Option Addr} {n:Nat} {l:List Tag} (h:TagsAt w A n l):l.length=n:=h.1
theorem TagsAt.below {w w':World} {A:Option Addr} {n:Nat} {l:List Tag} {B:Nat} (h:TagsAt w A n l) (hb:Below B w w') (hB:w.heap.size≤B):TagsAt w' A n l :=
 ⟨h.1,fun hn=>by
  obtain ⟨b,off,e,hlt,hc⟩:=h.2 hn
  refine ⟨b,off,e,Nat.lt_of_lt_of_le hlt hb.size,fun i t hi=>?_⟩
  obtain ⟨c0,c1,c2,c3⟩:=hc i t hi
  have k:∀ o,w'.cell? ⟨b,o,none⟩=w.cell? ⟨b,o,none⟩:=fun o=>hb.cell (p:=⟨b,o,none⟩) (by simp;omega)
  exact ⟨(k _).trans c0,(k _).trans c1,(k _).trans c2,(k _).trans c3⟩⟩
theorem TagsAt.take {w:World} {A:Option Addr} {n:Nat} {l:List Tag} (h:TagsAt w A n l) {k:Nat} (hk:k≤n):TagsAt w A k (l.take k) :=
 ⟨by rw [List.length_take,h.1];omega,fun hn=>by
  obtain ⟨b,off,e,hlt,hc⟩:=h.2 (by omega)
  refine ⟨b,off,e,hlt,fun i t hi=>hc i t ?_⟩
  rw [List.getElem?_take] at hi
  split at hi
  ·exact hi
  ·cases hi⟩
theorem TagsAt.at_ {w:World} {A:Option Addr} {n:Nat} {l:List Tag} (h:TagsAt w A n l) {k:Nat} (hk:k<n) :
  ∃ b off t,A=some ⟨b,off,none⟩∧b<w.heap.size∧l[k]?=some t ∧
  w.cell? ⟨b,off+k*4,none⟩=some (.int .i64 t.id)∧w.cell? ⟨b,off+k*4+1,none⟩=some (.int .i64 t.own) ∧
  w.cell? ⟨b,off+k*4+2,none⟩=some (.int .i64 t.heir)∧w.cell? ⟨b,off+k*4+3,none⟩=some (.int .i64 t.at_):=by
 obtain ⟨b,off,e,hlt,hc⟩:=h.2 (by omega)
 have hl:k<l.length:=by have:=h.1;omega
 exact ⟨b,off,l[k],e,hlt,List.getElem?_eq_getElem hl,hc k _ (List.getElem?_eq_getElem hl)⟩
end Go.Proofs.YtpjchngjhijgmaaGreat
namespace Go.Proofs.YtpjchngjhijgmaaGreat
def noDup (t:Tag) (l:List Tag):Bool:=l.all fun x=>x.id != t.id
def Zq124 (l:List Tag):Int:=(l.getLast?.map Tag.at_).getD 0
theorem Zq221 (l:List Tag) (t:Tag):Zq124 (l++[t])=t.at_:=by simp [Zq124]
theorem Zq575 (t x:Tag) (l:List Tag):noDup t (l++[x])=(noDup t l&&(x.id != t.id)):=by simp [noDup]
theorem Zq249 {α:Type} {l:List α} {k:Nat} {t:α} (h:l[k]?=some t):l.take (k+1)=l.take k++[t]:=by
 obtain ⟨hk,he⟩:=List.getElem?_eq_some_iff.1 h
 rw [List.take_succ_eq_append_getElem hk,he]
def Zq89 (t:Tag) (n:Nat) (at_:Int):Prop :=
 ¬ (n=0∧t.at_≠0)∧¬ t.at_<at_∧t.at_≤1099511627776∧1≤t.id∧t.id≤1073741824∧0≤t.own∧t.own≤2 ∧
 (0<t.own→t.heir=0)∧(¬ 0<t.own→1≤t.heir∧t.heir≤2)
instance (t:Tag) (n:Nat) (a:Int):Decidable (Zq89 t n a):=by unfold Zq89;infer_instance
def tagOk (t:Tag) (l:List Tag):Bool:=noDup t l&&decide (Zq89 t l.length (Zq124 l))
theorem Zq473 {t x:Tag} {l:List Tag} {k:Nat} (hx:l[k]?=some x) (h:(x.id==t.id)=true):tagOk t l=false:=by
 have hm:x ∈ l:=List.mem_of_getElem? hx
 have:noDup t l=false:=by
  rw [noDup,List.all_eq_false]
  exact ⟨x,hm,by simpa using h⟩
 simp [tagOk,this]
theorem Zq576 {t:Tag} {l:List Tag} {k n:Nat} (hl:l.length=n) (hk:k≤n) (hn:¬ k<n) (h:noDup t (l.take k)=true) {b:Bool}
  (hb:b=true↔Zq89 t n (Zq124 (l.take k))):b=tagOk t l:=by
 obtain rfl:k=n:=by omega
 rw [List.take_of_length_le (by omega)] at h hb
 rw [tagOk,h,hl,Bool.true_and,Bool.eq_iff_iff,hb,decide_eq_true_eq]
theorem Zq363 {t x:Tag} {l:List Tag} {k:Nat} (hx:l[k]?=some x) (h:(x.id==t.id)=false) (hd:noDup t (l.take k)=true):noDup t (l.take (k+1))=true:=by
 rw [Zq249 hx,Zq575,hd]
 simpa using h
theorem Zq222 {x:Tag} {l:List Tag} {k:Nat} (hx:l[k]?=some x):Zq124 (l.take (k+1))=x.at_:=by
 rw [Zq249 hx,Zq221]
def Zq98 (l:List Tag):Nat→Bool
 | 0=>true
 | k+1=>Zq98 l k&&(match l[k]? with|some t=>tagOk t (l.take k)|none=>true)
def Zq43 (l:List Tag):Bool:=decide (1≤l.length∧l.length≤32)&&Zq98 l l.length
theorem Zq85 {l:List Tag} {k:Nat} {t:Tag} (ht:l[k]?=some t) (h:Zq98 l k=true):Zq98 l (k+1)=tagOk t (l.take k):=by
 simp [Zq98,h,ht]
theorem Zq223 {l:List Tag} {k:Nat} (h:Zq98 l k=false) (j:Nat):Zq98 l (k+j)=false:=by
 induction j with
 | zero=>exact h
 | succ j ih=>rw [Nat.add_succ,Zq98,ih,Bool.false_and]
theorem Zq196 {l:List Tag} {k n:Nat} {t:Tag} (hl:l.length=n) (hk:k<n) (ht:l[k]?=some t) (h:Zq98 l k=true) (hf:tagOk t (l.take k)=false):Zq43 l=false:=by
 have h1:=Zq223 (l:=l) (k:=k+1) (by rw [Zq85 ht h,hf]) (n - (k+1))
 rw [Zq43,hl,show n=k+1+(n - (k+1)) by omega,h1,Bool.and_false]
def Zq898 (l:List Tag):Int:=l.foldl (fun n t=>max n t.id) 0
def Zq899 (l:List Tag):Bool:=l.any fun t=>decide (1073741824<t.id)
def Zq882 (n s:Int):Int:=if (decide (n % 2=1))=(decide (s=1)) then n else n+1
def nextId (l:List Tag) (s:Int):Int:=if Zq899 l then 0 else Zq882 (Zq898 l+1) s
def Tag.same (a b:Tag):Bool:=a.id==b.id&&a.own==b.own&&a.heir==b.heir&&a.at_==b.at_
def sameB:List Tag→List Tag→Bool
 | [],[]=>true
 | a::l,b::r=>a.same b&&sameB l r
 | _,_=>false
theorem Zq474:∀ (l r:List Tag),l.length≠r.length→sameB l r=false
 | [],[],h=>absurd rfl h
 | [],_::_,_=>rfl
 | _::_,[],_=>rfl
 | a::l,b::r,h=>by
  rw [sameB,Zq474 l r (by simpa using h),Bool.and_false]
theorem Zq260:∀ {l r:List Tag} {k:Nat} {x y:Tag},l[k]?=some x→r[k]?=some y→sameB (l.take (k+1)) (r.take (k+1))=(sameB (l.take k) (r.take k)&&x.same y)
 | [],_,_,_,_,h,_=>by simp at h
 | _::_,[],_,_,_,_,h=>by simp at h
 | a::l,b::r,0,x,y,hx,hy=>by
  simp at hx hy;subst hx;subst hy
  simp [sameB]
 | a::l,b::r,k+1,x,y,hx,hy=>by
  simp at hx hy
  have:=Zq260 hx hy
  simp only [List.take_succ_cons,sameB,this,Bool.and_assoc]
theorem Zq289:∀ {l r:List Tag} (k:Nat),sameB (l.take k) (r.take k)=false→sameB l r=false
 | _,_,0,h=>by simp [sameB] at h
 | [],[],_+1,h=>by simp [sameB] at h
 | [],_::_,_+1,_=>rfl
 | _::_,[],_+1,_=>rfl
 | a::l,b::r,k+1,h=>by
  simp only [List.take_succ_cons,sameB] at h ⊢
  cases hs:a.same b with
  | false=>rfl
  | true=>rw [hs,Bool.true_and] at h;rw [Zq289 k h,Bool.and_false]
theorem Zq791 {l r:List Tag} {k:Nat} {x y:Tag} (hx:l[k]?=some x) (hy:r[k]?=some y) (h:x.same y=false):sameB l r=false :=
 Zq289 (k+1) (by rw [Zq260 hx hy,h,Bool.and_false])
theorem Zq577 {l r:List Tag} {k:Nat} {x y:Tag} (hx:l[k]?=some x) (hy:r[k]?=some y) (hs:sameB (l.take k) (r.take k)=true) (h:x.same y=true):sameB (l.take (k+1)) (r.take (k+1))=true:=by
 rw [Zq260 hx hy,hs,h];rfl
theorem Zq522 {l r:List Tag} {k n:Nat} (hl:l.length=n) (hr:r.length=n) (hk:k≤n) (hn:¬ k<n) (h:sameB (l.take k) (r.take k)=true):sameB l r=true:=by
 obtain rfl:k=n:=by omega
 rwa [List.take_of_length_le (by omega),List.take_of_length_le (by omega)] at h
def Zq834 (l:List Tag) (t:Tag):List Tag × Int:=if l.length=32∨1073741824<t.id then ([],6) else (l++[t],0)
def Zq175 (x:Tag) (k:Nat) (prev:Int):Prop :=
 x.id<1∨1073741824<x.id∨x.own<0∨2<x.own∨x.heir<0∨2<x.heir∨((x.own=0)↔¬ 0<x.heir)∨1099511627776<x.at_∨(0<k∧x.at_<prev)
theorem Zq364 {x:Tag} {k:Nat} {prev:Int} (h0:k=0→x.at_=0) (h1:k=0→prev=0):Zq175 x k prev↔¬ Zq89 x k prev:=by
 unfold Zq175 Zq89
 rcases Nat.eq_zero_or_pos k with h|h
 ·have:=h0 h;have:=h1 h;subst h;omega
 ·omega
theorem Zq290 {l:List Tag} {k:Nat} {p:Tag} (h:l[k]?=some p):Zq124 (l.take (k+1))=p.at_:=Zq222 h
theorem Zq691 {x:Tag} {l:List Tag} (h:Zq175 x l.length (Zq124 l)) (h0:l.length=0→x.at_=0):tagOk x l=false:=by
 have h1:l.length=0→Zq124 l=0:=fun h=>by rw [List.length_eq_zero_iff.1 h];rfl
 rw [tagOk,decide_eq_false ((Zq364 h0 h1).1 h),Bool.and_false]
theorem Zq578 {x:Tag} {l:List Tag} (h:¬ Zq175 x l.length (Zq124 l)) (h0:l.length=0→x.at_=0):tagOk x l=noDup x l:=by
 have h1:l.length=0→Zq124 l=0:=fun h=>by rw [List.length_eq_zero_iff.1 h];rfl
 rw [tagOk,decide_eq_true (Decidable.not_not.1 fun hf=>h ((Zq364 h0 h1).2 hf)),Bool.and_true]
theorem Zq792 (x:Tag) (k:Nat) (prev:Int) :
  (Zq175 x k prev∧decide (x.id<1)=true) ∨
  (Zq175 x k prev∧decide (x.id<1)=false∧decide (1073741824<x.id)=true) ∨
  (decide (x.id<1)=false∧decide (1073741824<x.id)=false ∧
    ((Zq175 x k prev∧decide (x.own<0)=true) ∨
     (Zq175 x k prev∧decide (x.own<0)=false∧decide (2<x.own)=true) ∨
     (decide (x.own<0)=false∧decide (2<x.own)=false ∧
       ((Zq175 x k prev∧decide (x.heir<0)=true) ∨
        (Zq175 x k prev∧decide (x.heir<0)=false∧decide (2<x.heir)=true) ∨
        (decide (x.heir<0)=false∧decide (2<x.heir)=false ∧
          ((Zq175 x k prev∧(!((x.own==0)==decide (0<x.heir)))=true) ∨
           (Zq175 x k prev∧(!((x.own==0)==decide (0<x.heir)))=false∧decide (1099511627776<x.at_)=true) ∨
           ((!((x.own==0)==decide (0<x.heir)))=false∧decide (1099511627776<x.at_)=false∧(Zq175 x k prev↔0<k∧x.at_<prev)))))))):=by
 have e:(!((x.own==0)==decide (0<x.heir)))=!decide (x.own=0↔0<x.heir):=by
  by_cases h1:x.own=0 <;> by_cases h2:0<x.heir <;> simp [h1,h2]
 rw [e]
 simp only [decide_eq_true_eq,decide_eq_false_iff_not,Bool.not_eq_true',Bool.not_eq_false',Zq175]
 omega
theorem Zq523 {x:Tag} (h:x.at_≠0):tagOk x []=false:=by
 rw [tagOk,decide_eq_false,Bool.and_false]
 intro hf
 exact hf.1 ⟨rfl,h⟩
def histB (site:Int) (l:List Tag) (to:Int):Bool:=decide (1≤site∧site≤2)&&Zq43 l&&decide (0≤to∧to≤1099511627776∧Zq124 l≤to)
theorem Zq154 {l:List Tag} (h:Zq43 l=true):1≤l.length∧l.length≤32:=by
 rw [Zq43,Bool.and_eq_true,decide_eq_true_eq] at h
 exact h.1
theorem Zq524 {l:List Tag} {m:Nat} {x:Tag} (hl:l.length=m+1) (h:l[m]?=some x):Zq124 l=x.at_:=by
 rw [←Zq290 h,List.take_of_length_le (by omega)]
def Zq900 (s:Int):Int:=if s=1 then 2 else 1
def Zq883 (l:List Tag) (p:Tag→Prop) [DecidablePred p]:Bool:=match l.getLast? with|some t=>decide (p t)|none=>false
def Zq471 (site:Int) (l:List Tag) (own heir to:Int):List Tag × Int:=Zq834 l ⟨nextId l site,own,heir,to⟩
def Zq840 (phase site:Int) (l:List Tag) (to:Int):List Tag × Int :=
 if histB site l to=false then ([],1) else if phase=2 then ([],10) else if phase=4 then ([],12)
 else if phase≠3∨Zq883 l (fun t=>t.own=0∧t.heir=site∧t.at_=to)=false then ([],9) else Zq471 site l site 0 to
def Zq891 (phase site:Int) (l:List Tag) (to:Int):List Tag × Int :=
 if histB site l to=false then ([],1) else if phase=2 then ([],10) else if phase=4 then ([],12)
 else if phase≠3∧phase≠5 then ([],9) else Zq471 site l site 0 to
def Zq884 (phase site:Int) (l:List Tag) (to:Int):List Tag × Int :=
 if histB site l to=false then ([],1) else if phase≠1 then ([],9) else Zq471 site l 0 (Zq900 site) to
def Zq907 (phase site:Int) (l:List Tag):Int :=
 if phase=2 then phase else if Zq883 l (fun t=>t.own=site)=true then 1 else if phase=1 then 3 else phase
end Go.Proofs.YtpjchngjhijgmaaGreat
namespace Go.Proofs.YtpjchngjhijgmaaGreat
open Go.RowKit
theorem ret_bool {a b:Bool} (h:a=b):Ending.returned (.bool a)=.returned (.bool b):=by rw [h]
theorem ret_int {k:IntKind} {a b:Int} (h:a=b):Ending.returned (.int k a)=.returned (.int k b):=by rw [h]
theorem heap_alloc_old {w:World} {i:Nat} (h:i<w.heap.size) (o:Obj):(w.alloc o).heap[i]?=w.heap[i]?:=Below.heap_alloc w o i h
theorem block_behind {w w1:World} {o:Obj} (hb:Below (w.alloc o).heap.size (w.alloc o) w1):w1.heap[w.heap.size]?=some o:=(hb.block _ (by simp)).trans (heap_alloc_new _ _)
theorem frozen_of_row {w:World} {g:Nat} {cs:Array Value} {t:TypeId} (h:w.heap[g]?=some (.cells cs t (0,0))) (i:Nat):w.frozen? ⟨g,i,none⟩=false:=by simp [World.frozen?,h]
theorem Zq692:Tryz.prog.eqGuardType Tryz.prog.depth 80=false:=by kernel_rfl
theorem Zq693:Tryz.prog.stoodInHeld 80=false:=by kernel_rfl
theorem Zq694:Tryz.prog.underlying 80=some (.struct (Tryz.prog.fieldsOf 80)):=by kernel_rfl
theorem Zq579:(Tryz.prog.fieldsOf 80).toList.map (fun f=>(f.name == "_",f.type,f.offset))=[(false,3,0),(false,3,1),(false,3,2),(false,3,3)]:=by kernel_rfl
theorem Zq525 (op:BinOp) (x y:Operand) (xs ys:Array Value) (w:World):(eqGuard op 80 x y (.agg xs) (.agg ys)).run Tryz.prog w=.ok () w:=run_eqGuard_agg _ _ _ _ _ _ _ Zq692
set_option maxRecDepth 100000 in
theorem Zq793 (x y:Tag) (w:World) :
  (Op.equalIn 10000 80 (.agg #[.int .i64 x.id,.int .i64 x.own,.int .i64 x.heir,.int .i64 x.at_]) (.agg #[.int .i64 y.id,.int .i64 y.own,.int .i64 y.heir,.int .i64 y.at_])).run Tryz.prog w=.ok (x.same y) w:=by
 rw [run_equalIn_struct w 9999 _ _ _ Zq694 Zq693]
 obtain ⟨fs,hfs⟩:∃ fs,(Tryz.prog.fieldsOf 80).toList=fs:=⟨_,rfl⟩
 have h:=Zq579
 rw [hfs] at h ⊢
 match fs,h with
 | [f0,f1,f2,f3],h =>
  simp only [List.map_cons,List.map_nil,List.cons.injEq,Prod.mk.injEq,beq_eq_false_iff_ne,and_true] at h
  obtain ⟨⟨n0,t0,o0⟩,⟨n1,t1,o1⟩,⟨n2,t2,o2⟩,⟨n3,t3,o3⟩⟩:=h
  simp only [Op.eqFields,n0,n1,n2,n3,t0,t1,t2,t3,o0,o1,o2,o3,ne_eq,not_false_eq_true,if_true]
  simp [go_sem,Tag.same]
  by_cases e0:x.id=y.id <;> by_cases e1:x.own=y.own <;> by_cases e2:x.heir=y.heir <;> by_cases e3:x.at_=y.at_ <;> simp [e0,e1,e2,e3]
end Go.Proofs.YtpjchngjhijgmaaGreat
namespace Go.Proofs.YtpjchngjhijgmaaGreat
open Go.RowKit
set_option maxHeartbeats 1000000 in
theorem Zq841 (t:Tag) (A:Option Addr) (n c:Nat) (l:List Tag) (w:World) (hl:TagsAt w A n l) (hn:n≤1000000) :
  Calls Tryz.prog 148 #[t.val,.slice A n c] w fun e w'=>e=.returned (.bool (tagOk t l))∧Below w.heap.size w w':=by
 unfold Tag.val
 go_enter Tryz.func148,Tryz.ntmps148
 go_wp2
 go_loopw [5,10] (fun v5 v10 wr=>∃ k:Nat,k≤n∧v10=.int .i64 k∧v5=.int .i64 (Zq124 (l.take k))∧noDup t (l.take k)=true∧Below w.heap.size w wr ∧
   wr.heap[w.heap.size]?=some (.cells #[.int .i64 t.id,.int .i64 t.own,.int .i64 t.heir,.int .i64 t.at_] 80)) (fun _ v10 _=>n - (intOf v10).toNat)
 case atStart=>exact ⟨0,Nat.zero_le _,rfl,rfl,rfl,(Below.refl _ _).alloc (Nat.le_refl _) _,heap_alloc_new _ _⟩
 case round =>
  obtain ⟨k,hk,rfl,rfl,hd,hb,hbox⟩:=hrel
  by_cases hlt:k<n
  ·obtain ⟨b,off,x,rfl,hB,hx,c0,c1,c2,c3⟩:=hl.at_ hlt
   have hcell:∀ o,wr.cell? ⟨b,o,none⟩=w.cell? ⟨b,o,none⟩:=fun o=>hb.cell (p:=⟨b,o,none⟩) hB
   rw [←hcell] at c0 c1 c2 c3
   have b0:=cell_of_row wr _ 0 _ _ _ hbox
   have b1:=cell_of_row wr _ 1 _ _ _ hbox
   have b2:=cell_of_row wr _ 2 _ _ _ hbox
   have b3:=cell_of_row wr _ 3 _ _ _ hbox
   simp at b0 b1 b2 b3
   have hz:=(Array.getElem?_eq_some_iff.1 hbox).1
   have HX:=Zh hx
   have HB:=Zh hbox
   clear hcell hx hbox
   go_wp2
   ·go_ret
    exact ⟨ret_bool (Zq473 HX.out ‹_›).symm,hb.alloc (by omega) _⟩
   ·go_roundw
    case rel=>exact ⟨k+1,by omega,by go_num,by rw [Zq222 HX.out],Zq363 HX.out ‹_› hd,hb.alloc (by omega) _,(heap_alloc_old hz _).trans HB.out⟩
    case measure=>simp [intOf];omega
  ·have b0:=cell_of_row wr _ 0 _ _ _ hbox
   have b1:=cell_of_row wr _ 1 _ _ _ hbox
   have b2:=cell_of_row wr _ 2 _ _ _ hbox
   have b3:=cell_of_row wr _ 3 _ _ _ hbox
   simp at b0 b1 b2 b3
   clear hbox
   go_wp2
   all_goals
    go_ret
    refine ⟨ret_bool (Zq576 hl.1 hk hlt hd ?_),hb⟩
    simp only [Zq89,decide_eq_true_eq,beq_iff_eq,Bool.false_eq_true,false_iff]
    omega
end Go.Proofs.YtpjchngjhijgmaaGreat
namespace Go.Proofs.YtpjchngjhijgmaaGreat
open Go.RowKit
set_option maxHeartbeats 1000000 in
theorem Zq475 (A:Option Addr) (n c:Nat) (l:List Tag) (w:World) (hl:TagsAt w A n l) (hn:n≤1000000) (hc:n≤c) :
  Calls Tryz.prog 89 #[.slice A n c] w fun e w'=>e=.returned (.bool (Zq43 l))∧Below w.heap.size w w':=by
 by_cases h32:1≤n∧n≤32
 ·obtain ⟨h1,h2⟩:=h32
  go_enter Tryz.func89,Tryz.ntmps89
  go_wp2
  go_loopw [15] (fun v15 wr=>∃ k:Nat,k≤n∧v15=.int .i64 k∧Zq98 l k=true∧Below w.heap.size w wr) (fun v15 _=>n - (intOf v15).toNat)
  case atStart=>exact ⟨0,Nat.zero_le _,rfl,rfl,Below.refl _ _⟩
  case round =>
   obtain ⟨k,hk,rfl,hd,hb⟩:=hrel
   by_cases hlt:k<n
   ·obtain ⟨b,off,x,rfl,hB,hx,c0,c1,c2,c3⟩:=hl.at_ hlt
    have hcell:∀ o,wr.cell? ⟨b,o,none⟩=w.cell? ⟨b,o,none⟩:=fun o=>hb.cell (p:=⟨b,o,none⟩) hB
    rw [←hcell] at c0 c1 c2 c3
    have HX:=Zh hx
    clear hcell hx
    have HT:=Zh ((hl.below hb (Nat.le_refl _)).take hk)
    go_wp2_with fail
    go_region_with (go_at_call 148;refine (Zq841 x _ k c (l.take k) _ ?ht (by omega)).mono ?_;(case ht=>exact HT.out.below (((Below.refl _ _).alloc (Nat.le_refl _) _).drew) (Nat.le_refl _));rintro e w1 ⟨rfl,hb'⟩)
    all_goals
     have hb1:Below w.heap.size w w1:=(hb.alloc hb.size _).drew.trans (hb'.mono (by simp;have:=hb.size;omega))
     clear hb'
     go_wp2
     ·go_ret
      exact ⟨ret_bool (Zq196 hl.1 hlt HX.out hd ((Bool.not_eq_true' _).mp ‹_›)).symm,hb1⟩
     ·go_roundw
      case rel=>exact ⟨k+1,by omega,by go_num,by rw [Zq85 HX.out hd];exact (Bool.not_eq_false' _).mp ‹_›,hb1⟩
      case measure=>simp [intOf];omega
   ·go_wp2
    go_ret
    obtain rfl:k=n:=by omega
    exact ⟨ret_bool (by rw [Zq43,hl.1,hd];simp [h1,h2]),hb⟩
 ·have hr:Zq43 l=false:=by rw [Zq43,hl.1,decide_eq_false h32,Bool.false_and]
  rw [hr]
  by_cases h1:1≤n
  all_goals
   go_enter Tryz.func89,Tryz.ntmps89
   go_wp2
   go_ret
   exact ⟨rfl,Below.refl _ _⟩
end Go.Proofs.YtpjchngjhijgmaaGreat
namespace Go.Proofs.YtpjchngjhijgmaaGreat
open Go.RowKit
end Go.Proofs.YtpjchngjhijgmaaGreat
namespace Go.Proofs.YtpjchngjhijgmaaGreat
open Go.RowKit
def flat (l:List Tag):List Value:=l.flatMap Tag.vals
theorem Zq435:∀ l:List Tag,(flat l).length=l.length*4
 | []=>rfl
 | t::l=>by
  have:=Zq435 l
  simp only [flat,List.flatMap_cons,List.length_append,List.length_cons] at this ⊢
  simp only [Tag.vals,List.length_cons,List.length_nil];omega
theorem Zq181:∀ (l:List Tag) (i j:Nat),j<4→(flat l)[i*4+j]?=(l[i]?).bind fun t=>t.vals[j]?
 | [],i,j,_=>by simp [flat]
 | t::l,0,j,h=>by
  have hv:t.vals.length=4:=rfl
  simp only [flat,List.flatMap_cons,Nat.zero_mul,Nat.zero_add,Zl6,Option.bind_some]
  rw [List.getElem?_append_left (by omega)]
 | t::l,i+1,j,h=>by
  have hv:t.vals.length=4:=rfl
  have:=Zq181 l i j h
  simp only [flat,List.flatMap_cons,Zl7] at this ⊢
  rw [List.getElem?_append_right (by omega),hv,show (i+1)*4+j - 4=i*4+j by omega,this]
theorem Zq322 (l:List Tag):∀ u ∈ flat l,u.oneCell'=true:=by
 intro u hu
 simp only [flat,List.mem_flatMap,Tag.vals] at hu
 obtain ⟨t,_,hu⟩:=hu
 simp only [List.mem_cons,List.not_mem_nil,or_false] at hu
 rcases hu with rfl|rfl|rfl|rfl <;> rfl
theorem Zq240 (b off j:Nat):(⟨b,off,none⟩:Addr).add j=⟨b,off+j,none⟩:=by
 unfold Addr.add
 split
 ·subst j;rfl
 ·rfl
theorem TagsAt.src {w:World} {A:Option Addr} {n:Nat} {l:List Tag} (h:TagsAt w A n l):SrcAt w 4 A n (flat l) where
 len:=by rw [Zq435,h.1]
 one:=Zq322 l
 cells:=fun hn=>by
  obtain ⟨b,off,e,_,hc⟩:=h.2 hn
  refine ⟨_,e,fun j u hu=>?_⟩
  rw [show j=j / 4*4+j % 4 by omega,Zq181 l _ _ (Nat.mod_lt _ (by omega))] at hu
  cases ht:l[j / 4]? with
  | none=>rw [ht] at hu;cases hu
  | some t =>
   rw [ht] at hu
   obtain ⟨c0,c1,c2,c3⟩:=hc _ t ht
   rw [Zq240]
   have h4:j % 4<4:=Nat.mod_lt _ (by omega)
   rcases (by omega:j % 4=0∨j % 4=1∨j % 4=2∨j % 4=3) with e|e|e|e <;> rw [e] at hu <;> simp only [Tag.vals,Option.bind_some,Zl6,Zl7,Option.some.injEq] at hu <;> subst hu
   ·rw [show off+j=off+j / 4*4 by omega];exact c0
   ·rw [show off+j=off+j / 4*4+1 by omega];exact c1
   ·rw [show off+j=off+j / 4*4+2 by omega];exact c2
   ·rw [show off+j=off+j / 4*4+3 by omega];exact c3
theorem TagsAt.of_own {w:World} {base e:Nat} {A:Option Addr} {n c:Nat} {l:List Tag} (h:w.ownsRow base e 4 (.slice A n c) n (flat l)):TagsAt w A n l:=by
 have hl:l.length=n:=by have:=h.1;rw [Zq435] at this;omega
 refine ⟨hl,fun hn=>?_⟩
 obtain ⟨g,cap,hv,_,hlt⟩:=h.form hn
 have hA:A=some ⟨g,0,none⟩:=by injection hv
 subst hA
 refine ⟨g,0,rfl,hlt,fun i t hi=>?_⟩
 have hc:=h.cells (g:=g) rfl
 have k:∀ j,j<4→w.cell? ⟨g,0+i*4+j,none⟩=t.vals[j]?:=fun j hj=>by
  have hj':j<t.vals.length:=hj
  have e1:(flat l)[i*4+j]?=some t.vals[j]:=by rw [Zq181 l i j hj,hi,Option.bind_some,List.getElem?_eq_getElem hj']
  have:=hc _ _ e1
  rw [Zq240] at this
  rw [Nat.add_assoc,this,List.getElem?_eq_getElem hj']
 exact ⟨k 0 (by omega),k 1 (by omega),k 2 (by omega),k 3 (by omega)⟩
theorem Zq580:(Tryz.prog.info? 80).map (fun i=>(i.zero,i.size,i.bytes))=some (some (.agg #[.int .i64 0,.int .i64 0,.int .i64 0,.int .i64 0]),4,32):=by kernel_rfl
end Go.Proofs.YtpjchngjhijgmaaGreat
namespace Go.Proofs.YtpjchngjhijgmaaGreat
open Go.RowKit
set_option maxHeartbeats 1000000 in
theorem Zq250 (A:Option Addr) (n c:Nat) (l:List Tag) (w:World) (hl:TagsAt w A n l) (hn:n≤1000000) :
  Calls Tryz.prog 94 #[.slice A n c] w fun e w'=>∃ v,e=.returned v∧w'.ownsRow w.heap.size 80 4 v n (flat l)∧Below w.heap.size w w':=by
 cases A with
 | none =>
  have h0:n=0:=by
   rcases Nat.eq_zero_or_pos n with h|h
   ·exact h
   ·obtain ⟨_,_,e,_⟩:=hl.2 h;cases e
  subst h0
  have hn:l=[]:=List.eq_nil_of_length_eq_zero hl.1
  subst hn
  have hq:=@Lib.run_eql_slice_nil Tryz.prog
  go_enter Tryz.func94,Tryz.ntmps94
  go_wp2
  go_ret
  exact ⟨_,rfl,World.ownsRow_nil _ _ _ _,Below.refl _ _⟩
 | some ad =>
  obtain ⟨i0,hi0,hz0,hz1,hz2⟩:=info_parts Zq580
  have hq:=@Lib.run_eql_slice_nil Tryz.prog
  go_enter Tryz.func94,Tryz.ntmps94
  have hown:=World.ownsRow_made (base:=w.heap.size) (e:=80) (size:=4) w #[] 0 (Nat.le_refl _) (Nat.zero_le _) rfl
  go_wp2_with (at_builtin
               refine Zq62 _ rfl (.tmp 5) (.tmp 6) _ rfl w.heap.size 80 i0 _ 4 32 Tryz.underlying65 hi0 hz0 hz1 hz2 rfl (by omega) _ 0 [] rfl hown (some ad) n c (flat l) rfl
                (hl.below (((Below.refl _ _).alloc (Nat.le_refl _) _)) (Nat.le_refl _)).src (fun h=>by cases h) (by simp only [maxLen];omega) (by omega) (by simp) ?_
               intro v1 w1 hown1 hg1 hat1)
  go_ret
  refine ⟨_,rfl,by simpa using hown1,((Below.refl _ _).alloc (Nat.le_refl _) _).grown hg1 (by simp) (fun k hk=>?_)⟩
  have hk':some w.heap.size=some k:=hk
  injection hk' with hk'
  omega
end Go.Proofs.YtpjchngjhijgmaaGreat
namespace Go.Proofs.YtpjchngjhijgmaaGreat
open Go.RowKit
end Go.Proofs.YtpjchngjhijgmaaGreat
namespace Go.Proofs.YtpjchngjhijgmaaGreat
open Go.RowKit
def Gives (w:World) (r:List Tag × Int) (e:Ending) (w':World):Prop :=
 ∃ A n c,e=.returned (.tuple #[.slice A n c,.int .i64 r.2])∧TagsAt w' A n r.1∧n≤1000∧n≤c∧Below w.heap.size w w'
end Go.Proofs.YtpjchngjhijgmaaGreat
namespace Go.Proofs.YtpjchngjhijgmaaGreat
open Go.RowKit
end Go.Proofs.YtpjchngjhijgmaaGreat
namespace Go.Proofs.YtpjchngjhijgmaaGreat
open Go.RowKit
def noteB (ph bo no st nu:Int) (n:Nat):Bool :=
 decide (1≤ph∧ph≤5∧0≤bo∧bo<1048576∧0≤no∧no≤1099511627776∧0≤st∧st≤17∧0≤nu∧nu≤512∧n≤1500)
end Go.Proofs.YtpjchngjhijgmaaGreat
namespace Go.Proofs.YtpjchngjhijgmaaGreat
open Go.RowKit
structure Rg where
 splay:Int
 sets:Int
 size:Int
 deriving DecidableEq
structure Fl where
 set:Int
 u0:Int
 u1:Int
 u2:Int
 u3:Int
 deriving DecidableEq
structure Pl where
 set:Int
 obj:Int
 deriving DecidableEq
structure En where
 tag:Int
 seq:Int
 data:List Int
structure Cl where
 id:Int
 pos:Int
 off:Bool
 deriving DecidableEq
structure Rc where
 shape:Rg
 first:Int
 set:Int
 tags:List Tag
 cls:List Cl
structure Jn where
 r:Rc
 l:List En
 at_:List Pl
 fill:Fl
 safe:Int
 dead:Bool
def Fl.zero:Fl:=⟨0,0,0,0,0⟩
def Fl.get (f:Fl) (o:Int):Int:=if o=0 then f.u0 else if o=1 then f.u1 else if o=2 then f.u2 else f.u3
def Fl.put (f:Fl) (o x:Int):Fl:=if o=0 then { f with u0:=x } else if o=1 then { f with u1:=x } else if o=2 then { f with u2:=x } else { f with u3:=x }
def Rg.okB (c:Rg):Bool:=decide ((1≤c.splay∧c.splay≤4)∧(4≤c.sets∧c.sets≤8)∧(512≤c.size∧c.size≤4096))
def Fl.okB (c:Rg) (f:Fl):Bool:=decide ((0≤f.u0∧f.u0≤c.size)∧(0≤f.u1∧f.u1≤c.size)∧(0≤f.u2∧f.u2≤c.size)∧(0≤f.u3∧f.u3≤c.size)∧(0≤f.set∧f.set<1073741824))
def Zq131 (n:Int):Int:=22+max 0 (min n 90)
def rput (c:Rg) (f:Fl) (seq n:Int):Fl × Pl × Bool × Bool :=
 if c.okB=false∨f.okB c=false∨seq<1∨1099511627776<seq∨n<1∨90<n then (Fl.zero,⟨0,0⟩,false,false)
 else if c.size<f.get (seq % c.splay)+Zq131 n then
  ((Fl.put ⟨f.set+1,0,0,0,0⟩ (seq % c.splay) (Zq131 n)),⟨f.set+1,seq % c.splay⟩,true,true)
 else (f.put (seq % c.splay) (f.get (seq % c.splay)+Zq131 n),⟨f.set,seq % c.splay⟩,false,true)
def rnum (c:Rg) (p:Pl):Int :=
 if c.okB=false∨p.set<0∨1073741824<p.set∨p.obj<0∨c.splay≤p.obj then 0 else p.set % c.sets*c.splay+p.obj
def tagOf (l:List Tag) (seq:Int):Int:=match l.reverse.find? fun t=>decide (t.at_<seq) with
 | some t=>t.id
 | none=>0
def Zq36 (l:List Tag) (end_:Int):List Tag:=l.takeWhile fun t=>decide (t.at_≤end_)
def mayC (id pos:Int):Bool:=decide (1≤id∧id≤1073741824∧0≤pos∧pos≤1099511627776)
def clsGo:List Cl→Int→Bool
 | [],_=>true
 | c::l,last=>mayC c.id c.pos&&decide (last<c.id)&&clsGo l c.id
def Zq68 (l:List Cl):Bool:=clsGo l 0&&decide (l.length≤4)
def Zq472:List Cl→Int→Nat × Bool
 | [],_=>(0,false)
 | c::l,id=>if id≤c.id then (0,decide (c.id=id)) else ((Zq472 l id).1+1,(Zq472 l id).2)
def addC (l:List Cl) (id pos:Int):List Cl × Int :=
 if Zq68 l=false∨mayC id pos=false then ([],1) else if (Zq472 l id).2 then ([],5) else if l.length=4 then ([],6)
 else (l.take (Zq472 l id).1++[⟨id,pos,false⟩]++l.drop (Zq472 l id).1,0)
def Zq357 (l:List Cl) (id pos:Int):Nat × Int :=
 if Zq68 l=false∨mayC id pos=false then (0,1) else if (Zq472 l id).2=false then (0,4) else ((Zq472 l id).1,0)
def dropC (l:List Cl) (id:Int):List Cl × Int:=if (Zq357 l id 0).2≠0 then ([],(Zq357 l id 0).2) else (l.eraseIdx (Zq357 l id 0).1,0)
def Zq788 (l:List Cl) (id pos:Int):List Cl × Int :=
 if (Zq357 l id pos).2≠0 then ([],(Zq357 l id pos).2) else (l.modify (Zq357 l id pos).1 fun c=>{ c with pos:=max c.pos pos },0)
def turnC (l:List Cl) (id:Int) (off:Bool):List Cl × Int :=
 if (Zq357 l id 0).2≠0 then ([],(Zq357 l id 0).2) else (l.modify (Zq357 l id 0).1 fun c=>{ c with off:=off },0)
def Zq572:List Cl→Int × Bool→Int × Bool
 | [],s=>s
 | c::l,s=>Zq572 l (if c.off then s else if s.2=false∨c.pos<s.1 then (c.pos,true) else s)
def slowC (l:List Cl):Int × Bool:=Zq572 l (0,false)
end Go.Proofs.YtpjchngjhijgmaaGreat
