import Derived.Laws.OwnMore
import Derived.Deep.Draws
import Derived.Test.YtcbdghojlbpomaaGreatProg
import Derived.WalkKit
import Derived.WalkSpells
import Derived.WalkLawsBesides
import Derived.Deep.RegionWith
import Derived.Test.YtcbdghojlbpomaaGreatIF00
set_option linter.all false
set_option maxRecDepth 4000
set_option maxHeartbeats 8000000
open Go.RowKit
open Go.IntKind (i64 u64)
open Go.Value (int pointer slice)
open Go.Obj (cells)
namespace Go.Proofs.YtcbdghojlbpomaaGreat
structure Tag where
 id:Int
 own:Int
 heir:Int
 at_:Int
def Tag.val (t:Tag):Value:=.agg #[int i64 t.id,int i64 t.own,int i64 t.heir,int i64 t.at_]
def Tag.vals (t:Tag):List Value:=[int i64 t.id,int i64 t.own,int i64 t.heir,int i64 t.at_]
def ZqZ (w:World) (A:Option Addr) (n:Nat) (l:List Tag):Prop :=
 l.length=n∧(0<n->∃ b off,A=some ⟨b,off,none⟩∧b<w.heap.size∧∀ i t,l[i]?=some t ->
  w.cell? ⟨b,off+i*4,none⟩=some (int i64 t.id)∧w.cell? ⟨b,off+i*4+1,none⟩=some (int i64 t.own) ∧
  w.cell? ⟨b,off+i*4+2,none⟩=some (int i64 t.heir)∧w.cell? ⟨b,off+i*4+3,none⟩=some (int i64 t.at_))
def noDup (t:Tag) (l:List Tag):Bool:=l.all fun x=>x.id != t.id
def Zlv (l:List Tag):Int:=(l.getLast?.map Tag.at_).getD 0
def ZhM (t:Tag) (n:Nat) (at_:Int):Prop :=
 ¬ (n=0∧t.at_≠0)∧¬ t.at_<at_∧t.at_<=1099511627776∧1<=t.id∧t.id<=1073741824∧0<=t.own∧t.own<=2 ∧
 (0<t.own->t.heir=0)∧(¬ 0<t.own->1<=t.heir∧t.heir<=2)
instance (t:Tag) (n:Nat) (a:Int):Decidable (ZhM t n a):=by unfold ZhM;infer_instance
def tagOk (t:Tag) (l:List Tag):Bool:=noDup t l&&decide (ZhM t l.length (Zlv l))
def Zlw (l:List Tag):Nat->Bool
 | 0=>true
 | k+1=>Zlw l k&&(match l[k]? with|some t=>tagOk t (l.take k)|none=>true)
def Zq0 (l:List Tag):Bool:=decide (1<=l.length∧l.length<=32)&&Zlw l l.length
def Zq1 (l:List Tag):Int:=l.foldl (fun n t=>max n t.id) 0
def Zq2 (l:List Tag):Bool:=l.any fun t=>decide (1073741824<t.id)
def ZqR (n s:Int):Int:=if (decide (n % 2=1))=(decide (s=1)) then n else n+1
def nextId (l:List Tag) (s:Int):Int:=if Zq2 l then 0 else ZqR (Zq1 l+1) s
def Tag.same (a b:Tag):Bool:=a.id==b.id&&a.own==b.own&&a.heir==b.heir&&a.at_==b.at_
def sameB:List Tag->List Tag->Bool
 | [],[]=>true
 | a::l,b::r=>a.same b&&sameB l r
 | _,_=>false
def Zqg (l:List Tag) (t:Tag):List Tag × Int:=if l.length=32∨1073741824<t.id then ([],6) else (l++[t],0)
def Zrl (x:Tag) (k:Nat) (prev:Int):Prop :=
 x.id<1∨1073741824<x.id∨x.own<0∨2<x.own∨x.heir<0∨2<x.heir∨((x.own=0)↔¬ 0<x.heir)∨1099511627776<x.at_∨(0<k∧x.at_<prev)
def histB (site:Int) (l:List Tag) (to:Int):Bool:=decide (1<=site∧site<=2)&&Zq0 l&&decide (0<=to∧to<=1099511627776∧Zlv l<=to)
def Zq3 (s:Int):Int:=if s=1 then 2 else 1
def Zlx (l:List Tag) (p:Tag->Prop) [DecidablePred p]:Bool:=match l.getLast? with|some t=>decide (p t)|none=>false
def ZhN (site:Int) (l:List Tag) (own heir to:Int):List Tag × Int:=Zqg l ⟨nextId l site,own,heir,to⟩
def Zq5 (phase site:Int) (l:List Tag) (to:Int):List Tag × Int :=
 if histB site l to=false then ([],1) else if phase=2 then ([],10) else if phase=4 then ([],12)
 else if phase≠3∨Zlx l (fun t=>t.own=0∧t.heir=site∧t.at_=to)=false then ([],9) else ZhN site l site 0 to
def Zq7 (phase site:Int) (l:List Tag) (to:Int):List Tag × Int :=
 if histB site l to=false then ([],1) else if phase=2 then ([],10) else if phase=4 then ([],12)
 else if phase≠3∧phase≠5 then ([],9) else ZhN site l site 0 to
def Zq6 (phase site:Int) (l:List Tag) (to:Int):List Tag × Int :=
 if histB site l to=false then ([],1) else if phase≠1 then ([],9) else ZhN site l 0 (Zq3 site) to
def Zrf (phase site:Int) (l:List Tag):Int :=
 if phase=2 then phase else if Zlx l (fun t=>t.own=site)=true then 1 else if phase=1 then 3 else phase
theorem ret_bool {a b:Bool} (h:a=b):Ending.returned (.bool a)=.returned (.bool b):=by rw [h]
theorem ret_int {k:IntKind} {a b:Int} (h:a=b):Ending.returned (int k a)=.returned (int k b):=by rw [h]
theorem heap_alloc_old {w:World} {i:Nat} (h:i<w.heap.size) (o:Obj):(w.alloc o).heap[i]?=w.heap[i]?:=Below.heap_alloc w o i h
theorem block_behind {w w1:World} {o:Obj} (hb:Below (w.alloc o).heap.size (w.alloc o) w1):w1.heap[w.heap.size]?=some o:=(hb.block _ (by simp)).trans (Zbh _ _)
theorem frozen_of_row {w:World} {g:Nat} {cs:Array Value} {t:TypeId} (h:w.heap[g]?=some (cells cs t (0,0))) (i:Nat):w.frozen? ⟨g,i,none⟩=false:=by simp [World.frozen?,h]
def flat (l:List Tag):List Value:=l.flatMap Tag.vals
def Gives (w:World) (r:List Tag × Int) (e:Ending) (w':World):Prop :=
 ∃ A n c,e=.returned (.tuple #[slice A n c,int i64 r.2])∧ZqZ w' A n r.1∧n<=1000∧n<=c∧Below w.heap.size w w'
def noteB (ph bo no st nu:Int) (n:Nat):Bool :=
 decide (1<=ph∧ph<=5∧0<=bo∧bo<1048576∧0<=no∧no<=1099511627776∧0<=st∧st<=17∧0<=nu∧nu<=512∧n<=1500)
end Go.Proofs.YtcbdghojlbpomaaGreat
