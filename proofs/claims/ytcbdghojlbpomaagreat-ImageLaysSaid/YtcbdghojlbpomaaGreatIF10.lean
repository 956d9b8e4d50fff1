import Derived.Test.YtcbdghojlbpomaaGreatIF09
set_option linter.all false
set_option maxRecDepth 4000
set_option maxHeartbeats 8000000
open Go.RowKit
open Go.IntKind (i64 u64)
open Go.Value (int pointer slice)
open Go.Obj (cells)
namespace Go.Proofs.YtcbdghojlbpomaaGreat
open Tryz
open HP (pt mapOf)
variable {W w w':World} {I:Hp} {l:List HP}
def noRO:RO:=⟨none,[]⟩
def objAt (R:List RO) (k:Nat):RO:=R[k]?.getD noRO
def byteO (o:RO) (snap:Int) (i:Nat):Int:=((ratR o snap).getD []).getD i 0
def byteR (l:Ly) (R:List RO) (snap:Int) (x:Nat):Int:=byteO (objAt R (ZB l x).1) snap (ZB l x).2
def Zag (l:Ly) (R:List RO) (snap:Int) (size:Nat):List Int:=(List.range size).map (byteR l R snap)
structure CopyI (ids:List Int) (next:Int) (o:RO):Prop where
 inc:Inc (o.cs.map (·.1))
 pos:∀ c ∈ o.cs,0<c.1
 last:∀ c ∈ o.cs,c.1<next
 mark:∀ c ∈ o.cs,∃ m ∈ ids,m<=c.1∧∀ d ∈ o.cs,d.1<c.1->d.1<m
structure IdsI (ids:List Int) (newest:Int):Prop where
 inc:Inc ids
 pos:∀ m ∈ ids,0<m
 last:∀ m ∈ ids,m<=newest
 zero:newest=0∨newest ∈ ids
theorem IdsI.nneg {ids:List Int} {newest:Int} (h:IdsI ids newest):0<=newest:=by
 rcases h.zero with e|e
 ·omega
 ·have:=h.pos _ e;omega
theorem Znm {cs:List (Int × Option (List Int))} {newest:Int} (hi:Inc (cs.map (·.1))) (h:needR cs newest=false) (h0:0<newest):∃ c,c ∈ cs∧newest<=c.1:=by
 unfold needR at h;rw [Zcb h0,ZbR] at h;cases e:cs.getLast? with
 | none=>rw [e] at h;simp at h
 | some c =>
  rw [e] at h;simp only [Zk] at h;exact ⟨c,List.mem_of_getLast? e,by omega⟩
theorem ZoJ {cs:List (Int × Option (List Int))} {newest:Int} (hi:Inc (cs.map (·.1))) (h:needR cs newest=true):0<newest∧∀ c ∈ cs,c.1<newest:=Zf6 (o:=⟨none,cs⟩) hi h
theorem Znn {ids:List Int} {next newest:Int} {o:RO} (h:CopyI ids next o) {b:Option (List Int)} {s:Int} (h0:0<s) (hs:s<=newest):ratR (ZbM o newest b) s=ratR o s:=by
 unfold ratR ZbM;rw [Zb h0,Zb h0];simp only;cases hn:needR o.cs newest with
 | true =>
  rw [Zb rfl,Zgt];cases hf:o.cs.find? fun c=>decide (s<=c.1) with
  | some c=>rfl
  | none=>simp [hs]
 | false =>
  rw [Za (by simp)];cases hf:o.cs.find? fun c=>decide (s<=c.1) with
  | some c=>rfl
  | none =>
   obtain ⟨c,hc,hc2⟩:=Znm h.inc hn (by omega);have:=Zfo.1 hf c hc;simp only [Ze] at this;omega
theorem Zcr (o:RO):ratR o 0=o.h:=rfl
theorem CopyI.change {ids:List Int} {next newest:Int} {o:RO} (h:CopyI ids next o) (hi:IdsI ids newest) (hx:newest<next) (b:Option (List Int)):CopyI ids next (ZbM o newest b):=by
 unfold ZbM;cases hn:needR o.cs newest with
 | false=>rw [Za (by simp)];exact ⟨h.inc,h.pos,h.last,h.mark⟩
 | true =>
  rw [Zb rfl];obtain ⟨h1,h2⟩:=ZoJ h.inc hn;refine ⟨?_,fun c hc=>?_,fun c hc=>?_,fun c hc=>?_⟩
  ·show Inc ((o.cs++[(newest,o.h)]).map (·.1));rw [Z4];refine Zd4.2 ⟨h.inc,Zgs _ _,fun x hx y hy=>?_⟩;obtain ⟨c,hc,rfl⟩:=ZH.1 hx;simp at hy;subst hy;exact h2 c hc
  ·rcases ZY.1 hc with q|q
   ·exact h.pos c q
   ·rw [Zaz.1 q];exact h1
  ·rcases ZY.1 hc with q|q
   ·exact h.last c q
   ·rw [Zaz.1 q];exact hx
  ·rcases ZY.1 hc with q|q
   ·obtain ⟨m,hm,h3,h4⟩:=h.mark c q;refine ⟨m,hm,h3,fun d hd hdc=>?_⟩;rcases ZY.1 hd with r|r
    ·exact h4 d r hdc
    ·rw [Zaz.1 r] at hdc |-;have:=h2 c q;simp only at hdc;omega
   ·rw [Zaz.1 q];refine ⟨newest,hi.zero.resolve_left (by omega),Zck _,fun d hd hdc=>hdc⟩
theorem Zlc {ids:List Int} {next:Int} {o:RO} (h:CopyI ids next o):ratR o next=o.h:=by
 unfold ratR;split
 ·have:o.cs.find? (fun c=>decide (next<=c.1))=none:=by
   rw [Zfo];intro c hc;have:=h.last c hc;simp only [Ze];omega
  rw [this]
 ·rfl
theorem CopyI.more {ids:List Int} {next:Int} {o:RO} (h:CopyI ids next o) (s:Int):CopyI (ids++[s]) (next+1) o :=
 ⟨h.inc,h.pos,fun c hc=>(by have:=h.last c hc;omega),fun c hc=>by
  obtain ⟨m,hm,h1,h2⟩:=h.mark c hc
  exact ⟨m,Zet _ hm,h1,h2⟩⟩
theorem IdsI.more {ids:List Int} {newest:Int} (h:IdsI ids newest) {s:Int} (hs:newest<s):IdsI (ids++[s]) s:=by
 have:=h.nneg;refine ⟨?_,fun m hm=>?_,fun m hm=>?_,.inr (Zfj _ (Zaz.2 rfl))⟩
 ·refine Zd4.2 ⟨h.inc,Zgs _ _,fun x hx y hy=>?_⟩;rw [Zaz.1 hy];have:=h.last x hx;omega
 ·rcases ZY.1 hm with q|q
  ·exact h.pos m q
  ·rw [Zaz.1 q];omega
 ·rcases ZY.1 hm with q|q
  ·have:=h.last m q;omega
  ·rw [Zaz.1 q];exact Zck _
theorem Zj1 {α:Type} [DecidableEq α] {l U:List α} (hn:l.Nodup) (h:∀ x ∈ l,x ∈ U):l.length<=U.length:=by
 induction l generalizing U with
 | nil=>simp
 | cons a l ih =>
  have hn':=Za9.1 hn;have ha:=h a (Z0 ..);have h2:∀ x ∈ l,x ∈ U.erase a:=fun x hx=>by
   have hne:x≠a:=fun e=>hn'.1 (e ▸ hx);exact (List.mem_erase_of_ne hne).2 (h x (Z8 _ hx))
  have h3:=ih hn'.2 h2;have h4:=List.length_erase_of_mem ha;have:0<U.length:=List.length_pos_of_mem ha;simp only [Zat];omega
theorem ZkH {ids:List Int}:∀ (ds:List (Int × Option (List Int))) (b:Int),Inc (ds.map (·.1))->(∀ d ∈ ds,∃ m ∈ ids,m<=d.1∧b<m∧∀ e ∈ ds,e.1<d.1->e.1<m)->∃ ms:List Int,ms.length=ds.length∧Inc ms∧∀ m ∈ ms,m ∈ ids∧b<m
 | [],_,_,_=>⟨[],rfl,List.Pairwise.nil,fun m hm=>(by cases hm)⟩
 | d::ds,b,hi,hq=>by
  rw [Zav] at hi;have hi2:=ZcU.1 hi;obtain ⟨m,h1,h2,h3,h4⟩:=hq d (Z0 ..);obtain ⟨ms,e1,e2,e3⟩:=ZkH ds d.1 hi2.2 fun x hx=>by
   obtain ⟨m',q1,q2,q3,q4⟩:=hq x (Z8 _ hx);exact ⟨m',q1,q2,q4 d (Z0 ..) (hi2.1 _ (Zbz hx)),fun y hy=>q4 y (Z8 _ hy)⟩
  refine ⟨m::ms,by simp [e1],ZcU.2 ⟨fun x hx=>?_,e2⟩,fun x hx=>?_⟩
  ·have:=(e3 x hx).2;omega
  ·rcases ZO.1 hx with rfl|hx
   ·exact ⟨h1,h3⟩
   ·have:=(e3 x hx).2;exact ⟨(e3 x hx).1,by omega⟩
theorem CopyI.count {ids:List Int} {next newest:Int} {o:RO} (h:CopyI ids next o) (hi:IdsI ids newest):o.cs.length<=ids.length:=by
 obtain ⟨ms,e1,e2,e3⟩:=ZkH (ids:=ids) o.cs 0 h.inc fun d hd=>by
  obtain ⟨m,q1,q2,q3⟩:=h.mark d hd;exact ⟨m,q1,q2,hi.pos m q1,q3⟩
 rw [<-e1];exact Zj1 (e2.imp fun {a b} hab e=>by omega) fun m hm=>(e3 m hm).1
theorem Ze8 {m:List Int}:∀ (cs:List (Int × Option (List Int))) (b:Int) (c:Int × Option (List Int)),c ∈ tidyR m cs b->c ∈ cs
 | [],_,_,h=>by cases h
 | x::cs,b,c,h=>by
  unfold tidyR at h;split at h
  ·rcases ZO.1 h with rfl|h
   ·exact Z0 ..
   ·exact Z8 _ (Ze8 cs _ c h)
  ·exact Z8 _ (Ze8 cs _ c h)
theorem ZhF {m:List Int}:∀ (cs:List (Int × Option (List Int))) (b:Int),(tidyR m cs b).Sublist cs
 | [],_=>List.Sublist.slnil
 | x::cs,b=>by
  unfold tidyR;split
  ·exact (ZhF cs _).cons_cons _
  ·exact (ZhF cs _).cons _
theorem Zq9 {m:List Int} {b n:Int}:seenB m b n=true↔∃ k ∈ m,b<k∧k<=n:=by
 unfold seenB;simp [List.any_eq_true]
theorem Zhn {m:List Int} {s:Int} (hs:s ∈ m):∀ (cs:List (Int × Option (List Int))) (b:Int),Inc (cs.map (·.1))->b<s->(tidyR m cs b).find? (fun c=>decide (s<=c.1))=cs.find? fun c=>decide (s<=c.1)
 | [],_,_,_=>rfl
 | x::cs,b,hi,hb=>by
  rw [Zav] at hi;have hi2:=ZcU.1 hi;unfold tidyR;by_cases h:s<=x.1
  ·rw [Zb (Zq9.2 ⟨s,hs,hb,h⟩),Zic (by simpa using h),Zic (by simpa using h)]
  ·rw [Zgv (by simpa using h)];split
   ·rw [Zgv (by simpa using h)];exact Zhn hs cs _ hi2.2 (by omega)
   ·exact Zhn hs cs _ hi2.2 (by omega)
theorem ZpP {m:List Int} {o:RO} (hi:Inc (o.cs.map (·.1))) {s:Int} (hs:s ∈ m) (h0:0<s):ratR ⟨o.h,tidyR m o.cs 0⟩ s=ratR o s:=by
 unfold ratR;rw [Zb h0,Zb h0,Zhn hs _ _ hi h0]
theorem Zho {m:List Int}:∀ (cs:List (Int × Option (List Int))) (b:Int),Inc (cs.map (·.1))->(∀ c ∈ cs,b<c.1)->∀ c ∈ tidyR m cs b,∃ k ∈ m,k<=c.1∧b<k∧∀ d ∈ tidyR m cs b,d.1<c.1->d.1<k
 | [],_,_,_,c,hc=>by cases hc
 | x::cs,b,hi,hb,c,hc=>by
  rw [Zav] at hi;have hi2:=ZcU.1 hi;have hx:∀ d ∈ cs,x.1<d.1:=fun d hd=>hi2.1 _ (Zbz hd);have hbx:=hb x (Z0 ..);unfold tidyR at hc |-;split
  ·rename_i hs;rw [Zb hs] at hc;rcases ZO.1 hc with rfl|hc
   ·obtain ⟨k,h1,h2,h3⟩:=Zq9.1 hs;refine ⟨k,h1,h3,h2,fun d hd hdc=>?_⟩;rcases ZO.1 hd with rfl|hd
    ·omega
    ·have:=hx d (Ze8 _ _ _ hd);omega
   ·obtain ⟨k,h1,h2,h3,h4⟩:=Zho cs x.1 hi2.2 hx c hc;refine ⟨k,h1,h2,by omega,fun d hd hdc=>?_⟩;rcases ZO.1 hd with rfl|hd
    ·exact h3
    ·exact h4 d hd hdc
  ·rename_i hs;rw [Za hs] at hc;obtain ⟨k,h1,h2,h3,h4⟩:=Zho cs x.1 hi2.2 hx c hc;exact ⟨k,h1,h2,by omega,h4⟩
theorem CopyI.tidied {ids ids':List Int} {next:Int} {o:RO} (h:CopyI ids next o):CopyI ids' next ⟨o.h,tidyR ids' o.cs 0⟩:=by
 refine ⟨?_,fun c hc=>h.pos c (Ze8 _ _ _ hc),fun c hc=>h.last c (Ze8 _ _ _ hc),fun c hc=>?_⟩
 ·exact List.Pairwise.sublist ((ZhF o.cs 0).map _) h.inc
 ·obtain ⟨k,h1,h2,_,h3⟩:=Zho o.cs 0 h.inc h.pos c hc;exact ⟨k,h1,h2,h3⟩
def bt (s:ByteArray) (k:Nat):Int:=if h:k<s.size then ((s[k]'h).toNat:Int) else 0
theorem Zgk (s:ByteArray):∀ (n:Nat) (h:n<s.size),((s[n]'h).toNat:Int)=bt s n:=fun n h=>by unfold bt;rw [dif_pos h]
theorem ZkI (s:ByteArray) (k:Nat):0<=bt s k∧bt s k<=255:=by
 unfold bt;split
 ·rename_i h;have:=(s[k]'h).toNat_lt;omega
 ·omega
structure Mk where
 id:Int
 name:ByteArray
 size:Nat
 gone:Bool
structure Hd where
 size:Nat
 l:Ly
 next:Int
 seq:Int
 marks:List Mk
def Hd.ids (h:Hd):List Int:=h.marks.map (·.id)
def Hd.newest (h:Hd):Int:=(h.ids.getLast?).getD 0
structure Vw where
 data:List Int
 snaps:List (ByteArray × List Int)
def holdN (n:ByteArray):Bool:=decide (bt n 0=126)
def Mk.seen (m:Mk):Bool:=!m.gone&&!holdN m.name
def Hd.seen (h:Hd):List Mk:=h.marks.filter Mk.seen
structure Ev where
 kind:Int
 off:Int
 len:Int
 data:List Int
 name:ByteArray
def nameC (c:Int):Bool:=decide (97<=c∧c<=122∨48<=c∧c<=57∨c=45)
def nameB (n:ByteArray):Bool:=decide (1<=n.size∧n.size<=12∧∀ k,k<n.size->nameC (bt n k)=true)
def spanB (off n:Int):Bool:=decide (1<=n∧n<=512∧0<=off∧off<=512 - n)
def Zfe (e:Ev):Bool:=decide (e.name.size=0)
def ZU (e:Ev):Bool :=
 if e.kind=1 then decide (e.len=0)&&Zfe e&&decide (e.data.length<=64)&&spanB e.off e.data.length
 else if e.kind=2∨e.kind=3 then decide (e.data=[])&&Zfe e&&spanB e.off e.len
 else if e.kind=4 then decide (e.off=0∧e.data=[])&&Zfe e&&decide (0<=e.len∧e.len<=512)
 else if e.kind=5∨e.kind=6∨e.kind=7 then decide (e.off=0∧e.len=0∧e.data=[])&&nameB e.name
 else if e.kind=8 then decide (e.off=0∧e.len=0∧e.data=[])&&Zfe e
 else false
def spanE (e:Ev):Int × Int:=if e.kind=1 then (e.off,e.data.length) else (e.off,e.len)
def findV (v:Vw) (n:ByteArray):Option Nat:=v.snaps.findIdx? fun x=>decide (x.1=n)
def ZJ (v:Vw) (e:Ev):Int :=
 if ZU e=false then 1
 else if e.kind=1∨e.kind=2∨e.kind=3 then (if (v.data.length:Int)<(spanE e).1+(spanE e).2 then 3 else 0)
 else if e.kind=5 then (if (findV v e.name).isSome then 5 else if 8<=v.snaps.length then 6 else 0)
 else if e.kind=6∨e.kind=7 then (if (findV v e.name).isSome then 0 else 4)
 else 0
def every:Nat:=66
structure ImgI (h:Hd) (R:List RO):Prop where
 shape:h.l.ok
 size:h.size<=512
 sizes:∀ m ∈ h.marks,m.size<=512
 ids:IdsI h.ids h.newest
 next:h.newest<h.next
 len:R.length=every
 objs:∀ k,CopyI h.ids h.next (objAt R k)
 fit:∀ k,((objAt R k).h.getD []).length<=ZI h.l h.size k
 fits:∀ m ∈ h.marks,∀ k,((ratR (objAt R k) m.id).getD []).length<=ZI h.l m.size k
def Chg (newest:Int) (o o':RO):Prop:=o'=o∨∃ b,o'=ZbM o newest b
theorem Chg.rat {ids:List Int} {next newest:Int} {o o':RO} (c:Chg newest o o') (h:CopyI ids next o) {s:Int} (h0:0<s) (hs:s<=newest):ratR o' s=ratR o s:=by
 rcases c with rfl|⟨b,rfl⟩
 ·rfl
 ·exact Znn h h0 hs
theorem Chg.copy {ids:List Int} {next newest:Int} {o o':RO} (c:Chg newest o o') (h:CopyI ids next o) (hi:IdsI ids newest) (hx:newest<next):CopyI ids next o':=by
 rcases c with rfl|⟨b,rfl⟩
 ·exact h
 ·exact h.change hi hx b
theorem Zdu {R:List RO} {k:Nat} (hk:k<R.length) (o:RO) (j:Nat):objAt (R.set k o) j=if j=k then o else objAt R j:=by
 unfold objAt;rw [Zh6];by_cases e:k=j
 ·subst e;rw [Zb rfl,Zb hk,Zb rfl];rfl
 ·rw [Za e,Za (fun q=>e q.symm)]
theorem ImgI.set {h:Hd} {R:List RO} (H:ImgI h R) {k:Nat} (hk:k<every) {o':RO} (c:Chg h.newest (objAt R k) o') (hf:(o'.h.getD []).length<=ZI h.l h.size k) :
  ImgI h (R.set k o')∧(∀ s,0<s->s<=h.newest->∀ j,ratR (objAt (R.set k o') j) s=ratR (objAt R j) s)∧∀ j,(objAt (R.set k o') j).h=if j=k then o'.h else (objAt R j).h:=by
 have hk':k<R.length:=by rw [H.len];exact hk
 have hr:∀ s,0<s->s<=h.newest->∀ j,ratR (objAt (R.set k o') j) s=ratR (objAt R j) s:=fun s h0 hs j=>by
  rw [Zdu hk'];split
  ·rename_i e;subst e;exact c.rat (H.objs j) h0 hs
  ·rfl
 refine ⟨⟨H.shape,H.size,H.sizes,H.ids,H.next,by rw [Zde];exact H.len,fun j=>?_,fun j=>?_,fun m hm j=>?_⟩,hr,fun j=>?_⟩
 ·rw [Zdu hk'];split
  ·exact c.copy (H.objs k) H.ids H.next
  ·exact H.objs j
 ·rw [Zdu hk'];split
  ·rename_i e;subst e;exact hf
  ·exact H.fit j
 ·have hid:m.id ∈ h.ids:=Zbz hm;rw [hr m.id (H.ids.pos _ hid) (H.ids.last _ hid)];exact H.fits m hm j
 ·rw [Zdu hk'];split <;> rfl
theorem Ze0 {d q:List Int} {off:Nat} (hq:q≠[]) (i:Nat):(layB d off q).getD i 0=if off<=i∧i<off+q.length then q.getD (i - off) 0 else d.getD i 0:=by
 unfold layB;rw [Za hq];simp only [ZbF];have h1:((d++List.replicate (off+q.length - d.length) 0).take off).length=off:=by
  rw [ZN,ZA,Za7];omega
 by_cases e:i<off
 ·rw [Za (by omega),Zam,Zda (by rw [h1];exact e),Zid e];by_cases e2:i<d.length
  ·rw [Zda e2]
  ·rw [ZdF (by omega),Zb1 (l:=d) (by omega)];rw [Zd9];split <;> rfl
 ·by_cases e2:i<off+q.length
  ·rw [Zb ⟨by omega,e2⟩,Zam,ZdF (by rw [h1];omega),h1,Zda (by omega)]
  ·rw [Za (by omega),ZdF (by rw [ZA,h1];omega),ZA,h1,Zb9];congr 2;omega
theorem ZoK (d:List Int) (n i:Nat):(d.take n).getD i 0=if i<n then d.getD i 0 else 0:=by
 simp only [ZbF,Zci];split <;> rfl
theorem ZmA (d:List Int) {off n:Nat} (i:Nat):(Zdz d off n).getD i 0=if off<=i∧i<off+n then 0 else d.getD i 0:=by
 unfold Zdz;split
 ·rename_i h;split
  ·rename_i h2;rw [ZbF,Zb1 (by omega)];rfl
  ·rfl
 ·rename_i h;have hm:(min (n:Int) ((d.length:Int) - off)).toNat=min n (d.length - off):=by omega
  rw [hm,Ze0 (by intro e;have:=congrArg List.length e;simp at this;omega),Za7];simp only [ZcT];by_cases e:off<=i∧i<off+min n (d.length - off)
  ·rw [Zb e,Zb (by omega)];simp only [ZbF,Zd9];split <;> rfl
  ·rw [Za e];by_cases e2:off<=i∧i<off+n
   ·rw [Zb e2,ZbF,Zb1 (by omega)];rfl
   ·rw [Za e2]
theorem ImgI.beyond {h:Hd} {R:List RO} (H:ImgI h R) {x:Nat} (hx:h.size<=x):byteR h.l R 0 x=0:=by
 unfold byteR byteO;rw [Zcr];have h1:=H.fit (ZB h.l x).1;have h2:=mt (Zec H.shape (size:=h.size) (x:=x)).1 (by omega);rw [ZbF,Zb1 (by omega)];rfl
theorem Zfx {l:Ly} (h:l.ok) {x:Nat} (hx:x<512):(ZB l x).1<every:=by
 obtain ⟨o,u,c⟩:=l;have h1:=h.o1;have h2:=h.o2;have h3:=h.u1;have h4:=h.u2;have h5:=h.c1;have h6:=h.c2;simp only at h1 h2 h3 h4 h5 h6;unfold ZB every Ly.U Ly.P;simp only;have ho:o=3∨o=4∨o=5∨o=6:=by omega
 have hu:u=2∨u=3∨u=4∨u=5∨u=6:=by omega
 have hc:c=1∨c=2∨c=3∨c=4:=by omega
 rcases ho with rfl|rfl|rfl|rfl <;> rcases hu with rfl|rfl|rfl|rfl|rfl <;> first|omega|(rcases hc with rfl|rfl|rfl|rfl <;> (simp only [Nat.reducePow,Nat.reduceSub];omega))
def ZbQ (newest:Int) (p:List Int) (R:List RO) (e:Ext):List RO:=R.set e.obj (Zdy (objAt R e.obj) newest e.off ((p.drop e.at_).take e.len))
def Zbr (newest:Int) (whole:Ext->Bool) (R:List RO) (e:Ext):List RO:=R.set e.obj (if whole e then rcut (objAt R e.obj) newest 0 else ZdW (objAt R e.obj) newest e.off e.len)
structure Within (h:Hd) (e:Ext):Prop where
 obj:e.obj<every
 one:1<=e.len
 last:e.off+e.len<=ZI h.l h.size e.obj
theorem Zra {e:Ext} {o i j:Nat}:(o,i,j) ∈ e.items↔o=e.obj∧e.off<=i∧i<e.off+e.len∧j=e.at_+(i - e.off):=by
 unfold Ext.items;rw [ZH];constructor
 ·rintro ⟨k,hk,q⟩;have hk:=Za8.1 hk;simp only [Zba] at q;omega
 ·rintro ⟨h1,h2,h3,h4⟩;refine ⟨i - e.off,Za8.2 (by omega),?_⟩;simp only [Zba];omega
theorem ZmB {h:Hd} {R:List RO} (H:ImgI h R) {p:List Int} {e:Ext} (he:Within h e) (hp:e.at_+e.len<=p.length) :
  ImgI h (ZbQ h.newest p R e)∧(∀ s,0<s->s<=h.newest->∀ j,ratR (objAt (ZbQ h.newest p R e) j) s=ratR (objAt R j) s) ∧
   ∀ k i,byteO (objAt (ZbQ h.newest p R e) k) 0 i=if k=e.obj∧e.off<=i∧i<e.off+e.len then p.getD (e.at_+(i - e.off)) 0 else byteO (objAt R k) 0 i:=by
 have h1:=he.one;have hq:((p.drop e.at_).take e.len).length=e.len:=by rw [ZN,Zas];omega
 have hne:(p.drop e.at_).take e.len≠[]:=fun q=>by rw [q] at hq;simp at hq;omega
 have hw:Zdy (objAt R e.obj) h.newest e.off ((p.drop e.at_).take e.len)=ZbM (objAt R e.obj) h.newest (some (layB ((objAt R e.obj).h.getD []) e.off ((p.drop e.at_).take e.len))):=by
  unfold Zdy;rw [Za hne,ZcT]
 have hf:(((Zdy (objAt R e.obj) h.newest e.off ((p.drop e.at_).take e.len)).h).getD []).length<=ZI h.l h.size e.obj:=by
  rw [hw];show (layB _ _ _).length<=_;rw [ZgN,Za hne,hq];have:=H.fit e.obj;have:=he.last;omega
 obtain ⟨a,b,c⟩:=H.set he.obj (.inr ⟨_,hw⟩) hf;refine ⟨a,b,fun k i=>?_⟩;unfold byteO;rw [Zcr,Zcr];show ((objAt (R.set e.obj _) k).h.getD []).getD i 0=_;rw [c k];by_cases hk:k=e.obj
 ·subst hk;rw [Zb rfl,hw];show (layB _ _ _).getD i 0=_;rw [Ze0 hne,hq];by_cases hi:e.off<=i∧i<e.off+e.len
  ·rw [Zb hi,Zb ⟨rfl,hi⟩];simp only [ZbF];rw [Zid (by omega),Zb9]
  ·rw [Za hi,Za (fun q=>hi q.2)]
 ·rw [Za hk,Za (fun q=>hk q.1)]
theorem ZmC {h:Hd} {R:List RO} (H:ImgI h R) {e:Ext} (he:Within h e) (whole:Ext->Bool) :
  ImgI h (Zbr h.newest whole R e)∧(∀ s,0<s->s<=h.newest->∀ j,ratR (objAt (Zbr h.newest whole R e) j) s=ratR (objAt R j) s) ∧
   ∀ k i,byteO (objAt (Zbr h.newest whole R e) k) 0 i=if k=e.obj∧(whole e=true∨e.off<=i∧i<e.off+e.len) then 0 else byteO (objAt R k) 0 i:=by
 obtain ⟨o',ho'⟩:∃ x,(if whole e then rcut (objAt R e.obj) h.newest 0 else ZdW (objAt R e.obj) h.newest e.off e.len)=x:=⟨_,rfl⟩;have key:Chg h.newest (objAt R e.obj) o'∧(o'.h.getD []).length<=((objAt R e.obj).h.getD []).length∧∀ i,(o'.h.getD []).getD i 0=if whole e=true∨e.off<=i∧i<e.off+e.len then 0 else ((objAt R e.obj).h.getD []).getD i 0:=by
  subst ho';generalize objAt R e.obj=o;cases hw:whole e with
  | true =>
   rw [Zb rfl];unfold rcut;cases hh:o.h with
   | none=>exact ⟨.inl rfl,by simp [hh],fun i=>by simp [hh]⟩
   | some d =>
    simp only;rw [Za (by omega),Zb trivial];exact ⟨.inr ⟨_,rfl⟩,by show 0<=_;omega,fun i=>by rw [Zb (.inl trivial)];rfl⟩
  | false =>
   rw [Za (by simp)];unfold ZdW;cases hh:o.h with
   | none =>
    refine ⟨.inl rfl,by simp [hh],fun i=>?_⟩;simp [hh]
   | some d =>
    refine ⟨.inr ⟨_,rfl⟩,?_,fun i=>?_⟩
    ·show (Zdz d e.off e.len).length<=d.length;rw [Zjd d (by omega)];exact Z9 _
    ·show (Zdz d e.off e.len).getD i 0=_;rw [ZmA];by_cases hi:e.off<=i∧i<e.off+e.len
     ·rw [Zb hi,Zb (.inr hi)]
     ·rw [Za hi,Za (by simp [hi])];rfl
 obtain ⟨k1,k2,k3⟩:=key;obtain ⟨a,b,c⟩:=H.set he.obj k1 (ZQ k2 (H.fit e.obj));unfold Zbr;rw [ho'];refine ⟨a,b,fun k i=>?_⟩;unfold byteO;rw [Zcr,Zcr,c k];by_cases hk:k=e.obj
 ·subst hk;rw [Zb rfl,k3];by_cases hi:whole e=true∨e.off<=i∧i<e.off+e.len
  ·rw [Zb hi,Zb ⟨rfl,hi⟩]
  ·rw [Za hi,Za (fun q=>hi q.2)]
 ·rw [Za hk,Za (fun q=>hk q.1)]
theorem Cover.within {h:Hd} (hs:h.l.ok) (h512:h.size<=512) {off n:Nat} {es:List Ext} (c:Cover h.l off n es) (hn:off+n<=h.size):∀ e ∈ es,Within h e∧e.at_+e.len<=n:=by
 intro e he;have h1:=c.one e he;have hm:∀ i,e.off<=i->i<e.off+e.len->∃ j,j<n∧e.obj=(ZB h.l (off+j)).1∧i=(ZB h.l (off+j)).2∧e.at_+(i - e.off)=j:=fun i h2 h3=>by
  have:(e.obj,i,e.at_+(i - e.off)) ∈ es.flatMap Ext.items:=Zcz.2 ⟨e,he,Zra.2 ⟨rfl,h2,h3,rfl⟩⟩;rw [c.flat] at this;obtain ⟨j,hj,q⟩:=ZH.1 this;simp only [Zba] at q;exact ⟨j,Za8.1 hj,q.1.symm,q.2.1.symm,q.2.2.symm⟩
 obtain ⟨j,h2,h3,h4,h5⟩:=hm (e.off+e.len - 1) (by omega) (by omega);refine ⟨⟨?_,h1,?_⟩,by omega⟩
 ·rw [h3];exact Zfx hs (by omega)
 ·have:=(Zec hs (size:=h.size) (x:=off+j)).2 (by omega);rw [<-h3,<-h4] at this;omega
theorem Zj2 {h:Hd} {p:List Int}:∀ {es:List Ext} {R:List RO},ImgI h R->(∀ e ∈ es,Within h e∧e.at_+e.len<=p.length) ->
  ImgI h (es.foldl (ZbQ h.newest p) R)∧(∀ s,0<s->s<=h.newest->∀ j,ratR (objAt (es.foldl (ZbQ h.newest p) R) j) s=ratR (objAt R j) s) ∧
   ∀ k i,(∃ j,(k,i,j) ∈ es.flatMap Ext.items∧byteO (objAt (es.foldl (ZbQ h.newest p) R) k) 0 i=p.getD j 0)∨((∀ j,(k,i,j) ∉ es.flatMap Ext.items)∧byteO (objAt (es.foldl (ZbQ h.newest p) R) k) 0 i=byteO (objAt R k) 0 i)
 | [],R,H,_=>⟨H,fun _ _ _ _=>rfl,fun k i=>.inr ⟨fun j hj=>by simp at hj,rfl⟩⟩
 | e::es,R,H,he=>by
  obtain ⟨q1,q2⟩:=he e (Z0 ..);obtain ⟨a,b,c⟩:=ZmB H q1 q2;obtain ⟨a2,b2,c2⟩:=Zj2 (es:=es) a fun x hx=>he x (Z8 _ hx);refine ⟨a2,fun s h0 hs j=>(b2 s h0 hs j).trans (b s h0 hs j),fun k i=>?_⟩;rw [ZaJ];rcases c2 k i with ⟨j,h1,h2⟩|⟨h1,h2⟩
  ·exact .inl ⟨j,Zfj _ h1,h2⟩
  ·rw [c k i] at h2;by_cases hk:k=e.obj∧e.off<=i∧i<e.off+e.len
   ·rw [Zb hk] at h2;exact .inl ⟨_,Zet _ (Zra.2 ⟨hk.1,hk.2.1,hk.2.2,rfl⟩),h2⟩
   ·rw [Za hk] at h2;refine .inr ⟨fun j hj=>?_,h2⟩;rcases ZY.1 hj with q|q
    ·have:=Zra.1 q;exact hk ⟨this.1,this.2.1,this.2.2.1⟩
    ·exact h1 j q
theorem ZiR {h:Hd} {R:List RO} (H:ImgI h R) {off:Nat} {p:List Int} {es:List Ext} (c:Cover h.l off p.length es) (hn:off+p.length<=h.size) :
  ImgI h (es.foldl (ZbQ h.newest p) R)∧(∀ s,0<s->s<=h.newest->∀ x,byteR h.l (es.foldl (ZbQ h.newest p) R) s x=byteR h.l R s x) ∧
   ∀ x,byteR h.l (es.foldl (ZbQ h.newest p) R) 0 x=if off<=x∧x<off+p.length then p.getD (x - off) 0 else byteR h.l R 0 x:=by
 obtain ⟨a,b,d⟩:=Zj2 (p:=p) H (c.within H.shape H.size hn);refine ⟨a,fun s h0 hs x=>by unfold byteR byteO;rw [b s h0 hs],fun x=>?_⟩;unfold byteR;rcases d (ZB h.l x).1 (ZB h.l x).2 with ⟨j,h1,h2⟩|⟨h1,h2⟩
 ·rw [h2];rw [c.flat] at h1;obtain ⟨j',hj,q⟩:=ZH.1 h1;simp only [Zba] at q;have hx:off+j'=x:=ZfU H.shape (Prod.ext q.1 q.2.1);have:=Za8.1 hj;rw [Zb (by omega)];congr 1;omega
 ·rw [h2];rw [Za];rintro ⟨h3,h4⟩;refine h1 (x - off) ?_;rw [c.flat];refine ZH.2 ⟨x - off,Za8.2 (by omega),?_⟩;rw [show off+(x - off)=x by omega]
theorem Zj3 {h:Hd} {whole:Ext->Bool}:∀ {es:List Ext} {R:List RO},ImgI h R->(∀ e ∈ es,Within h e) ->
  ImgI h (es.foldl (Zbr h.newest whole) R)∧(∀ s,0<s->s<=h.newest->∀ j,ratR (objAt (es.foldl (Zbr h.newest whole) R) j) s=ratR (objAt R j) s) ∧
   ∀ k i,((∃ e ∈ es,k=e.obj∧(whole e=true∨e.off<=i∧i<e.off+e.len))∧byteO (objAt (es.foldl (Zbr h.newest whole) R) k) 0 i=0)∨((∀ e ∈ es,¬ (k=e.obj∧(whole e=true∨e.off<=i∧i<e.off+e.len)))∧byteO (objAt (es.foldl (Zbr h.newest whole) R) k) 0 i=byteO (objAt R k) 0 i)
 | [],R,H,_=>⟨H,fun _ _ _ _=>rfl,fun k i=>.inr ⟨fun e he=>(by cases he),rfl⟩⟩
 | e::es,R,H,he=>by
  obtain ⟨a,b,c⟩:=ZmC H (he e (Z0 ..)) whole;obtain ⟨a2,b2,c2⟩:=Zj3 (es:=es) (whole:=whole) a fun x hx=>he x (Z8 _ hx);refine ⟨a2,fun s h0 hs j=>(b2 s h0 hs j).trans (b s h0 hs j),fun k i=>?_⟩;rcases c2 k i with ⟨⟨x,hx,h1⟩,h2⟩|⟨h1,h2⟩
  ·exact .inl ⟨⟨x,Z8 _ hx,h1⟩,h2⟩
  ·rw [c k i] at h2;by_cases hk:k=e.obj∧(whole e=true∨e.off<=i∧i<e.off+e.len)
   ·rw [Zb hk] at h2;exact .inl ⟨⟨e,Z0 ..,hk⟩,h2⟩
   ·rw [Za hk] at h2;refine .inr ⟨fun x hx=>?_,h2⟩;rcases ZO.1 hx with rfl|hx
    ·exact hk
    ·exact h1 x hx
theorem ZiS {h:Hd} {R:List RO} (H:ImgI h R) {off n:Nat} {es:List Ext} (c:Cover h.l off n es) (hn:off+n<=h.size) {whole:Ext->Bool}
  (hw:∀ e ∈ es,whole e=true->∀ x,x<h.size->(ZB h.l x).1=e.obj->off<=x∧x<off+n) :
  ImgI h (es.foldl (Zbr h.newest whole) R)∧(∀ s,0<s->s<=h.newest->∀ x,byteR h.l (es.foldl (Zbr h.newest whole) R) s x=byteR h.l R s x) ∧
   ∀ x,byteR h.l (es.foldl (Zbr h.newest whole) R) 0 x=if off<=x∧x<off+n then 0 else byteR h.l R 0 x:=by
 obtain ⟨a,b,d⟩:=Zj3 (whole:=whole) H fun e he=>(c.within H.shape H.size hn e he).1;refine ⟨a,fun s h0 hs x=>by unfold byteR byteO;rw [b s h0 hs],fun x=>?_⟩;by_cases hx:h.size<=x
 ·rw [a.beyond hx,H.beyond hx];split <;> rfl
 have hx:x<h.size:=by omega
 have e1:∀ R',byteR h.l R' 0 x=byteO (objAt R' (ZB h.l x).1) 0 (ZB h.l x).2:=fun _=>rfl;rw [e1,e1];rcases d (ZB h.l x).1 (ZB h.l x).2 with ⟨⟨e,he,h1,h3⟩,h2⟩|⟨h1,h2⟩
 ·rw [h2];rcases h3 with h3|h3
  ·rw [Zb (hw e he h3 x hx h1)]
  ·have:((ZB h.l x).1,(ZB h.l x).2,e.at_+((ZB h.l x).2 - e.off)) ∈ es.flatMap Ext.items:=Zcz.2 ⟨e,he,Zra.2 ⟨h1,h3.1,h3.2,rfl⟩⟩;rw [c.flat] at this;obtain ⟨j',hj,q⟩:=ZH.1 this;simp only [Zba] at q;have hxx:off+j'=x:=ZfU H.shape (Prod.ext q.1 q.2.1);have:=Za8.1 hj;rw [Zb (by omega)]
 ·rw [h2,Za];rintro ⟨h3,h4⟩;have:((ZB h.l x).1,(ZB h.l x).2,x - off) ∈ es.flatMap Ext.items:=by
   rw [c.flat];refine ZH.2 ⟨x - off,Za8.2 (by omega),?_⟩;rw [show off+(x - off)=x by omega]
  obtain ⟨e,he,q⟩:=Zcz.1 this;have q:=Zra.1 q;exact h1 e he ⟨q.1,.inr ⟨q.2.1,q.2.2.1⟩⟩
end Go.Proofs.YtcbdghojlbpomaaGreat
