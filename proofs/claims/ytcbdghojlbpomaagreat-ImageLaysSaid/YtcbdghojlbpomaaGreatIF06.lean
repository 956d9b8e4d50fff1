import Derived.Test.YtcbdghojlbpomaaGreatIF05
set_option linter.all false
set_option maxRecDepth 4000
set_option maxHeartbeats 8000000
open Go.RowKit
open Go.IntKind (i64 u64)
open Go.Value (int pointer slice)
open Go.Obj (cells)
namespace Go.Proofs.YtcbdghojlbpomaaGreat
open Tryz
open HP (pt mapOf)
variable {W w w':World} {I:Hp} {l:List HP}
def dK (img num snap:Int):K4:=⟨4,img,num,snap⟩
def nmW:ByteArray:=⟨#[119]⟩
def objB (img num:Int):Bool:=decide (0<=img∧img<=255∧0<=num∧num<=512)
def snapB (n:Int):Bool:=decide (0<=n∧n<=1073741824)
def ZG (off n:Int):Bool:=decide (0<=off∧off<=64∧0<=n∧n<=64 - off)
def cmayS (S:Str) (fine:Bool):Int:=if S.on=false then 7 else if fine=false then 1 else 0
def copyB (S:Str) (num:Int) (k:K4):Bool:=decide (k.num=num∧k.snap≠0)&&decide ((attrS S k nmW).2=0)
def ZaP (S:Str) (num:Int) (ks:List K4):List Int:=(ks.filter (copyB S num)).map (·.snap)
def ZcK (S:Str) (img num:Int):List Int:=ZaP S num (ZaQ S ⟨4,img⟩)
def atS (S:Str) (img num snap:Int):K4 × Bool :=
 match (if 0<snap then (ZcK S img num).find? (fun n=>decide (snap<=n)) else none) with
 | some n=>(dK img num n,decide ((attrS S (dK img num n) nmW).1=[1]))
 | none=>(dK img num 0,decide (whyS S (dK img num 0)=0))
def allS (S:Str) (k:K4):List Int:=(readS S k 0 (lenAt S k)).1
def padB (b:List Int) (off n:Nat):List Int:=(b.drop off).take n++List.replicate (n - (b.length - off)) 0
def ZbO (S:Str) (img num snap off n:Int):List Int × Int :=
 if cmayS S (objB img num&&snapB snap&&ZG off n)≠0 then ([],cmayS S (objB img num&&snapB snap&&ZG off n))
 else (padB (if (atS S img num snap).2 then allS S (atS S img num snap).1 else []) off.toNat n.toNat,0)
def Zct (S:Str) (img num snap:Int):Bool × Int :=
 if cmayS S (objB img num&&snapB snap)≠0 then (false,cmayS S (objB img num&&snapB snap)) else ((atS S img num snap).2,0)
def ZbP (S:Str) (img num snap:Int):Int × Int :=
 if cmayS S (objB img num&&snapB snap)≠0 then (0,cmayS S (objB img num&&snapB snap))
 else (if (atS S img num snap).2 then lenAt S (atS S img num snap).1 else 0,0)
def thenE (r:Int × Str) (f:Str->Int × Str):Int × Str:=if r.1=0 then f r.2 else r
def Zbp (r:Int × Str) (k:K4):Int × Str:=if r.1=6 then (if (dropS r.2 k).1=7 then 7 else 6,(dropS r.2 k).2) else r
def saveA (S:Str) (k:K4):Int × Str:=if whyS S k=0 then dropS S k else (0,S)
def saveB (S:Str) (k head:K4):Int × Str:=if whyS S head=0 then Zch S k (allS S head) else (0,S)
def saveC (S:Str) (k:K4) (st:Int):Int × Str:=if (setS S k nmW [st]).1=0 then Zr (setS S k nmW [st]).2 else Zbp (setS S k nmW [st]) k
def ZdV (S:Str) (head:K4):Int:=if whyS S head=0 then 1 else 2
def saveD (S:Str) (k head:K4):Int × Str:=if (saveB S k head).1=0 then saveC (saveB S k head).2 k (ZdV S head) else Zbp (saveB S k head) k
def saveS (S:Str) (img num newest:Int):Int × Str :=
 thenE (saveA S (dK img num newest)) fun S1=>thenE (makeS S1 (dK img num newest)) fun S2=>saveD S2 (dK img num newest) (dK img num 0)
def Zgd (S:Str) (img num newest:Int):Bool:=match (ZcK S img num).getLast? with
 | some n=>decide (newest<=n)
 | none=>false
def Zbq (S:Str) (img num newest:Int):Int × Str:=if newest=0∨Zgd S img num newest=true then (0,S) else saveS S img num newest
def clayS (S:Str) (k:K4) (off:Int) (p:List Int):Int × Str :=
 if whyS S k=0 then ZaW S k off p else thenE (makeS S k) fun S1=>Zbp (ZaW S1 k off p) k
def ZbL (S:Str) (img num newest off:Int) (p:List Int):Int × Str :=
 if cmayS S (objB img num&&snapB newest&&ZG off p.length)≠0 then (cmayS S (objB img num&&snapB newest&&ZG off p.length),S)
 else if p=[] then (0,S) else thenE (Zbq S img num newest) fun S1=>clayS S1 (dK img num 0) off p
def ZbC (S:Str) (img num newest off n:Int):Int × Str :=
 if cmayS S (objB img num&&snapB newest&&ZG off n)≠0 then (cmayS S (objB img num&&snapB newest&&ZG off n),S)
 else if whyS S (dK img num 0)≠0 then (0,S)
 else thenE (Zbq S img num newest) fun S1=>if min n (lenAt S (dK img num 0) - off)<1 then (0,S1) else ZaW S1 (dK img num 0) off (List.replicate (min n (lenAt S (dK img num 0) - off)).toNat 0)
def ccutS (S:Str) (img num newest size:Int):Int × Str :=
 if cmayS S (objB img num&&snapB newest&&ZG 0 size)≠0 then (cmayS S (objB img num&&snapB newest&&ZG 0 size),S)
 else if whyS S (dK img num 0)≠0∨(0<size∧lenAt S (dK img num 0)<=size) then (0,S)
 else thenE (Zbq S img num newest) fun S1=>if size=0 then dropS S1 (dK img num 0) else trimS S1 (dK img num 0) size
def turnS (S:Str) (k:K4) (p:List Int):Int × Str :=
 if p=[] then (if whyS S k=0 then dropS S k else (0,S))
 else if whyS S k≠0 then clayS S k 0 p
 else if roomS S<p.length - lenAt S k then (6,S)
 else if (p.length:Int)<lenAt S k then thenE (trimS S k p.length) fun S1=>ZaW S1 k 0 p
 else ZaW S k 0 p
def Zlt (S:Str) (img num newest:Int) (p:List Int):Int × Str :=
 if cmayS S (objB img num&&snapB newest&&ZG 0 p.length)≠0 then (cmayS S (objB img num&&snapB newest&&ZG 0 p.length),S)
 else thenE (Zbq S img num newest) fun S1=>turnS S1 (dK img num 0) p
def backL (S:Str) (img num snap:Int):List Int:=if (atS S img num snap).2 then allS S (atS S img num snap).1 else []
def ZbY (S:Str) (img num newest snap:Int):Int × Str :=
 if cmayS S (objB img num&&snapB newest&&snapB snap)≠0 then (cmayS S (objB img num&&snapB newest&&snapB snap),S)
 else thenE (Zbq S img num newest) fun S1=>turnS S1 (dK img num 0) (backL S1 img num snap)
def seenB (marks:List Int) (below n:Int):Bool:=marks.any fun m=>decide (below<m)&&decide (m<=n)
def tidyL (marks:List Int):List K4->Int->Int->Str->Int × Str
 | [],_,_,S=>(0,S)
 | k::ks,last,below,S =>
  let below:=if k.num=last then below else 0
  if k.snap=0 then tidyL marks ks k.num below S
  else if (attrS S k nmW).2=0∧seenB marks below k.snap=true then tidyL marks ks k.num k.snap S
  else thenE (dropS S k) fun S1=>tidyL marks ks k.num (if (attrS S k nmW).2=0 then k.snap else below) S1
def tidyS (S:Str) (img:Int) (marks:List Int):Int × Str :=
 if cmayS S (objB img 0)≠0 then (cmayS S (objB img 0),S) else tidyL marks (ZaQ S ⟨4,img⟩) (-1) 0 S
def Zrb (S:Str) (img num:Int):List Int × Int:=if cmayS S (objB img num)≠0 then ([],cmayS S (objB img num)) else (ZcK S img num,0)
theorem ZcZ {r:Int × Str} {f:Str->Int × Str} {m n:Nat} (h:Keeps r.2 n) (hm:m<=n) (hf:Keeps r.2 n->Keeps (f r.2).2 m):Keeps (thenE r f).2 m:=by
 unfold thenE;split
 ·exact hf h
 ·exact h.fewer hm
theorem ZgJ {r:Int × Str} {k:K4} {m:Nat} (h:Keeps r.2 (m+2)):Keeps (Zbp r k).2 m:=by
 unfold Zbp;split
 ·exact ZdP h
 ·exact h.fewer (by omega)
theorem Zmu {S:Str} {k head:K4} {m:Nat} (h:Keeps S (m+6)):Keeps (saveD S k head).2 m:=by
 have hB:Keeps (saveB S k head).2 (m+4):=by
  unfold saveB;split
  ·exact Zir h
  ·exact h.fewer (by omega)
 have hs:=ZfF (k:=k) (nm:=nmW) (v:=[ZdV S head]) hB;unfold saveD;split
 ·unfold saveC;split
  ·exact ZbS (hs.fewer (by omega))
  ·exact ZgJ hs
 ·exact ZgJ (hB.fewer (by omega))
theorem Zmv {S:Str} {img num newest:Int} {m:Nat} (h:Keeps S (m+10)):Keeps (saveS S img num newest).2 m:=by
 have hA:Keeps (saveA S (dK img num newest)).2 (m+8):=by
  unfold saveA;split
  ·exact ZdP h
  ·exact h.fewer (by omega)
 exact ZcZ hA (by omega) fun hA=>ZcZ (Zeb hA) (by omega) fun h2=>Zmu h2
theorem Zdh {S:Str} {img num newest:Int} {m:Nat} (h:Keeps S (m+10)):Keeps (Zbq S img num newest).2 m:=by
 unfold Zbq;split
 ·exact h.fewer (by omega)
 ·exact Zmv h
theorem ZiI {S:Str} {k:K4} {off:Int} {p:List Int} {m:Nat} (h:Keeps S (m+6)):Keeps (clayS S k off p).2 m:=by
 unfold clayS;split
 ·exact ZdO (h.fewer (by omega))
 ·exact ZcZ (Zeb h) (by omega) fun h2=>ZgJ (ZdO h2)
theorem Zmw {S:Str} {k:K4} {p:List Int} {m:Nat} (h:Keeps S (m+6)):Keeps (turnS S k p).2 m:=by
 unfold turnS;split
 ·split
  ·exact ZdP (h.fewer (by omega))
  ·exact h.fewer (by omega)
 split
 ·exact ZiI h
 split
 ·exact h.fewer (by omega)
 split
 ·exact ZcZ (ZgO (m:=m+4) h) (by omega) fun h2=>ZdO (h2.fewer (by omega))
 ·exact ZdO (h.fewer (by omega))
theorem ZlV {S:Str} {img num newest off:Int} {p:List Int} {m:Nat} (h:Keeps S (m+16)):Keeps (ZbL S img num newest off p).2 m:=by
 unfold ZbL;split
 ·exact h.fewer (by omega)
 split
 ·exact h.fewer (by omega)
 ·exact ZcZ (Zdh h) (by omega) fun h2=>ZiI h2
theorem Zis {S:Str} {img num newest off n:Int} {m:Nat} (h:Keeps S (m+16)):Keeps (ZbC S img num newest off n).2 m:=by
 unfold ZbC;split
 ·exact h.fewer (by omega)
 split
 ·exact h.fewer (by omega)
 ·refine ZcZ (Zdh h) (by omega) fun h2=>?_;split
  ·exact h2.fewer (by omega)
  ·exact ZdO (h2.fewer (by omega))
theorem ZiJ {S:Str} {img num newest size:Int} {m:Nat} (h:Keeps S (m+16)):Keeps (ccutS S img num newest size).2 m:=by
 unfold ccutS;split
 ·exact h.fewer (by omega)
 split
 ·exact h.fewer (by omega)
 ·refine ZcZ (Zdh h) (by omega) fun h2=>?_;split
  ·exact ZdP (h2.fewer (by omega))
  ·exact ZgO (h2.fewer (by omega))
theorem Ziy {S:Str} {img num newest snap:Int} {m:Nat} (h:Keeps S (m+16)):Keeps (ZbY S img num newest snap).2 m:=by
 unfold ZbY;split
 ·exact h.fewer (by omega)
 ·exact ZcZ (Zdh h) (by omega) fun h2=>Zmw h2
theorem Zfw {marks:List Int}:∀ {ks:List K4} {last below:Int} {S:Str} {m:Nat},Keeps S (m+2*ks.length)->Keeps (tidyL marks ks last below S).2 m
 | [],_,_,_,_,h=>h
 | k::ks,last,below,S,m,h=>by
  have h2:Keeps S (m+2*ks.length+2):=h.fewer (by simp only [Zat];omega);unfold tidyL;simp only;generalize (if k.num=last then below else 0)=bl;split
  ·exact Zfw (h2.fewer (by omega))
  split
  ·exact Zfw (h2.fewer (by omega))
  ·exact ZcZ (ZdP h2) (by omega) fun h3=>Zfw h3
theorem ZiK {S:Str} {img:Int} {marks:List Int} {m:Nat} (h:Keeps S (m+2*(ZaQ S ⟨4,img⟩).length)):Keeps (tidyS S img marks).2 m:=by
 unfold tidyS;split
 ·exact h.fewer (by omega)
 ·exact Zfw h
def sumS (L:List (K4 × TS)):Int:=(L.map fun x=>x.2.size).sum
theorem Zow (t:TS):0<=t.size:=by
 unfold TS.size Zbn;have:∀ l:List (ByteArray × List Int),0<=(l.map fun x=>(x.1.size:Int)+x.2.length).sum:=fun l=>by
  induction l with
  | nil=>simp
  | cons a l ih=>simp only [Zav,Zd1];omega
 have:=this t.attr;omega
theorem ZiL:∀ L:List (K4 × TS),0<=sumS L
 | []=>by simp [sumS]
 | x::L=>by
  have:=ZiL L;have h:=Zow x.2;have e:sumS (x::L)=x.2.size+sumS L:=by simp [sumS]
  omega
theorem ZpJ {l k:List Int} (h:l.Perm k):l.sum=k.sum:=by
 induction h with
 | nil=>rfl
 | cons a _ ih=>simp [ih]
 | swap a b l=>simp only [Zd1];omega
 | trans _ _ i j=>exact i.trans j
theorem Znf {L:List (K4 × TS)} (hn:(L.map (·.1)).Nodup) (k:K4):sumS L=sizeO (get k L)+sumS (del k L):=by
 cases hg:get k L with
 | none=>rw [Zcm hg];simp [sizeO]
 | some t =>
  have h:=ZpJ ((ZeI hn hg).map fun x=>x.2.size);unfold sumS;rw [h];simp [sizeO]
section
variable {K V : Type} [DecidableEq K]
theorem ZhR (k k':K) (v:V) (L:List (K × V)):get k' (put k v L)=if k'=k then some v else get k' L:=by
 by_cases e:k'=k
 ·subst e;simp [ZdM]
 ·simp [ZeN e,e]
theorem Zqs (k k':K) (L:List (K × V)):get k' (del k L)=if k'=k then none else get k' L:=by
 by_cases e:k'=k
 ·subst e;simp [Zl3]
 ·simp [ZfB e,e]
end
def Coh (S:Str):Prop:=∀ k,get k S.seen=(lateAt S k).foldl stepD (get k S.dry)
theorem ZjP (S:Str) (k k':K4) (was:Int) (o:Option TS):get k' (showS S k was o).seen=if k'=k then o else get k' S.seen:=by
 cases o with
 | none=>exact Zqs k k' S.seen
 | some t=>exact ZhR k k' t S.seen
theorem Zqt (x:Int):IntKind.i64.wrap x=wrap64 x:=by rw [Z2];unfold wrap64;omega
structure Done (S S':Str) (k:K4) (d:Dd):Prop where
 room:S'.room=S.room
 on:S'.on=S.on
 armed:S'.armed=S.armed
 keep:S'.keep=S.keep
 torn:S'.torn=S.torn
 dry:S'.dry=S.dry
 seen:∀ k',get k' S'.seen=if k'=k then stepD (get k S.seen) d else get k' S.seen
 late:∀ k',lateAt S' k'=if k'=k then lateAt S k++[d] else lateAt S k'
 used:S'.used=wrap64 (S.used+(sizeO (stepD (get k S.seen) d) - wrap64 (sizeO (get k S.seen))))
 deeds:S'.deeds=wrap64 (S.deeds+1)
 wet:S'.wet=wrap64 (S.wet+1)
 fuse:S.armed=true->0<S.fuse∧S'.fuse=S.fuse - 1
theorem ZiM {S:Str} (h:(ZT S).1=false):∃ f,(ZT S).2={ S with fuse:=f }∧(S.armed=true->0<S.fuse∧f=S.fuse - 1):=by
 unfold ZT at *;split
 ·rename_i ha;rw [Zb ha] at h;split
  ·rename_i hf;exact ⟨_,rfl,fun _=>⟨hf,rfl⟩⟩
  ·rename_i hf;rw [Za hf] at h;cases h
 ·rename_i ha;exact ⟨S.fuse,rfl,fun h=>absurd h ha⟩
theorem ZhS {S:Str} {k:K4} {d:Dd} (h:(ZT S).1=false):(doS S k d).1=false∧Done S (doS S k d).2 k d:=by
 obtain ⟨f,hf,hfu⟩:=ZiM h;have e:doS S k d=(false,{ showS { S with fuse:=f } k (wrap64 (sizeO (get k S.seen))) (stepD (get k S.seen) d) with late:=put k (lateAt { S with fuse:=f } k++[d]) S.late,wet:=wrap64 (S.wet+1),deeds:=wrap64 (S.deeds+1) }):=by
  unfold doS;rw [h,hf];rfl
 rw [e];refine ⟨rfl,rfl,rfl,rfl,rfl,rfl,rfl,fun k'=>ZjP { S with fuse:=f } k k' (wrap64 (sizeO (get k S.seen))) (stepD (get k S.seen) d),fun k'=>?_,?_,rfl,rfl,hfu⟩
 ·show (get k' (put k (lateAt S k++[d]) S.late)).getD []=_;rw [ZhR];split
  ·rfl
  ·rfl
 ·exact Zqt _
theorem Done.coh {S S':Str} {k:K4} {d:Dd} (h:Done S S' k d) (hc:Coh S):Coh S':=fun k'=>by
 rw [h.seen,h.late,h.dry];split
 ·rename_i e;subst e;rw [List.foldl_append,<-hc];rfl
 ·exact hc k'
structure Fell (S S':Str) (keep:List Int) (torn:Int):Prop where
 room:S'.room=S.room
 on:S'.on=false
 armed:S'.armed=false
 late:S'.late=[]
 wet:S'.wet=0
 deeds:S'.deeds=S.deeds
 obj:∃ N:K4->Int,∀ k,get k S'.seen=(leftS S k (N k) torn).1∧get k S'.dry=(leftS S k (N k) torn).1
theorem Zmx {S:Str} {k:K4} (h:k ∉ S.late.map (·.1)):lateAt S k=[]:=by
 unfold lateAt;have:get k S.late=none:=get_none.2 fun x hx e=>h (ZH.2 ⟨x,hx,e⟩);rw [this];rfl
theorem Zng (S:Str) (k:K4):get k (ZbX S)=if k ∈ S.late.map (·.1) then get k S.seen else get k S.dry:=by
 unfold ZbX dryBy;by_cases hk:k ∈ S.late.map (·.1)
 ·rw [Zb hk];have h1:∀ (L R:List (K4 × TS)),get k (L.filter (fun x=>!(S.late.map (·.1)).contains x.1)++R)=get k R:=fun L R=>by
   induction L with
   | nil=>rfl
   | cons x L ih =>
    by_cases hx:(S.late.map (·.1)).contains x.1=true
    ·rw [ZdZ (by simpa using hx)];exact ih
    ·rw [Zfn (by simpa using hx),ZZ];have hne:k≠x.1:=fun e=>hx (by rw [<-e];exact ZcW.2 hk);obtain ⟨a,b⟩:=x;simp only [get,hne,Zau];exact ih
  rw [h1];induction S.seen with
  | nil=>rfl
  | cons x L ih =>
   obtain ⟨a,b⟩:=x;by_cases hx:(S.late.map (·.1)).contains a=true
   ·rw [Zfn (by simpa using hx)];unfold get;rw [ih]
   ·rw [ZdZ (by simpa using hx)];have hne:k≠a:=fun e=>hx (by rw [<-e];exact ZcW.2 hk);rw [show get k ((a,b)::L)=get k L by simp [get,hne]];exact ih
 ·rw [Za hk]
  have h2:∀ (R:List (K4 × TS)),get k (R.filter (fun x=>(S.late.map (·.1)).contains x.1))=none:=fun R=>get_none.2 fun x hx e=>hk (by
   have:=(Z1.1 hx).2;rw [e] at this
   exact ZcW.1 this)
  have h3:∀ (L R:List (K4 × TS)),get k R=none->get k (L.filter (fun x=>!(S.late.map (·.1)).contains x.1)++R)=get k L:=fun L R hR=>by
   induction L with
   | nil=>simpa [get] using hR
   | cons x L ih =>
    obtain ⟨a,b⟩:=x;by_cases hx:(S.late.map (·.1)).contains a=true
    ·rw [ZdZ (by simpa using hx)];have hne:k≠a:=fun e=>hk (by rw [e];exact ZcW.1 hx);rw [show get k ((a,b)::L)=get k L by simp [get,hne]];exact ih
    ·rw [Zfn (by simpa using hx),ZZ];unfold get;rw [ih]
  exact h3 _ _ (h2 _)
structure Dried (S S':Str):Prop where
 room:S'.room=S.room
 on:S'.on=S.on
 armed:S'.armed=S.armed
 keep:S'.keep=S.keep
 torn:S'.torn=S.torn
 seen:S'.seen=S.seen
 used:S'.used=S.used
 late:S'.late=[]
 wet:S'.wet=0
 deeds:S'.deeds=wrap64 (S.deeds+1)
 dry:∀ k,get k S'.dry=get k S.seen
 fuse:S.armed=true->0<S.fuse∧S'.fuse=S.fuse - 1
theorem ZgB {S:Str} (hon:S.on=true) (hc:Coh S) (h:(ZT S).1=false):(Zr S).1=0∧Dried S (Zr S).2:=by
 obtain ⟨f,hf,hfu⟩:=ZiM h;have e:Zr S=(0,{ S with fuse:=f,dry:=ZbX S,late:=[],wet:=0,deeds:=wrap64 (S.deeds+1) }):=by
  unfold Zr;rw [Za (by simp [hon]),h,hf];rfl
 rw [e];refine ⟨rfl,rfl,rfl,rfl,rfl,rfl,rfl,rfl,rfl,rfl,rfl,fun k=>?_,hfu⟩;show get k (ZbX S)=_;rw [Zng];split
 ·rfl
 ·rename_i hk;rw [hc k,Zmx hk];rfl
theorem Dried.coh {S S':Str} (h:Dried S S'):Coh S':=fun k=>by
 have:lateAt S' k=[]:=by unfold lateAt;rw [h.late];rfl
 rw [this,h.seen,h.dry];rfl
def oL (K:K4):Option TS->List (K4 × TS)
 | none=>[]
 | some t=>[(K,t)]
def lL (K:K4) (ds:List Dd):List (K4 × List Dd):=if ds=[] then [] else [(K,ds)]
structure One (S:Str) (K:K4) (x y:Option TS) (ds:List Dd):Prop where
 seen:S.seen=oL K x
 dry:S.dry=oL K y
 late:S.late=lL K ds
 used:S.used=sizeO x
 fold:x=ds.foldl stepD y
def fine (o:Option TS):Prop:=0<=sizeO o∧sizeO o<=1000000000
def stays (y:Option TS) (ds:List Dd) (n torn:Int):Option TS :=
 match ds[keptN n ds.length]? with
 | some d=>if d.kind=1∧0<torn∧d.p≠[] then stepD ((ds.take (keptN n ds.length)).foldl stepD y) (tornD torn d) else (ds.take (keptN n ds.length)).foldl stepD y
 | none=>(ds.take (keptN n ds.length)).foldl stepD y
def nmH:ByteArray:=⟨#[104]⟩
def cowD (d:Dd):Prop:=d.kind=0∨d.kind=3∨(d.kind=1∧0<=d.n∧d.n+d.p.length<=64)∨d.kind=2∨(d.kind=4∧d.name=nmW∧d.p.length=1)∨(d.kind=4∧d.name=nmH∧1<=d.p.length∧d.p.length<=600)
def attrC (a:List (ByteArray × List Int)):Prop:=(∀ x ∈ a,x.1=nmW∧x.2.length=1∨x.1=nmH∧x.2.length<=600)∧(a.map (·.1)).Nodup
def cowT (t:TS):Prop:=t.b.length<=64∧attrC t.attr
def cowO (o:Option TS):Prop:=∀ t,o=some t->cowT t
theorem Zox:attrC []:=⟨fun x hx=>(by cases hx),List.nodup_nil⟩
theorem Zoy {a:List (ByteArray × List Int)} (h:attrC a) {n:ByteArray} {v:List Int} (hv:n=nmW∧v.length=1∨n=nmH∧v.length<=600):attrC (put n v a):=by
 refine ⟨fun x hx=>?_,ZfO h.2⟩;rcases ZO.1 hx with rfl|hx
 ·exact hv
 ·exact h.1 x (Z1.1 hx).1
theorem ZpK {o:Option TS} {d:Dd} (h:cowO o) (hd:cowD d):cowO (stepD o d):=by
 intro t ht;unfold stepD at ht;split at ht
 ·simp only [Zah] at ht;subst ht;exact ⟨by simp,Zox⟩
 ·rename_i h0;split at ht
  ·cases ht
  ·rename_i h3;split at ht
   ·cases ht
   ·rename_i u;have hu:=h u rfl;split at ht
    ·rename_i h1;simp only [Zah] at ht;subst ht;refine ⟨?_,hu.2⟩;show (layB u.b d.n.toNat d.p).length<=64;rw [ZgN];have hu1:=hu.1;rcases hd with e|e|⟨_,e1,e2⟩|e|⟨e,_⟩|⟨e,_⟩
     ·omega
     ·omega
     ·split
      ·exact hu1
      ·omega
     ·omega
     ·omega
     ·omega
    ·rename_i h1;split at ht
     ·simp only [Zah] at ht;subst ht;refine ⟨?_,hu.2⟩;show (u.b.take _).length<=64;rw [ZN];have:=hu.1;omega
     ·rename_i h2;split at ht
      ·rename_i h4;simp only [Zah] at ht;subst ht;refine ⟨hu.1,?_⟩;show attrC (Zb7 u.attr d.name d.p);have key:(d.name=nmW∧d.p.length=1∨d.name=nmH∧d.p.length<=600)∧¬ d.p=[]:=by
        rcases hd with e|e|⟨e,_⟩|e|⟨_,e1,e2⟩|⟨_,e1,e2,e3⟩
        ·omega
        ·omega
        ·omega
        ·omega
        ·exact ⟨.inl ⟨e1,e2⟩,fun q=>by rw [q] at e2;simp at e2⟩
        ·exact ⟨.inr ⟨e1,e3⟩,fun q=>by rw [q] at e2;simp at e2⟩
       unfold Zb7;rw [Za key.2];exact Zoy hu.2 key.1
      ·simp only [Zah] at ht;subst ht;exact hu
theorem Znh {a:List (ByteArray × List Int)} (h:attrC a):0<=Zbn a∧Zbn a<=603:=by
 have hs:∀ (b:List (ByteArray × List Int)),attrC b->∃ x y:Int,Zbn b=x+y∧(0<=x∧x<=2∧(nmW ∉ b.map (·.1)->x<=0))∧0<=y∧y<=601∧(nmH ∉ b.map (·.1)->y<=0):=by
  intro b;induction b with
  | nil=>exact fun _=>⟨0,0,by simp [Zbn],by omega,by omega⟩
  | cons c b ih =>
   intro hb;have hn:=Za9.1 hb.2;obtain ⟨x,y,e,⟨h1,h2,h3⟩,h4,h5,h6⟩:=ih ⟨fun z hz=>hb.1 z (Z8 _ hz),hn.2⟩;have e2:Zbn (c::b)=((c.1.size:Int)+c.2.length)+Zbn b:=by unfold Zbn;simp
   rcases hb.1 c (Z0 ..) with ⟨q,q2⟩|⟨q,q2⟩
   ·have hw:=h3 (q ▸ hn.1);have hsz:(c.1.size:Int)=1:=by rw [q];rfl
    refine ⟨x+2,y,by omega,⟨by omega,by omega,fun r=>absurd ?_ r⟩,h4,h5,fun r=>h6 fun r2=>r (Z8 _ r2)⟩;rw [Zav,q];exact Z0 ..
   ·have hw:=h6 (q ▸ hn.1);have hsz:(c.1.size:Int)=1:=by rw [q];rfl
    refine ⟨x,y+(1+c.2.length),by omega,⟨h1,h2,fun r=>h3 fun r2=>r (Z8 _ r2)⟩,by omega,by omega,fun r=>absurd ?_ r⟩;rw [Zav,q];exact Z0 ..
 obtain ⟨x,y,e,⟨h1,h2,h3⟩,h4,h5,h6⟩:=hs a h;omega
theorem ZkB {t:TS} (h:cowT t):0<=t.size∧t.size<=667:=by
 have h2:=Znh h.2;have h1:=h.1;unfold TS.size;omega
structure KeysOK (S:Str):Prop where
 rise:∀ g,Za6 (Zj S g)
 mem:∀ g k,k ∈ Zj S g↔k.grp=g∧(get k S.seen).isSome=true
theorem Zk8 {k a:K4} {ks:List K4}:a ∈ remK k ks↔a ∈ ks∧a≠k:=by simp [remK]
theorem Zk9 {k a:K4} {ks:List K4}:a ∈ addK k ks↔a=k∨a ∈ ks:=by
 rw [(Zkx k ks).mem_iff,ZO]
theorem Zoz {S:Str} (h:KeysOK S) (k:K4) (was:Int) (o:Option TS):KeysOK (showS S k was o):=by
 have hka:∀ g,Zj (showS S k was o) g=if g=k.grp then (match o with
   | none=>if k ∈ Zj S g then remK k (Zj S g) else Zj S g
   | some _=>if k ∈ Zj S g then Zj S g else addK k (Zj S g)) else Zj S g:=fun g=>by
  unfold Zj;cases o with
  | none =>
   show (get g (showS S k was none).keys).getD []=_;unfold showS;simp only;by_cases e:g=k.grp
   ·subst e;rw [Zb rfl];by_cases hm:k ∈ Zj S k.grp
    ·rw [Zb hm,ZdM];unfold Zj at hm;rw [Zb hm];rfl
    ·rw [Za hm];unfold Zj at hm;rw [Za hm]
   ·rw [Za e];split
    ·rw [ZeN e]
    ·rfl
  | some t =>
   show (get g (showS S k was (some t)).keys).getD []=_;unfold showS;simp only;by_cases e:g=k.grp
   ·subst e;rw [Zb rfl];by_cases hm:k ∈ Zj S k.grp
    ·rw [Zb hm];unfold Zj at hm;rw [Zb hm]
    ·rw [Za hm,ZdM];unfold Zj at hm;rw [Za hm];rfl
   ·rw [Za e];split
    ·rfl
    ·rw [ZeN e]
 refine ⟨fun g=>?_,fun g a=>?_⟩
 ·rw [hka];split
  ·cases o with
   | none =>
    simp only;split
    ·exact Zi5 (h.rise g)
    ·exact h.rise g
   | some t =>
    simp only;split
    ·exact h.rise g
    ·rename_i hm;exact Zi6 (h.rise g) hm
  ·exact h.rise g
 ·rw [hka,ZjP];by_cases e:g=k.grp
  ·subst e;rw [Zb rfl];cases o with
   | none =>
    simp only;by_cases ea:a=k
    ·subst ea;rw [Zb rfl];split
     ·rw [Zk8];simp
     ·rename_i hm;simp [hm]
    ·rw [Za ea];split
     ·rw [Zk8,h.mem];simp [ea]
     ·exact h.mem _ _
   | some t =>
    simp only;by_cases ea:a=k
    ·subst ea;rw [Zb rfl];split
     ·rename_i hm;simp [hm]
     ·rw [Zk9];simp
    ·rw [Za ea];split
     ·exact h.mem _ _
     ·rw [Zk9,h.mem];simp [ea]
  ·rw [Za e,h.mem];by_cases ea:a=k
   ·subst ea;rw [Zb rfl];constructor
    ·exact fun q=>absurd q.1.symm e
    ·exact fun q=>absurd q.1.symm e
   ·rw [Za ea]
theorem KeysOK.of {S S':Str} (h:KeysOK S) (e1:S'.keys=S.keys) (e2:S'.seen=S.seen):KeysOK S' :=
 ⟨fun g=>by unfold Zj;rw [e1];exact h.rise g,fun g k=>by unfold Zj;rw [e1,e2];exact h.mem g k⟩
structure CInv (U:List K4) (S:Str):Prop where
 room:667*(U.length:Int)+3000<=S.room∧S.room<=1048576
 seenN:(S.seen.map (·.1)).Nodup
 lateN:(S.late.map (·.1)).Nodup
 used:S.used=sumS S.seen
 seen:∀ x ∈ S.seen,x.1 ∈ U∧cowT x.2
 dry:∀ x ∈ S.dry,x.1 ∈ U∧cowT x.2
 late:∀ x ∈ S.late,x.1 ∈ U∧∀ d ∈ x.2,cowD d
 coh:Coh S
 keys:KeysOK S
structure UOK (U:List K4):Prop where
 all:∀ k ∈ U,(k.kind=4∨k.kind=3)∧k.ok=true
 few:U.length<=1500
theorem Zhl {l U:List K4} (hn:l.Nodup) (h:∀ x ∈ l,x ∈ U):l.length<=U.length:=by
 induction l generalizing U with
 | nil=>simp
 | cons a l ih =>
  have hn':=Za9.1 hn;have ha:=h a (Z0 ..);have h2:∀ x ∈ l,x ∈ U.erase a:=fun x hx=>by
   have hne:x≠a:=fun e=>hn'.1 (e ▸ hx);exact (List.mem_erase_of_ne hne).2 (h x (Z8 _ hx))
  have h3:=ih hn'.2 h2;have h4:=List.length_erase_of_mem ha;have:0<U.length:=List.length_pos_of_mem ha;simp only [Zat];omega
theorem CInv.count {U:List K4} {S:Str} (h:CInv U S):S.seen.length<=U.length:=by
 have:=Zhl h.seenN fun x hx=>by
  obtain ⟨y,hy,rfl⟩:=ZH.1 hx;exact (h.seen y hy).1
 simpa using this
theorem ZoA {L:List (K4 × TS)} (h:∀ x ∈ L,cowT x.2):0<=sumS L∧sumS L<=667*L.length:=by
 induction L with
 | nil=>simp [sumS]
 | cons x L ih =>
  have h1:=ih fun y hy=>h y (Z8 _ hy);have h2:=ZkB (h x (Z0 ..));have e:sumS (x::L)=x.2.size+sumS L:=by simp [sumS]
  rw [e];simp only [Zat];omega
theorem CInv.few {U:List K4} {S:Str} (h:CInv U S) (_hU:UOK U):0<=S.used∧S.used+3000<=S.room∧S.room<=1048576:=by
 have h1:=ZoA fun x hx=>(h.seen x hx).2;have h2:=h.count;have h3:=h.room;rw [h.used];omega
theorem CInv.roomy {U:List K4} {S:Str} (h:CInv U S) (hU:UOK U):roomS S=S.room - S.used:=by
 have:=h.few hU;unfold roomS wrap64;omega
theorem CInv.getT {U:List K4} {S:Str} (h:CInv U S) (k:K4):cowO (get k S.seen):=fun t ht=>(h.seen _ (get_mem ht)).2
theorem CInv.getU {U:List K4} {S:Str} (h:CInv U S) {k:K4} {t:TS} (ht:get k S.seen=some t):k ∈ U:=(h.seen _ (get_mem ht)).1
theorem ZkC {o:Option TS} (h:cowO o):0<=sizeO o∧sizeO o<=667:=by
 cases o with
 | none=>simp [sizeO]
 | some t=>exact ZkB (h t rfl)
theorem ZpL {S:Str} (hn:(S.seen.map (·.1)).Nodup) (hu:S.used=sumS S.seen) (h0:0<=S.used∧S.used<=1048576) (k:K4) (o:Option TS) (h1:0<=sizeO o∧sizeO o<=667) (h2:0<=sizeO (get k S.seen)∧sizeO (get k S.seen)<=667) :
  (showS S k (wrap64 (sizeO (get k S.seen))) o).used=sumS (showS S k (wrap64 (sizeO (get k S.seen))) o).seen∧((showS S k (wrap64 (sizeO (get k S.seen))) o).seen.map (·.1)).Nodup:=by
 have hsp:=Znf hn k;have hdl:=ZiL (del k S.seen);have hw:wrap64 (sizeO (get k S.seen))=sizeO (get k S.seen):=by unfold wrap64;omega
 have hused:IntKind.i64.wrap (S.used+(sizeO o - wrap64 (sizeO (get k S.seen))))=S.used+(sizeO o - sizeO (get k S.seen)):=by
  rw [hw,Z2];omega
 unfold showS;simp only;rw [hused];cases o with
 | none =>
  refine ⟨?_,ZjE hn⟩;simp only;rw [show sizeO (none:Option TS)=0 from rfl];omega
 | some t =>
  refine ⟨?_,ZfO hn⟩;simp only;have:sumS (put k t S.seen)=t.size+sumS (del k S.seen):=by simp [sumS,put]
  rw [this,show sizeO (some t)=t.size from rfl];omega
theorem ZoB {U:List K4} {S:Str} (h:∀ x ∈ S.seen,x.1 ∈ U∧cowT x.2) {k:K4} (hk:k ∈ U) (was:Int) {o:Option TS} (ho:cowO o):∀ x ∈ (showS S k was o).seen,x.1 ∈ U∧cowT x.2:=by
 intro x hx;cases o with
 | none=>exact h x (Z1.1 hx).1
 | some t =>
  rcases ZO.1 hx with rfl|hx
  ·exact ⟨hk,ho _ rfl⟩
  ·exact h x (Z1.1 hx).1
theorem CInv.did {U:List K4} {S:Str} (h:CInv U S) (hU:UOK U) {k:K4} (hk:k ∈ U) {d:Dd} (hd:cowD d) (hb:(ZT S).1=false):CInv U (doS S k d).2:=by
 have hdn:=(ZhS (k:=k) (d:=d) hb).2;have hco:=hdn.coh h.coh;obtain ⟨f,hf⟩:=Zhi hb;have hst:=ZpK (h.getT k) hd;have hsm:=h.few hU;have hss:=ZpL h.seenN h.used ⟨hsm.1,by omega⟩ k (stepD (get k S.seen) d) (ZkC hst) (ZkC (h.getT k))
 have e:(doS S k d).2={ showS { S with fuse:=f } k (wrap64 (sizeO (get k S.seen))) (stepD (get k S.seen) d) with
   late:=put k (lateAt S k++[d]) S.late,wet:=wrap64 (S.wet+1),deeds:=wrap64 (S.deeds+1) }:=by
  unfold doS;rw [hb,hf];rfl
 rw [e] at hco |-;refine ⟨h.room,hss.2,ZfO h.lateN,hss.1,ZoB (S:=S) h.seen hk (wrap64 (sizeO (get k S.seen))) hst,h.dry,?_,hco,?_⟩
 ·intro x hx;have hx:x ∈ put k (lateAt S k++[d]) S.late:=hx;rcases ZO.1 hx with rfl|hx
  ·refine ⟨hk,fun d' hd'=>?_⟩;rcases ZY.1 hd' with q|q
   ·unfold lateAt at q;cases hg:get k S.late with
    | none=>rw [hg] at q;simp at q
    | some ds=>rw [hg] at q;exact (h.late _ (get_mem hg)).2 d' (by simpa using q)
   ·simp at q;subst q;exact hd
  ·exact h.late x (Z1.1 hx).1
 ·exact KeysOK.of (Zoz (S:={ S with fuse:=f }) ⟨h.keys.rise,h.keys.mem⟩ k (wrap64 (sizeO (get k S.seen))) (stepD (get k S.seen) d)) rfl rfl
theorem CInv.dried {U:List K4} {S:Str} (h:CInv U S) (hon:S.on=true) (hb:(ZT S).1=false):CInv U (Zr S).2:=by
 have hd:=(ZgB hon h.coh hb).2;obtain ⟨f,hf⟩:=Zhi hb;have e:(Zr S).2={ S with fuse:=f,dry:=ZbX S,late:=[],wet:=0,deeds:=wrap64 (S.deeds+1) }:=by
  unfold Zr;rw [Za (by simp [hon]),hb,hf];rfl
 have hco:=hd.coh;rw [e] at hco |-;refine ⟨h.room,h.seenN,by simp,h.used,h.seen,?_,fun x hx=>(by cases hx),hco,⟨h.keys.rise,h.keys.mem⟩⟩;intro x hx;have hx:x ∈ dryBy S.dry S.seen (S.late.map (·.1)):=hx;unfold dryBy at hx;rcases ZY.1 hx with q|q
 ·exact h.dry x (Z1.1 q).1
 ·exact h.seen x (Z1.1 q).1
structure FInv (U:List K4) (S:Str):Prop where
 room:667*(U.length:Int)+3000<=S.room∧S.room<=1048576
 seenN:(S.seen.map (·.1)).Nodup
 used:S.used=sumS S.seen
 seen:∀ x ∈ S.seen,x.1 ∈ U∧cowT x.2
 dry:∀ x ∈ S.dry,x.1 ∈ U∧cowT x.2
 late:∀ x ∈ S.late,x.1 ∈ U∧∀ d ∈ x.2,cowD d
 keys:KeysOK S
theorem CInv.newR {r:Int} (h1:3000<=r) (h2:r<=1048576):CInv [] (newS r):=by
 refine ⟨by show 667*((0:Nat):Int)+3000<=max 0 (min r 1048576)∧max 0 (min r 1048576)<=1048576;omega,by simp [newS],by simp [newS],by simp [newS,sumS],fun x hx=>(by cases hx),fun x hx=>(by cases hx),fun x hx=>(by cases hx),fun k=>by simp [newS,Go.Proofs.YtcbdghojlbpomaaGreat.lateAt,Go.Proofs.YtcbdghojlbpomaaGreat.get],⟨fun g=>by simp [newS,Zj,Go.Proofs.YtcbdghojlbpomaaGreat.get,Za6],fun g k=>by simp [newS,Zj,Go.Proofs.YtcbdghojlbpomaaGreat.get]⟩⟩
theorem CInv.new:CInv [] (newS 1048576):=CInv.newR (by omega) (by omega)
theorem CInv.wider {U V:List K4} {S:Str} (h:CInv U S) (hs:∀ k ∈ U,k ∈ V) (hl:667*(V.length:Int)+3000<=S.room):CInv V S :=
 ⟨⟨hl,h.room.2⟩,h.seenN,h.lateN,h.used,fun x hx=>⟨hs _ (h.seen x hx).1,(h.seen x hx).2⟩,fun x hx=>⟨hs _ (h.dry x hx).1,(h.dry x hx).2⟩,fun x hx=>⟨hs _ (h.late x hx).1,(h.late x hx).2⟩,h.coh,h.keys⟩
end Go.Proofs.YtcbdghojlbpomaaGreat
