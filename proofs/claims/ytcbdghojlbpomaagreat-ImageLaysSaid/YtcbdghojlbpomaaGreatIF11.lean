import Derived.Test.YtcbdghojlbpomaaGreatIF10
set_option linter.all false
set_option maxRecDepth 4000
set_option maxHeartbeats 8000000
open Go.RowKit
open Go.IntKind (i64 u64)
open Go.Value (int pointer slice)
open Go.Obj (cells)
namespace Go.Proofs.YtcbdghojlbpomaaGreat
open Tryz
open HP (pt mapOf)
variable {W w w':World} {I:Hp} {l:List HP}
def viewI (h:Hd) (R:List RO):Vw:=⟨Zag h.l R 0 h.size,h.seen.map fun m=>(m.name,Zag h.l R m.id m.size)⟩
theorem ZeJ {l:Ly} {R R':List RO} {s s':Int} {n:Nat} (h:∀ x,x<n->byteR l R s x=byteR l R' s' x):Zag l R s n=Zag l R' s' n :=
 ZeD fun x hx=>h x (Za8.1 hx)
theorem ZaO (l:Ly) (R:List RO) (s:Int) (n:Nat):(Zag l R s n).length=n:=by simp [Zag]
theorem Zek {l:Ly} {R R':List RO} {s s':Int} (h:∀ k,ratR (objAt R k) s=ratR (objAt R' k) s') (x:Nat):byteR l R s x=byteR l R' s' x:=by
 unfold byteR byteO;rw [h]
theorem mk_id {h:Hd} {m:Mk} (hm:m ∈ h.marks):m.id ∈ h.ids:=Zbz hm
theorem ZcH {h:Hd} {m:Mk} (hm:m ∈ h.seen):m ∈ h.marks:=(Z1.1 hm).1
theorem ZfW {h:Hd} {R R':List RO} (H:IdsI h.ids h.newest) (hs:∀ s,0<s->s<=h.newest->∀ x,byteR h.l R' s x=byteR h.l R s x):viewI h R'=⟨Zag h.l R' 0 h.size,(viewI h R).snaps⟩:=by
 unfold viewI;simp only [Vw.mk.injEq,ZK];refine ZeD fun m hm=>?_;have:=mk_id (ZcH hm);rw [ZeJ fun x _=>hs m.id (H.pos _ this) (H.last _ this) x]
def snapH (h:Hd) (name:ByteArray):Hd:={ h with marks:=h.marks++[⟨h.next,name,h.size,false⟩],next:=h.next+1 }
theorem ZhG (h:Hd) (name:ByteArray):(snapH h name).ids=h.ids++[h.next]:=by simp [snapH,Hd.ids]
theorem ZiT (h:Hd) (name:ByteArray):(snapH h name).newest=h.next:=by unfold Hd.newest;rw [ZhG];simp
theorem ImgI.snap {h:Hd} {R:List RO} (H:ImgI h R) (name:ByteArray):ImgI (snapH h name) R:=by
 refine ⟨H.shape,H.size,fun m hm=>?_,?_,?_,H.len,fun k=>?_,H.fit,fun m hm k=>?_⟩
 ·rcases ZY.1 hm with q|q
  ·exact H.sizes m q
  ·rw [Zaz.1 q];exact H.size
 ·rw [ZhG,ZiT];exact H.ids.more H.next
 ·rw [ZiT];show h.next<h.next+1;omega
 ·rw [ZhG];exact (H.objs k).more h.next
 ·rcases ZY.1 hm with q|q
  ·exact H.fits m q k
  ·rw [Zaz.1 q];show ((ratR (objAt R k) h.next).getD []).length<=ZI h.l h.size k;rw [Zlc (H.objs k)];exact H.fit k
theorem ZoL {h:Hd} {R:List RO} (H:ImgI h R) {name:ByteArray} (hn:holdN name=false):viewI (snapH h name) R=⟨(viewI h R).data,(viewI h R).snaps++[(name,(viewI h R).data)]⟩:=by
 unfold viewI;show Vw.mk _ _=_;simp only [Vw.mk.injEq];refine ⟨rfl,?_⟩;have e:(snapH h name).seen=h.seen++[⟨h.next,name,h.size,false⟩]:=by
  unfold Hd.seen;show (h.marks++_).filter _=_;rw [Zca];congr 1;simp [Mk.seen,hn]
 rw [e,Z4];congr 1;simp only [Zav,Zc6,Zd0,Zba,Zae,ZK];exact ZeJ fun x _=>Zek (fun k=>by rw [Zlc (H.objs k),Zcr]) x
def cutO (l:Ly) (newest:Int) (n:Nat) (k:Nat) (o:RO):RO:=if ZI l n k<(o.h.getD []).length then rcut o newest (ZI l n k) else o
theorem ZfX (l:Ly) (newest:Int) (n k:Nat) (o:RO):Chg newest o (cutO l newest n k o)∧((cutO l newest n k o).h.getD []).length=min (ZI l n k) (o.h.getD []).length∧∀ i,((cutO l newest n k o).h.getD []).getD i 0=if i<ZI l n k then (o.h.getD []).getD i 0 else (if (o.h.getD []).length<=ZI l n k then (o.h.getD []).getD i 0 else 0):=by
 unfold cutO;by_cases hc:ZI l n k<(o.h.getD []).length
 ·rw [Zb hc];unfold rcut;cases hh:o.h with
  | none=>rw [hh] at hc;simp at hc
  | some d =>
   rw [hh] at hc;have hc:ZI l n k<d.length:=hc;simp only;rw [Za (by omega)];by_cases h0:ZI l n k=0
   ·rw [Zb (by omega)];refine ⟨.inr ⟨_,rfl⟩,by show 0=min _ _;omega,fun i=>?_⟩;rw [Za (by omega),Za (by show ¬ d.length<=_;omega)];rfl
   ·rw [Za (by omega),ZcT];refine ⟨.inr ⟨_,rfl⟩,by show (d.take _).length=min _ d.length;rw [ZN],fun i=>?_⟩;show (d.take _).getD i 0=_;rw [ZoK];by_cases hi:i<ZI l n k
    ·rw [Zb hi,Zb hi];rfl
    ·rw [Za hi,Za hi,Za (by show ¬ d.length<=_;omega)]
 ·rw [Za hc];refine ⟨.inl rfl,by omega,fun i=>?_⟩;split
  ·rfl
  ·rw [Zb (by omega)]
def allO (f:Nat->RO->RO) (R:List RO):List RO:=(List.range R.length).map fun k=>f k (objAt R k)
theorem Zeh (f:Nat->RO->RO) (hf:∀ k,f k noRO=noRO) (R:List RO) (k:Nat):objAt (allO f R) k=f k (objAt R k):=by
 by_cases hk:k<R.length
 ·unfold objAt allO;rw [ZaN,Zdd hk];rfl
 ·have e:objAt R k=noRO:=by unfold objAt;rw [Zb1 (by omega)];rfl
  rw [e,hf];unfold objAt allO;rw [Zb1 (by simp;omega)];rfl
def cutR (l:Ly) (newest:Int) (n:Nat) (R:List RO):List RO:=allO (cutO l newest n) R
theorem ZfY (l:Ly) (newest:Int) (n k:Nat):cutO l newest n k noRO=noRO:=by unfold cutO noRO;simp
theorem ImgI.resize {h:Hd} {R:List RO} (H:ImgI h R) {n:Nat} (hn:n<=512) :
  ImgI { h with size:=n } (cutR h.l h.newest n R)∧(∀ s,0<s->s<=h.newest->∀ x,byteR h.l (cutR h.l h.newest n R) s x=byteR h.l R s x) ∧
   ∀ x,x<n->byteR h.l (cutR h.l h.newest n R) 0 x=byteR h.l R 0 x:=by
 have ho:∀ k,objAt (cutR h.l h.newest n R) k=cutO h.l h.newest n k (objAt R k):=Zeh _ (ZfY _ _ _) R;have hr:∀ s,0<s->s<=h.newest->∀ k,ratR (objAt (cutR h.l h.newest n R) k) s=ratR (objAt R k) s:=fun s h0 hs k=>by
  rw [ho];exact (ZfX h.l h.newest n k _).1.rat (H.objs k) h0 hs
 refine ⟨⟨H.shape,hn,H.sizes,H.ids,H.next,by unfold cutR allO;simp [H.len],fun k=>?_,fun k=>?_,fun m hm k=>?_⟩,fun s h0 hs x=>Zek (hr s h0 hs) x,fun x hx=>?_⟩
 ·rw [ho];exact (ZfX h.l h.newest n k _).1.copy (H.objs k) H.ids H.next
 ·rw [ho,(ZfX h.l h.newest n k _).2.1];show _<=ZI h.l n k;omega
 ·rw [hr m.id (H.ids.pos _ (mk_id hm)) (H.ids.last _ (mk_id hm))];exact H.fits m hm k
 ·unfold byteR byteO;rw [Zcr,Zcr,ho,(ZfX h.l h.newest n _ _).2.2,Zb ((Zec H.shape).2 hx)]
theorem ZmD {h:Hd} {R:List RO} (H:ImgI h R) {n:Nat} (hn:n<=512) :
  viewI { h with size:=n } (cutR h.l h.newest n R)=⟨(viewI h R).data.take n++List.replicate (n - (viewI h R).data.length) 0,(viewI h R).snaps⟩:=by
 obtain ⟨a,b,c⟩:=H.resize hn;rw [ZfW (h:={ h with size:=n }) (R:=R) (R':=cutR h.l h.newest n R) H.ids b]
 ·simp only [Vw.mk.injEq];refine ⟨?_,rfl⟩;refine Zgp fun i=>?_;have hl:(viewI h R).data.length=h.size:=ZaO ..;by_cases hi:i<n
  ·show (Zag h.l (cutR h.l h.newest n R) 0 n)[i]?=_;unfold Zag;rw [ZaN,Zdd hi];show some (byteR h.l (cutR h.l h.newest n R) 0 i)=_;rw [c i hi];by_cases h2:i<h.size
   ·rw [Zda (by rw [ZN,hl];omega),Zid hi];show _=(Zag h.l R 0 h.size)[i]?;unfold Zag;rw [ZaN,Zdd h2];rfl
   ·rw [ZdF (by rw [ZN,hl];omega),Zd9,Zb (by rw [ZN,hl];omega),H.beyond (by omega)]
  ·rw [Zb1 (by rw [ZaO];show n<=i;omega),Zb1 (by simp [hl];omega)]
def tidyO (ids:List Int) (o:RO):RO:=⟨o.h,tidyR ids o.cs 0⟩
def Za1 (ids:List Int) (R:List RO):List RO:=allO (fun _=>tidyO ids) R
theorem Zef (ids:List Int) (R:List RO) (k:Nat):objAt (Za1 ids R) k=tidyO ids (objAt R k):=Zeh _ (fun _=>rfl) R k
theorem ZkJ:∀ {l:List Int},Inc l->∀ x ∈ l,x<=(l.getLast?).getD 0
 | [],_,x,hx=>by cases hx
 | [a],_,x,hx=>by rw [Zaz.1 hx];exact Zck _
 | a::b::l,h,x,hx=>by
  have h2:=ZcU.1 h;rw [List.getLast?_cons_cons];have h3:=ZkJ h2.2;rcases ZO.1 hx with rfl|hx
  ·have:=h2.1 b (Z0 ..);have:=h3 b (Z0 ..);omega
  ·exact h3 x hx
theorem IdsI.of {l:List Int} (h:Inc l) (hp:∀ m ∈ l,0<m):IdsI l ((l.getLast?).getD 0):=by
 refine ⟨h,hp,ZkJ h,?_⟩;cases e:l.getLast? with
 | none=>exact .inl rfl
 | some a=>exact .inr (List.mem_of_getLast? e)
theorem ImgI.fewer {h:Hd} {R:List RO} (H:ImgI h R) {ms:List Mk} (hs:(ms.map (·.id)).Sublist h.ids) (hm:∀ m ∈ ms,∃ m' ∈ h.marks,m'.id=m.id∧m'.size=m.size) :
  ImgI { h with marks:=ms } (Za1 (ms.map (·.id)) R)∧(∀ s ∈ ms.map (·.id),∀ x,byteR h.l (Za1 (ms.map (·.id)) R) s x=byteR h.l R s x)∧∀ x,byteR h.l (Za1 (ms.map (·.id)) R) 0 x=byteR h.l R 0 x:=by
 have hpos:∀ s ∈ ms.map (·.id),0<s:=fun s hs'=>H.ids.pos s (hs.subset hs');have hr:∀ s ∈ ms.map (·.id),∀ k,ratR (objAt (Za1 (ms.map (·.id)) R) k) s=ratR (objAt R k) s:=fun s hs' k=>by
  rw [Zef];exact ZpP (H.objs k).inc hs' (hpos s hs')
 have hI:IdsI (ms.map (·.id)) (((ms.map (·.id)).getLast?).getD 0):=IdsI.of (List.Pairwise.sublist hs H.ids.inc) hpos;refine ⟨⟨H.shape,H.size,fun m hm'=>?_,hI,?_,by unfold Za1 allO;simp [H.len],fun k=>?_,fun k=>?_,fun m hm' k=>?_⟩,fun s hs' x=>Zek (hr s hs') x,fun x=>Zek (fun k=>by rw [Zef];rfl) x⟩
 ·obtain ⟨m',h1,_,h2⟩:=hm m hm';rw [<-h2];exact H.sizes m' h1
 ·show ((ms.map (·.id)).getLast?).getD 0<h.next;rcases hI.zero with e|e
  ·rw [e];have:=H.ids.nneg;have:=H.next;omega
  ·have:=H.ids.last _ (hs.subset e);have:=H.next;omega
 ·rw [Zef];exact (H.objs k).tidied
 ·rw [Zef];exact H.fit k
 ·obtain ⟨m',h1,h2,h3⟩:=hm m hm';rw [hr m.id (Zbz hm'),<-h2,<-h3];exact H.fits m' h1 k
def backO (newest mark:Int) (o:RO):RO:=if (ratR o mark).isSome||o.h.isSome then rback o newest mark else o
def backR (newest mark:Int) (R:List RO):List RO:=allO (fun _=>backO newest mark) R
theorem ZfI (newest mark:Int) (o:RO):Chg newest o (backO newest mark o)∧(backO newest mark o).h=ratR o mark:=by
 unfold backO;cases h:(ratR o mark).isSome||o.h.isSome with
 | true=>rw [Zb rfl];exact ⟨.inr ⟨_,rfl⟩,rfl⟩
 | false =>
  rw [Za (by simp)];rw [Bool.or_eq_false_iff] at h;refine ⟨.inl rfl,?_⟩;have h1:=h.1;have h2:=h.2;cases e:ratR o mark with
  | some a=>rw [e] at h1;simp at h1
  | none=>cases e2:o.h with
   | some b=>rw [e2] at h2;simp at h2
   | none=>rfl
theorem Zeq (mark:Int):ratR noRO mark=none:=by unfold ratR noRO;split <;> rfl
theorem ImgI.roll {h:Hd} {R:List RO} (H:ImgI h R) {m:Mk} (hm:m ∈ h.marks) :
  ImgI { h with size:=m.size } (backR h.newest m.id R)∧(∀ s,0<s->s<=h.newest->∀ x,byteR h.l (backR h.newest m.id R) s x=byteR h.l R s x) ∧
   ∀ x,byteR h.l (backR h.newest m.id R) 0 x=byteR h.l R m.id x:=by
 have ho:∀ k,objAt (backR h.newest m.id R) k=backO h.newest m.id (objAt R k):=Zeh _ (fun k=>by unfold backO;rw [Zeq];rfl) R;have hr:∀ s,0<s->s<=h.newest->∀ k,ratR (objAt (backR h.newest m.id R) k) s=ratR (objAt R k) s:=fun s h0 hs k=>by
  rw [ho];exact (ZfI h.newest m.id _).1.rat (H.objs k) h0 hs
 refine ⟨⟨H.shape,H.sizes m hm,H.sizes,H.ids,H.next,by unfold backR allO;simp [H.len],fun k=>?_,fun k=>?_,fun m' hm' k=>?_⟩,fun s h0 hs x=>Zek (hr s h0 hs) x,fun x=>Zek (fun k=>?_) x⟩
 ·rw [ho];exact (ZfI h.newest m.id _).1.copy (H.objs k) H.ids H.next
 ·rw [ho,(ZfI h.newest m.id _).2];exact H.fits m hm k
 ·rw [hr m'.id (H.ids.pos _ (mk_id hm')) (H.ids.last _ (mk_id hm'))];exact H.fits m' hm' k
 ·rw [Zcr,ho];exact (ZfI h.newest m.id _).2
theorem ZoM {h:Hd} {R:List RO} (H:ImgI h R) {m:Mk} (hm:m ∈ h.marks):viewI { h with size:=m.size } (backR h.newest m.id R)=⟨Zag h.l R m.id m.size,(viewI h R).snaps⟩:=by
 obtain ⟨a,b,c⟩:=H.roll hm;rw [ZfW (h:={ h with size:=m.size }) (R:=R) H.ids b];simp only [Vw.mk.injEq];exact ⟨ZeJ fun x _=>c x,rfl⟩
theorem Zno {h:Hd} {R:List RO} (H:ImgI h R) {ms:List Mk} (hs:(ms.map (·.id)).Sublist h.ids) (hm:∀ m ∈ ms,∃ m' ∈ h.marks,m'.id=m.id∧m'.size=m.size) :
  viewI { h with marks:=ms } (Za1 (ms.map (·.id)) R)=⟨(viewI h R).data,(ms.filter Mk.seen).map fun m=>(m.name,Zag h.l R m.id m.size)⟩:=by
 obtain ⟨a,b,c⟩:=H.fewer hs hm;unfold viewI;simp only [Vw.mk.injEq];refine ⟨ZeJ fun x _=>c x,?_⟩;refine ZeD fun m hm'=>?_;rw [ZeJ fun x _=>b m.id (Zbz (Z1.1 hm').1) x]
def recK:K4:=⟨3,0,0,0⟩
def univI (newest:Int) (R:List RO):List K4:=recK::(List.range R.length).flatMap fun (k:Nat)=>dK 0 k 0::dK 0 k newest::(objAt R k).cs.map fun c=>dK 0 k c.1
theorem ZpQ {newest:Int} {R:List RO} {k:K4}:k ∈ univI newest R↔k=recK∨∃ n:Nat,n<R.length∧(k=dK 0 n 0∨k=dK 0 n newest∨∃ c ∈ (objAt R n).cs,k=dK 0 n c.1):=by
 unfold univI;simp only [ZO,Zcz,Za8,ZH];constructor
 ·rintro (h|⟨n,hn,h|h|⟨c,hc,h⟩⟩)
  ·exact .inl h
  ·exact .inr ⟨n,hn,.inl h⟩
  ·exact .inr ⟨n,hn,.inr (.inl h)⟩
  ·exact .inr ⟨n,hn,.inr (.inr ⟨c,hc,h.symm⟩)⟩
 ·rintro (h|⟨n,hn,h|h|⟨c,hc,h⟩⟩)
  ·exact .inl h
  ·exact .inr ⟨n,hn,.inl h⟩
  ·exact .inr ⟨n,hn,.inr (.inl h)⟩
  ·exact .inr ⟨n,hn,.inr (.inr ⟨c,hc,h.symm⟩)⟩
theorem ZpR {ids:List Int} {next newest:Int} {R:List RO} (hl:R.length=every) (ho:∀ k,CopyI ids next (objAt R k)) (hi:IdsI ids newest) (hx:newest<next) (hn:next<=1073741824) {n2:Int} (h2:IdsI ids n2) (h17:ids.length<=17):UOK (univI newest R):=by
 have h0:=hi.nneg;refine ⟨fun k hk=>?_,?_⟩
 ·rcases ZpQ.1 hk with rfl|⟨n,hn',h⟩
  ·exact ⟨.inr rfl,by decide⟩
  ·rw [hl] at hn';unfold every at hn';have ok:∀ s:Int,0<=s->s<=1073741824->(dK 0 n s).ok=true:=fun s a b=>by
    unfold dK K4.ok;simp only [Ze];omega
   rcases h with rfl|rfl|⟨c,hc,rfl⟩
   ·exact ⟨.inl rfl,ok 0 (by omega) (by omega)⟩
   ·exact ⟨.inl rfl,ok newest h0 (by omega)⟩
   ·have a:=(ho n).pos c hc;have b:=(ho n).last c hc;exact ⟨.inl rfl,ok c.1 (by omega) (by omega)⟩
 ·have key:∀ l:List Nat,(l.flatMap fun (k:Nat)=>dK 0 k 0::dK 0 k newest::(objAt R k).cs.map fun c=>dK 0 k c.1).length<=19*l.length:=fun l=>by
   induction l with
   | nil=>simp
   | cons a l ih =>
    have:=(ho a).count h2;rw [ZaJ,ZA,Zat];simp only [Zat,ZE];omega
  have:=key (List.range R.length);unfold univI;rw [Zat];have e:(List.range R.length).length=66:=by rw [ZeE,hl];rfl
  omega
theorem ZoN (S:Str) (k:K4) (was:Int) (o:Option TS):(showS S k was o).room=S.room:=by unfold showS;cases o <;> rfl
theorem ZfZ {S:Str} (s:DStep) (ha:S.armed=false) (hon:S.on=true):(stepE S s).2.room=S.room:=by
 have hb:ZT S=(false,S):=by simp [ZT,ha]
 cases s with
 | deed k d=>unfold stepE doS;rw [hb];exact ZoN S k (wrap64 (sizeO (get k S.seen))) (stepD (get k S.seen) d)
 | bar=>unfold stepE Zr;rw [Za (by simp [hon]),hb];rfl
theorem Zj4:∀ {l:List DStep} {S:Str},S.armed=false->S.on=true->(execS l S).2.room=S.room
 | [],_,_,_=>rfl
 | s::l,S,ha,hon=>by
  have e:execS (s::l) S=thenE (stepE S s) (execS l):=rfl;rw [e];unfold thenE;split
  ·have:=ZeO s ha hon;exact (Zj4 this.1 this.2).trans (ZfZ s ha hon)
  ·exact ZfZ s ha hon
theorem Zj5 {U:List K4} {S:Str} (hU:UOK U) (h:Live U S) (hc:S.armed=false) {a:A17} (ha:a.what=5∨Fine U 0 a):(oursS S 0 a).2.room=S.room:=by
 rw [ZjW h hU (by omega) ha];exact Zj4 hc h.on
structure IStore (S:Str) (newest:Int) (R:List RO):Prop where
 live:Live (univI newest R) S
 room:S.room=1048576
 calm:S.armed=false
 sim:∀ k:Nat,k<every->ObjV (cview S 0) k (objAt R k)
 only:∀ k:Nat,k<every->∀ n,n≠0->okW (cview S 0 k n)
theorem Chg.sub {newest:Int} {o o':RO} (c:Chg newest o o'):∀ x ∈ o.cs,x ∈ o'.cs:=by
 rcases c with rfl|⟨b,rfl⟩
 ·exact fun x hx=>hx
 ·intro x hx;unfold ZbM;split
  ·exact Zet _ hx
  ·exact hx
theorem Zld (o:RO) {a:A17}:Chg a.newest o (actO o a):=by
 unfold actO;split
 ·unfold Zdy;split
  ·exact .inl rfl
  ·exact .inr ⟨_,rfl⟩
 split
 ·unfold ZdW;split
  ·exact .inl rfl
  ·exact .inr ⟨_,rfl⟩
 split
 ·unfold rcut;split
  ·exact .inl rfl
  ·split
   ·exact .inl rfl
   ·exact .inr ⟨_,rfl⟩
 split
 ·exact .inr ⟨_,rfl⟩
 split
 ·exact .inr ⟨_,rfl⟩
 ·exact .inl rfl
theorem ZpS {newest:Int} {R:List RO} {k:Nat} (hk:k<R.length) {o':RO} (c:Chg newest (objAt R k) o'):∀ x ∈ univI newest R,x ∈ univI newest (R.set k o'):=by
 intro x hx;rw [ZpQ] at hx |-;rw [Zde];rcases hx with h|⟨n,hn,h|h|⟨y,hy,h⟩⟩
 ·exact .inl h
 ·exact .inr ⟨n,hn,.inl h⟩
 ·exact .inr ⟨n,hn,.inr (.inl h)⟩
 ·refine .inr ⟨n,hn,.inr (.inr ⟨y,?_,h⟩)⟩;rw [Zdu hk];split
  ·rename_i e;subst e;exact c.sub y hy
  ·exact hy
theorem IStore.act {S:Str} {R:List RO} {a:A17} {k:Nat} (H:IStore S a.newest R) (hU:UOK (univI a.newest R)) (hU2:UOK (univI a.newest (R.set k (actO (objAt R k) a)))) (hl:R.length=every) (hk:k<every) (hn:a.num=k) (h5:a.what≠5) (hs:snapB a.newest=true) (hs2:a.what=4->snapB a.snap=true)
  (span:(a.what=0->ZG a.off a.p.length=true)∧(a.what=1->ZG a.off a.n=true)∧(a.what=2->ZG 0 a.n=true)∧(a.what=3->ZG 0 a.p.length=true)) :
  (oursS S 0 a).1=0∧IStore (oursS S 0 a).2 a.newest (R.set k (actO (objAt R k) a)):=by
 have hk':k<R.length:=by rw [hl];exact hk
 have hf:Fine (univI a.newest R) 0 a:=by
  refine ⟨?_,hs,hs2,span,?_,fun _=>?_⟩
  ·unfold objB every at *;rw [Ze];omega
  ·rw [hn];exact ZpQ.2 (.inr ⟨k,hk',.inl rfl⟩)
  ·rw [hn];exact ZpQ.2 (.inr ⟨k,hk',.inr (.inl rfl)⟩)
 obtain ⟨h1,h2,h3,h4⟩:=ZeZ hU H.live H.calm (.inr hf);have hO:=H.sim k hk;rw [<-hn] at hO;obtain ⟨k1,k2,k3⟩:=Zqz hU H.live H.calm hO hf h5;have hrm:=(Zj5 hU H.live H.calm (.inr hf)).trans H.room;refine ⟨h1,⟨⟨h2.inv.wider (ZpS hk' (Zld _)) (by rw [hrm];have:=hU2.few;omega),h2.on⟩,hrm,h3,fun j hj=>?_,fun j hj n hn0=>?_⟩⟩
 ·rw [Zdu hk'];split
  ·rename_i e;subst e;rw [<-hn];exact k1
  ·rename_i e;exact (H.sim j hj).congr fun n=>k2 j n (by omega)
 ·by_cases e:j=k
  ·subst e;have:=k3 n hn0;rw [hn] at this;exact this (H.only j hj n hn0)
  ·rw [k2 j n (by omega)];exact H.only j hj n hn0
structure Dryed (S:Str):Prop where
 late:S.late=[]
 dry:∀ x ∈ S.dry,(get x.1 S.seen).isSome=true
theorem Zfq {α:Type}:∀ {L:List (K4 × α)} {x:K4 × α},x ∈ L->(get x.1 L).isSome=true
 | [],_,h=>by cases h
 |(b,v)::L,x,h=>by
  unfold Go.Proofs.YtcbdghojlbpomaaGreat.get;split
  ·rfl
  ·rename_i hne;rcases ZO.1 h with rfl|h
   ·exact absurd rfl hne
   ·exact Zfq h
theorem Ze1 {U:List K4} {S:Str} (h:Live U S) (hc:S.armed=false):(Zr S).1=0∧Live U (Zr S).2∧(Zr S).2.armed=false∧(Zr S).2.seen=S.seen∧(Zr S).2.room=S.room∧Dryed (Zr S).2:=by
 have hb:ZT S=(false,S):=by simp [ZT,hc]
 have e:Zr S=(0,{ S with dry:=ZbX S,late:=[],wet:=0,deeds:=wrap64 (S.deeds+1) }):=by
  unfold Zr;rw [Za (by simp [h.on]),hb];rfl
 have h1:=h.inv.dried h.on (by rw [hb]);rw [e] at h1 |-;refine ⟨rfl,⟨h1,h.on⟩,hc,rfl,rfl,rfl,fun x hx=>?_⟩;have hx:x ∈ dryBy S.dry S.seen (S.late.map (·.1)):=hx;show (get x.1 S.seen).isSome=true;unfold dryBy at hx;rcases ZY.1 hx with q|q
 ·obtain ⟨q1,q2⟩:=Z1.1 q;have hl:lateAt S x.1=[]:=by
   unfold lateAt;cases hg:get x.1 S.late with
   | none=>rfl
   | some ds =>
    have:=get_mem hg;simp only [Zgr,<-Bool.not_eq_true,ZcW] at q2;exact absurd (Zbz (f:=(·.1)) this) q2
  rw [h.inv.coh x.1,hl];exact Zfq q1
 ·exact Zfq (Z1.1 q).1
theorem CInv.narrow {U V:List K4} {S:Str} (h:CInv U S) (hl:667*(V.length:Int)+3000<=S.room) (hd:Dryed S) (hs:∀ k,(get k S.seen).isSome=true->k ∈ V):CInv V S :=
 ⟨⟨hl,h.room.2⟩,h.seenN,h.lateN,h.used,fun x hx=>⟨hs _ (Zfq hx),(h.seen x hx).2⟩,fun x hx=>⟨hs _ (hd.dry x hx),(h.dry x hx).2⟩,fun x hx=>(by rw [hd.late] at hx;cases hx),h.coh,h.keys⟩
def Zlu (k:K4):Prop:=k=recK∨∃ n:Nat,n<every∧∃ s,k=dK 0 n s
theorem ZkK {newest:Int} {R:List RO} (hl:R.length=every):∀ k ∈ univI newest R,Zlu k:=fun k hk=>by
 rcases ZpQ.1 hk with h|⟨n,hn,h|h|⟨c,_,h⟩⟩
 ·exact .inl h
 ·exact .inr ⟨n,by omega,_,h⟩
 ·exact .inr ⟨n,by omega,_,h⟩
 ·exact .inr ⟨n,by omega,_,h⟩
theorem IStore.of {U:List K4} {S:Str} {n':Int} {R':List RO} (hU:∀ k ∈ U,Zlu k) (h:Live U S) (hrm:S.room=1048576) (hc:S.armed=false) (hd:Dryed S) (hU2:UOK (univI n' R')) (hl:R'.length=every)
  (sim:∀ k:Nat,k<every->ObjV (cview S 0) k (objAt R' k)) (only:∀ k:Nat,k<every->∀ n,n≠0->okW (cview S 0 k n)):IStore S n' R':=by
 refine ⟨⟨h.inv.narrow (by rw [hrm];have:=hU2.few;omega) hd fun k hk=>?_,h.on⟩,hrm,hc,sim,only⟩;obtain ⟨t,ht⟩:=ZdK.1 hk;rcases hU k (h.inv.getU ht) with rfl|⟨n,hn,s,rfl⟩
 ·exact ZpQ.2 (.inl rfl)
 ·refine ZpQ.2 (.inr ⟨n,by omega,?_⟩);by_cases hs:s=0
  ·rw [hs];exact .inl rfl
  ·rcases only n hn s hs with e|e
   ·have:cview S 0 n s=some t:=ht;rw [e] at this;cases this
   ·obtain ⟨c,hc',rfl⟩:=ZH.1 (((sim n hn).mem s hs).1 e);exact .inr (.inr ⟨c,hc',rfl⟩)
theorem Live.setH {U:List K4} {S:Str} (h:Live U S) (hU:UOK U) (hc:S.armed=false) (hk:recK ∈ U) {t:TS} (hs:get recK S.seen=some t) {v:List Int} (h1:1<=v.length) (h2:v.length<=600) :
  (setS S recK nmH v).1=0∧Live U (setS S recK nmH v).2∧(setS S recK nmH v).2.armed=false∧(setS S recK nmH v).2.room=S.room∧∀ k,get k (setS S recK nmH v).2.seen=if k=recK then some ⟨t.b,put nmH v t.attr⟩ else get k S.seen:=by
 have hok:=(hU.all _ hk).2;have hw:whyS S recK=0:=by rw [h.why hok,hs];rfl
 have hr:=h.inv.roomy hU;have hf:=h.inv.few hU;have hsz:nmH.size=1:=rfl;have hne:¬ v=[]:=fun e=>by rw [e] at h1;simp at h1
 have e:setS S recK nmH v=stepE S (.deed recK (setD nmH v)):=by
  refine (ZhQ hw hs ?_).trans rfl;unfold Zbx;rw [hsz,Za (by omega),Za ?_];unfold growS;rw [hr,hsz,Za hne];cases get nmH t.attr with
  | none=>simp only;omega
  | some old=>simp only;omega
 have hin:ZcN U (.deed recK (setD nmH v)):=⟨hk,.inr (.inr (.inr (.inr (.inr ⟨rfl,rfl,h1,h2⟩))))⟩;have hb:(ZT S).1=false:=by simp [ZT,hc]
 rw [e];have h0:=ZfR (.deed recK (setD nmH v)) h.on h.inv.coh hb;obtain ⟨h3,h4,_⟩:=Zen h hU hin h0;refine ⟨h0,h3,(ZeO _ hc h.on).1,ZfZ _ hc h.on,fun k=>?_⟩;have:=congrFun h4 k;show get k _=_;rw [show get k (stepE S (.deed recK (setD nmH v))).2.seen=ZaX (stepE S (.deed recK (setD nmH v))).2 k from rfl,this];show (if k=recK then stepD (get recK S.seen) (setD nmH v) else get k S.seen)=_;rw [hs];split
 ·unfold stepD setD Zb7;simp [hne]
 ·rfl
theorem ZhW {a b:Int}:dK 0 a b≠recK:=fun e=>by cases e
theorem IStore.tidy {S:Str} {newest:Int} {R:List RO} (H:IStore S newest R) (hU:UOK (univI newest R)) {ids:List Int} {a:A17} (ha:a.what=5) (hm:a.ms=ids) :
  (oursS S 0 a).1=0∧Live (univI newest R) (oursS S 0 a).2∧(oursS S 0 a).2.armed=false∧(oursS S 0 a).2.room=S.room∧(∀ k:Nat,k<every->ObjV (cview (oursS S 0 a).2 0) k (objAt (Za1 ids R) k))∧∀ k:Nat,k<every->∀ n,n≠0->okW (cview (oursS S 0 a).2 0 k n):=by
 obtain ⟨h1,h2,h3,h4⟩:=ZeZ hU H.live H.calm (.inl ha);refine ⟨h1,h2,h3,Zj5 hU H.live H.calm (.inl ha),fun k hk=>?_,fun k hk n hn=>?_⟩
 ·have:=ZpO hU H.live H.calm ha (i:=k) (by omega) (H.sim k hk);rw [Zef];rw [hm] at this;exact this
 ·rw [(ZjZ hU H.live H.calm ha).2 k n (by omega) hn];split
  ·exact H.only k hk n hn
  ·exact .inl rfl
def Zaj (v:Vw) (e:Ev):Vw :=
 if e.kind=1 then ⟨layB v.data e.off.toNat e.data,v.snaps⟩
 else if e.kind=2∨e.kind=3 then ⟨layB v.data e.off.toNat (List.replicate e.len.toNat 0),v.snaps⟩
 else if e.kind=4 then ⟨v.data.take e.len.toNat++List.replicate (e.len.toNat - v.data.length) 0,v.snaps⟩
 else if e.kind=5 then ⟨v.data,v.snaps++[(e.name,v.data)]⟩
 else if e.kind=6 then ⟨v.data,v.snaps.eraseIdx ((findV v e.name).getD 0)⟩
 else if e.kind=7 then ⟨((v.snaps[(findV v e.name).getD 0]?).map (·.2)).getD [],v.snaps⟩
 else v
def foldV (v:Vw):List Ev->Vw
 | []=>v
 | e::l=>foldV (if ZJ v e=0 then Zaj v e else v) l
theorem Znp {h:Hd} {R:List RO} (H:ImgI h R) {off:Nat} {p:List Int} {es:List Ext} (c:Cover h.l off p.length es) (hn:off+p.length<=h.size) (hp:p≠[]) :
  viewI h (es.foldl (ZbQ h.newest p) R)=⟨layB (viewI h R).data off p,(viewI h R).snaps⟩:=by
 obtain ⟨a,b,d⟩:=ZiR H c hn;rw [ZfW H.ids b];simp only [Vw.mk.injEq,Zae];have hl:(viewI h R).data.length=h.size:=ZaO ..;refine Zh4 (by rw [ZaO,Zdr (by rw [hl];exact hn),hl]) fun i h1 h2=>?_;rw [ZaO] at h1;have e1:(layB (viewI h R).data off p)[i]=(layB (viewI h R).data off p).getD i 0:=by rw [ZbF,ZL h2];rfl
 rw [e1,Ze0 hp];have e2:(Zag h.l (es.foldl (ZbQ h.newest p) R) 0 h.size)[i]'(by rw [ZaO];exact h1)=byteR h.l (es.foldl (ZbQ h.newest p) R) 0 i:=by simp [Zag]
 rw [e2,d i];split
 ·rfl
 ·show _=(Zag h.l R 0 h.size).getD i 0;rw [ZbF];unfold Zag;rw [ZaN,Zdd h1];rfl
theorem Znq {h:Hd} {R:List RO} (H:ImgI h R) {off n:Nat} {es:List Ext} (c:Cover h.l off n es) (hn:off+n<=h.size) (h0:0<n) {whole:Ext->Bool}
  (hw:∀ e ∈ es,whole e=true->∀ x,x<h.size->(ZB h.l x).1=e.obj->off<=x∧x<off+n) :
  viewI h (es.foldl (Zbr h.newest whole) R)=⟨layB (viewI h R).data off (List.replicate n 0),(viewI h R).snaps⟩:=by
 obtain ⟨a,b,d⟩:=ZiS H c hn hw;rw [ZfW H.ids b];simp only [Vw.mk.injEq,Zae];have hl:(viewI h R).data.length=h.size:=ZaO ..;have hp:List.replicate n (0:Int)≠[]:=fun q=>by have:=congrArg List.length q;simp at this;omega
 refine Zh4 (by rw [ZaO,Zdr (by rw [hl,Za7];exact hn),hl]) fun i h1 h2=>?_;rw [ZaO] at h1;have e1:(layB (viewI h R).data off (List.replicate n 0))[i]=(layB (viewI h R).data off (List.replicate n 0)).getD i 0:=by rw [ZbF,ZL h2];rfl
 rw [e1,Ze0 hp,Za7];have e2:(Zag h.l (es.foldl (Zbr h.newest whole) R) 0 h.size)[i]'(by rw [ZaO];exact h1)=byteR h.l (es.foldl (Zbr h.newest whole) R) 0 i:=by simp [Zag]
 rw [e2,d i];split
 ·rw [ZbF,Zd9];split <;> rfl
 ·show _=(Zag h.l R 0 h.size).getD i 0;rw [ZbF];unfold Zag;rw [ZaN,Zdd h1];rfl
def findM (h:Hd) (n:ByteArray):Option Mk:=h.marks.find? fun m=>m.seen&&decide (m.name=n)
theorem ZfJ (h:Hd) (n:ByteArray):findM h n=h.seen.find? fun m=>decide (m.name=n):=by
 unfold findM Hd.seen;rw [List.find?_filter];congr 1;funext m;simp
theorem Znr (h:Hd) (R:List RO) (n:ByteArray):findV (viewI h R) n=h.seen.findIdx? fun m=>decide (m.name=n):=by
 unfold findV viewI;simp only [List.findIdx?_map];rfl
theorem Zj6 {α:Type} (p:α->Bool):∀ (l:List α),(l.find? p=none∧l.findIdx? p=none)∨∃ a i,l.find? p=some a∧l.findIdx? p=some i∧l[i]?=some a
 | []=>.inl ⟨rfl,rfl⟩
 | x::l=>by
  cases hx:p x with
  | true=>exact .inr ⟨x,0,by rw [Zic hx],by simp [List.findIdx?_cons,hx],rfl⟩
  | false =>
   rcases Zj6 p l with ⟨h1,h2⟩|⟨a,i,h1,h2,h3⟩
   ·exact .inl ⟨by rw [Zgv (by simp [hx]),h1],by simp [List.findIdx?_cons,hx,h2]⟩
   ·exact .inr ⟨a,i+1,by rw [Zgv (by simp [hx]),h1],by simp [List.findIdx?_cons,hx,h2],by simpa using h3⟩
theorem Zf0 (h:Hd) (R:List RO) (n:ByteArray):(findM h n=none∧findV (viewI h R) n=none)∨∃ m i,findM h n=some m∧findV (viewI h R) n=some i∧h.seen[i]?=some m:=by
 rw [ZfJ,Znr];exact Zj6 _ _
def heldM (ms:List Mk):Option Mk:=ms.find? fun m=>holdN m.name
def ZaV (stay:Bool) (id:Int):List Mk->List Mk
 | []=>[]
 | m::ms=>if m.id=id then (if stay then { m with gone:=true }::ZaV stay id ms else ZaV stay id ms) else m::ZaV stay id ms
def Zcv (ms:List Mk) (id:Int):Bool:=match heldM ms with
 | none=>false
 | some x=>decide (id<=x.id)
def ZaC (ms:List Mk) (id:Int):List Mk:=ZaV (Zcv ms id) id ms
theorem ZeK (b:Bool) (id:Int):∀ ms:List Mk,((ZaV b id ms).map (·.id)).Sublist (ms.map (·.id))∧(∀ m ∈ ZaV b id ms,∃ m' ∈ ms,m'.id=m.id∧m'.size=m.size)∧(ZaV b id ms).filter Mk.seen=(ms.filter Mk.seen).filter fun m=>decide (m.id≠id)
 | []=>⟨List.Sublist.slnil,fun m hm=>(by cases hm),rfl⟩
 | m::ms=>by
  obtain ⟨h1,h2,h3⟩:=ZeK b id ms;have h2':∀ x ∈ ZaV b id ms,∃ m' ∈ m::ms,m'.id=x.id∧m'.size=x.size:=fun x hx=>by
   obtain ⟨m',q,r⟩:=h2 x hx;exact ⟨m',Z8 _ q,r⟩
  unfold ZaV;by_cases hm:m.id=id
  ·rw [Zb hm];have e3:((m::ms).filter Mk.seen).filter (fun m=>decide (m.id≠id))=(ms.filter Mk.seen).filter fun m=>decide (m.id≠id):=by
    rw [ZaM];split
    ·rw [ZdZ (by simp [hm])]
    ·rfl
   cases b with
   | true =>
    rw [Zb rfl];refine ⟨h1.cons_cons _,fun x hx=>?_,?_⟩
    ·rcases ZO.1 hx with rfl|hx
     ·exact ⟨m,Z0 ..,rfl,rfl⟩
     ·exact h2' x hx
    ·rw [ZdZ (by simp [Mk.seen]),e3,h3]
   | false =>
    rw [Za (by simp)];exact ⟨h1.cons _,h2',by rw [e3,h3]⟩
  ·rw [Za hm];refine ⟨h1.cons_cons _,fun x hx=>?_,?_⟩
   ·rcases ZO.1 hx with rfl|hx
    ·exact ⟨x,Z0 ..,rfl,rfl⟩
    ·exact h2' x hx
   ·rw [ZaM,ZaM];split
    ·rw [Zfn (by simpa using hm),h3]
    ·exact h3
theorem ZiA {α:Type} (f:α->Int):∀ (l:List α) (i:Nat) (a:α),(l.map f).Nodup->l[i]?=some a->(l.filter fun x=>decide (f x≠f a))=l.eraseIdx i
 | [],_,_,_,h=>by simp at h
 | x::l,0,a,hn,h=>by
  have e:x=a:=by simpa using h
  subst e;rw [Zav] at hn;have hn2:=Za9.1 hn
  rw [ZdZ (by simp),Zcy.2 fun y hy=>by
   rw [Ze];intro q
   exact hn2.1 (q ▸ Zbz hy)]
  rfl
 | x::l,i+1,a,hn,h=>by
  rw [Zav] at hn;have hn2:=Za9.1 hn;have h:l[i]?=some a:=by simpa using h
  have hne:f x≠f a:=fun q=>hn2.1 (q ▸ Zbz (Zay h));rw [Zfn (by simpa using hne),ZiA f l i a hn2.2 h];rfl
theorem ZoO {l:List Int} (h:Inc l):l.Nodup:=h.imp fun {a b} hab e=>by omega
theorem Zns {h:Hd} (hi:Inc h.ids):(h.seen.map (·.id)).Nodup:=by
 refine ZoO (List.Pairwise.sublist ?_ hi);unfold Hd.seen Hd.ids;exact List.filter_sublist.map _
theorem ZiU {h:Hd} {R:List RO} (H:ImgI h R) {m:Mk} {i:Nat} (hi:h.seen[i]?=some m) :
  ImgI { h with marks:=ZaC h.marks m.id } (Za1 ((ZaC h.marks m.id).map (·.id)) R)∧viewI { h with marks:=ZaC h.marks m.id } (Za1 ((ZaC h.marks m.id).map (·.id)) R)=⟨(viewI h R).data,(viewI h R).snaps.eraseIdx i⟩:=by
 obtain ⟨h1,h2,h3⟩:=ZeK (Zcv h.marks m.id) m.id h.marks;have hf:=H.fewer h1 h2;refine ⟨hf.1,?_⟩;rw [show ZaC h.marks m.id=ZaV (Zcv h.marks m.id) m.id h.marks from rfl,Zno H h1 h2,h3];simp only [Vw.mk.injEq,ZK];rw [show List.filter Mk.seen h.marks=h.seen from rfl,ZiA (·.id) h.seen i m (Zns H.ids.inc) hi];unfold viewI;rw [Zey,Zey,Z4,ZcR,Zdb]
end Go.Proofs.YtcbdghojlbpomaaGreat
