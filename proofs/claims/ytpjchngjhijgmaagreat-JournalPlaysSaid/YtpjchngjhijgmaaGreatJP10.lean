import Derived.Test.YtpjchngjhijgmaaGreatJP09
import Derived.Lib.Bytes
set_option linter.all false
set_option maxRecDepth 4000
set_option maxHeartbeats 8000000
open Go.RowKit
open Go.IntKind (i64 u64)
open Go.Value (int pointer slice)
open Go.Obj (cells)
namespace Go.Proofs.YtpjchngjhijgmaaGreat
open Tryz
open HP (pt mapOf)
variable {W w w':World} {I:Hp} {l:List HP}
def Tag.nums (t:Tag):List Int:=[t.id,t.own,t.heir,t.at_]
def tagB (t:Tag) (k:Nat):List Int:=(t.nums.take k).flatMap varB
def Zax (l:List Tag) (i:Nat):List Int:=varB l.length++(l.take i).flatMap fun t=>tagB t 4
def ZaX (l:List Tag):List Int:=Zax l l.length
def chainB (l:List Tag):List Int:=if Z3 l then ZaX l else []
theorem ZeD {l:List Tag} (h:Z3 l=true):1<=l.length∧l.length<=32:=by
 unfold Z3 at h;simp only [ZR,Zk] at h;omega
theorem Znt {l:List Tag}:∀ k,k<=l.length->ZaA l k=true->∀ j,j<k->∀ t,l[j]?=some t->Zcn t j (Zbf (l.take j))∧0<=t.at_:=by
 intro k;induction k with
 | zero=>intro _ _ j hj;omega
 | succ k ih =>
  intro hk ho j hj t ht;obtain ⟨tk,htk⟩:∃ t,l[k]?=some t:=⟨_,Zy (by omega)⟩;have hk1:ZaA l k=true:=by
   cases hq:ZaA l k with
   | true=>rfl
   | false=>rw [Zhg hq 1] at ho;cases ho
  rw [Zed htk hk1] at ho;rcases ZeW j k with h1|h1
  ·exact ih (by omega) hk1 j h1 t ht
  ·obtain rfl:j=k:=by omega
   rw [htk] at ht;cases ht;unfold tagOk at ho;simp only [ZR,Zk] at ho;have h2:=ho.2;rw [ZJ,ZcJ (by omega)] at h2;refine ⟨h2,?_⟩;unfold Zcn at h2;rcases ZbF j with h0|h0
   ·subst h0;have:=h2.1;omega
   ·obtain ⟨tp,htp⟩:∃ t,l[j - 1]?=some t:=⟨_,Zy (by omega)⟩;have h3:=(ih (by omega) hk1 (j - 1) (by omega) tp htp).2;have h4:=Zhf htp;rw [show j - 1+1=j by omega] at h4;have:=h2.2.1;omega
theorem Zhj {l:List Tag} (h:Z3 l=true):∀ t ∈ l,∀ x ∈ t.nums,0<=x∧x<=1099511627776:=by
 unfold Z3 at h;simp only [ZR,Zk] at h;intro t ht x hx;obtain ⟨j,hj,he⟩:=List.getElem_of_mem ht;obtain ⟨h1,h2⟩:=Znt l.length (ZC _) h.2 j hj t (by rw [Zy hj,he]);unfold Zcn at h1;obtain ⟨_,_,h3,h4,h5,h6,h7,h8,h9⟩:=h1;simp only [Tag.nums,Z4,Zbv,Zbi] at hx;rcases hx with rfl|rfl|rfl|rfl
 ·omega
 ·omega
 ·by_cases h0:0<t.own
  ·have:=h8 h0;omega
  ·have:=h9 h0;omega
 ·omega
theorem Ze3 (t:Tag) (k:Nat):(tagB t k).length<=9*k:=by
 unfold tagB;induction k with
 | zero=>simp
 | succ k ih =>
  rw [Zb9,Zcu,Zs];have:((t.nums[k]?).toList.flatMap varB).length<=9:=by
   cases t.nums[k]? with
   | none=>simp
   | some x=>simpa using (ZfY x).2
  omega
theorem Zea (l:List Tag):∀ i,(Zax l i).length<=9+36*i:=by
 intro i;unfold Zax;rw [Zs];have h1:=(ZfY (l.length:Int)).2;have h2:((l.take i).flatMap fun t=>tagB t 4).length<=36*i:=by
  induction i with
  | zero=>simp
  | succ i ih =>
   rw [Zb9,Zcu,Zs];have:((l[i]?).toList.flatMap fun t=>tagB t 4).length<=36:=by
    cases l[i]? with
    | none=>simp
    | some x=>simpa using Ze3 x 4
   omega
 omega
theorem ZgT {l:List Tag} {i:Nat} {t:Tag} (h:l[i]?=some t):Zax l (i+1)=Zax l i++tagB t 4:=by
 unfold Zax;rw [Zb9,h,Zcu,ZV];simp
section
theorem St.var_call {A:Option Addr} {c:Nat} {b:List Int} (n:Int) (h:St W I w (HP.row 5 1 (slice A b.length c) b.length (b.map byteV)::l)) (hn0:0<=n) (hn:n<9223372036854775808) (hbl:b.length<=1000000) :
  Calls prog 204 #[slice A b.length c,int i64 n] w fun e w'=>∃ A' c' q,e=.returned (slice A' q.length c')∧q=b++varB n∧St W I w' (HP.row 5 1 (slice A' q.length c') q.length (q.map byteV)::l):=by
 refine (Zsj _ b n w (SliceSrc.of_owns h.row_owns (Zcb b)) hn0 hn hbl).mono ?_;rintro e w' ⟨v',rfl,hb,ho⟩;obtain ⟨A',c',rfl⟩:=ZA ho;exact ⟨A',c',_,rfl,rfl,h.drop.row_fresh hb ho⟩
theorem Zlo (A:Option Addr) (c:Nat) (l:List Tag) (w:World) (hl:TagsAt w A l.length l) (hn:l.length<=1000000) (hcap:l.length<=c) :
  Calls prog 185 #[slice A l.length c] w fun e w'=>∃ A' c',e=.returned (.tuple #[slice A' (chainB l).length c',int i64 (if Z3 l then 0 else 1)])∧St w w.hp w' [HP.row 5 1 (slice A' (chainB l).length c') (chainB l).length ((chainB l).map byteV)]:=by
 have HR:=Zh (ZhP A l.length c l w hl hn hcap);cases hr:Z3 l with
 | false =>
  rw [hr] at HR;have hc:chainB l=[]:=by unfold chainB;rw [hr];rfl
  rw [hc];clear hc hr;go_enter func185,ntmps185;go_wp2_with fail;refine HR.o.mono ?_;rintro e w2 ⟨rfl,hb2⟩;go_wp2;go_ret2;refine ⟨none,0,rfl,?_⟩;exact ((St.init w).keep hb2).row_nil _ _
 | true =>
  rw [hr] at HR;obtain ⟨r,hc⟩:∃ r,chainB l=r:=⟨_,rfl⟩;have HC:=Zh (show ZaX l=r by rw [<-hc];unfold chainB;rw [hr];rfl);have hsm:=ZeD hr;have HN:=Zh (Zhj hr);rw [hc];have HL:=Zh hl;clear hl hn hr hc;go_enter func185,ntmps185;go_wp2_with fail;refine HR.o.mono ?_;rintro e w2 ⟨rfl,hb2⟩;have h2:=((St.init w).keep hb2).row_nil 5 1;have HV:=Zh (St.var_call (b:=[]) (A:=none) (c:=0) (l.length:Int) h2 (by omega) (by omega) (by simp));clear h2 hb2 HR;go_wp2_with fail;refine HV.o.mono ?_;rintro e w3 ⟨A3,c3,q3,rfl,hq3,h3⟩;have H3:=Zh h3;have HQ3:=Zh hq3;clear h3 hq3;go_wp2;go_loopw [4,17] (fun a4 a17 wr=>∃ (i:Nat) (A':Option Addr) (c':Nat) (q:List Int),a17=int i64 i∧i<=l.length∧a4=slice A' q.length c'∧q=Zax l i∧St w w.hp wr [HP.row 5 1 (slice A' q.length c') q.length (q.map byteV)]) (fun _ a17 _=>l.length - (intOf a17).toNat);case atStart=>exact ⟨0,A3,c3,q3,rfl,ZL _,rfl,by rw [HQ3.o];simp [Zax],H3.o⟩
  case round =>
   obtain ⟨i,A',c',q,rfl,hi,rfl,hq,hst⟩:=hrel;have HQ:=Zh hq;clear hq;by_cases hlt:i<l.length
   ·have d0:decide ((i:Int)<(l.length:Int))=true:=by rw [Zk];omega
    obtain ⟨b,off,t,rfl,hbl,ht,x0,x1,x2,x3⟩:=(HL.o.below hst.below (ZC _)).at_ hlt;have HNT:=Zh (HN.o t (ZaG ht));have HS:=Zh (ZgT ht);obtain ⟨tid,town,their,tat⟩:=t;simp only at x0 x1 x2 x3;have hst1:=hst.keep (ZS wr (cells #[int i64 tid,int i64 town,int i64 their,int i64 tat] 80));have HST:=Zh hst1;have hin:(i:Int)<(l.length:Int):=by omega
    clear hst hst1 ht;have i0:∀ w:World,(Instr.index 106 (.agg #[int i64 tid,int i64 town,int i64 their,int i64 tat]) (int i64 0)).run prog w=.ok (int i64 tid) w:=fun _=>by kernel_rfl
    have i1:∀ w:World,(Instr.index 106 (.agg #[int i64 tid,int i64 town,int i64 their,int i64 tat]) (int i64 1)).run prog w=.ok (int i64 town) w:=fun _=>by kernel_rfl
    have i2:∀ w:World,(Instr.index 106 (.agg #[int i64 tid,int i64 town,int i64 their,int i64 tat]) (int i64 2)).run prog w=.ok (int i64 their) w:=fun _=>by kernel_rfl
    have i3:∀ w:World,(Instr.index 106 (.agg #[int i64 tid,int i64 town,int i64 their,int i64 tat]) (int i64 3)).run prog w=.ok (int i64 tat) w:=fun _=>by kernel_rfl
    go_wp2;go_loopw [4,30] (fun a4 a30 wr=>∃ (j:Nat) (A':Option Addr) (c':Nat) (q:List Int),a30=int i64 j∧j<=4∧a4=slice A' q.length c'∧q=Zax l i++tagB (⟨tid,town,their,tat⟩:Tag) j∧St w w.hp wr [HP.row 5 1 (slice A' q.length c') q.length (q.map byteV)]) (fun _ a30 _=>4 - (intOf a30).toNat);case atStart=>exact ⟨0,A',c',q,rfl,ZL _,rfl,by rw [HQ.o];simp [tagB],HST.o⟩
    case round =>
     obtain ⟨j,A',c',q,rfl,hj,rfl,hq,hst2⟩:=hrel;clear HQ HST;rcases (show j=0∨j=1∨j=2∨j=3∨j=4 by omega) with rfl|rfl|rfl|rfl|rfl
     ·have hv:=St.var_call tid hst2 (HNT.o _ (by simp [Tag.nums])).1 (by have:=(HNT.o tid (by simp [Tag.nums])).2;omega) (by have:=Ze3 (⟨tid,town,their,tat⟩:Tag) 0;have:=Zea l i;rw [hq,Zs];omega);have HQ:=Zh hq;have HV:=Zh hv;clear hv hst2 hq;go_wp2_with fail;refine HV.o.mono ?_;rintro e w6 ⟨A6,c6,q6,rfl,hq6,h6⟩;have H6:=Zh h6;have HQ6:=Zh (show q6=Zax l i++tagB (⟨tid,town,their,tat⟩:Tag) 1 by rw [hq6,HQ.o,ZV];simp [tagB,Tag.nums]);clear h6 HV hq6;go_wp2;go_roundw;case rel=>exact ⟨1,A6,c6,q6,rfl,by omega,rfl,HQ6.o,H6.o⟩
      case measure=>simp [intOf]
     ·have hv:=St.var_call town hst2 (HNT.o _ (by simp [Tag.nums])).1 (by have:=(HNT.o town (by simp [Tag.nums])).2;omega) (by have:=Ze3 (⟨tid,town,their,tat⟩:Tag) 1;have:=Zea l i;rw [hq,Zs];omega);have HQ:=Zh hq;have HV:=Zh hv;clear hv hst2 hq;go_wp2_with fail;refine HV.o.mono ?_;rintro e w6 ⟨A6,c6,q6,rfl,hq6,h6⟩;have H6:=Zh h6;have HQ6:=Zh (show q6=Zax l i++tagB (⟨tid,town,their,tat⟩:Tag) 2 by rw [hq6,HQ.o,ZV];simp [tagB,Tag.nums]);clear h6 HV hq6;go_wp2;go_roundw;case rel=>exact ⟨2,A6,c6,q6,rfl,by omega,rfl,HQ6.o,H6.o⟩
      case measure=>simp [intOf]
     ·have hv:=St.var_call their hst2 (HNT.o _ (by simp [Tag.nums])).1 (by have:=(HNT.o their (by simp [Tag.nums])).2;omega) (by have:=Ze3 (⟨tid,town,their,tat⟩:Tag) 2;have:=Zea l i;rw [hq,Zs];omega);have HQ:=Zh hq;have HV:=Zh hv;clear hv hst2 hq;go_wp2_with fail;refine HV.o.mono ?_;rintro e w6 ⟨A6,c6,q6,rfl,hq6,h6⟩;have H6:=Zh h6;have HQ6:=Zh (show q6=Zax l i++tagB (⟨tid,town,their,tat⟩:Tag) 3 by rw [hq6,HQ.o,ZV];simp [tagB,Tag.nums]);clear h6 HV hq6;go_wp2;go_roundw;case rel=>exact ⟨3,A6,c6,q6,rfl,by omega,rfl,HQ6.o,H6.o⟩
      case measure=>simp [intOf]
     ·have hv:=St.var_call tat hst2 (HNT.o _ (by simp [Tag.nums])).1 (by have:=(HNT.o tat (by simp [Tag.nums])).2;omega) (by have:=Ze3 (⟨tid,town,their,tat⟩:Tag) 3;have:=Zea l i;rw [hq,Zs];omega);have HQ:=Zh hq;have HV:=Zh hv;clear hv hst2 hq;go_wp2_with fail;refine HV.o.mono ?_;rintro e w6 ⟨A6,c6,q6,rfl,hq6,h6⟩;have H6:=Zh h6;have HQ6:=Zh (show q6=Zax l i++tagB (⟨tid,town,their,tat⟩:Tag) 4 by rw [hq6,HQ.o,ZV];simp [tagB,Tag.nums]);clear h6 HV hq6;go_wp2;go_roundw;case rel=>exact ⟨4,A6,c6,q6,rfl,by omega,rfl,HQ6.o,H6.o⟩
      case measure=>simp [intOf]
     ·have HQ:=Zh (hq.trans HS.o.symm);have H9:=Zh hst2;clear hst2 hq;go_wp2;go_roundw;case rel=>exact ⟨i+1,A',c',q,by go_num,by omega,rfl,HQ.o,H9.o⟩
      case measure=>simp [intOf]<;>omega
   ·obtain rfl:i=l.length:=by omega
    have d0:decide (((l.length:Nat):Int)<(l.length:Int))=false:=by rw [ZT];omega
    have HST:=Zh hst;clear hst;go_wp2;go_ret2;obtain rfl:q=r:=HQ.o.trans HC.o;exact ⟨A',c',rfl,HST.o⟩
end
section
variable {K V : Type} [DecidableEq K]
theorem get_put (k k':K) (v:V) (L:List (K × V)):get k' (put k v L)=if k'=k then some v else get k' L:=by
 by_cases e:k'=k
 ·subst e;simp [ZcU]
 ·simp [Zdv e,e]
theorem ZsX (k k':K) (L:List (K × V)):get k' (del k L)=if k'=k then none else get k' L:=by
 by_cases e:k'=k
 ·subst e;simp [ZnM]
 ·simp [Zf8 e,e]
end
def Coh (S:Str):Prop:=∀ k,get k S.seen=(lateAt S k).foldl stepD (get k S.dry)
theorem Zlp (S:Str) (k k':K4) (was:Int) (o:Option TS):get k' (showS S k was o).seen=if k'=k then o else get k' S.seen:=by
 cases o with
 | none=>exact ZsX k k' S.seen
 | some t=>exact get_put k k' t S.seen
theorem ZsY (x:Int):IntKind.i64.wrap x=wrap64 x:=by rw [Zx];unfold wrap64;omega
structure Done (S S':Str) (k:K4) (d:Dd):Prop where
 room:S'.room=S.room
 on:S'.on=S.on
 armed:S'.armed=S.armed
 keep:S'.keep=S.keep
 torn:S'.torn=S.torn
 dry:S'.dry=S.dry
 seen:∀ k',get k' S'.seen=if k'=k then stepD (get k S.seen) d else get k' S.seen
 late:∀ k',lateAt S' k'=if k'=k then lateAt S k++[d] else lateAt S k'
 used:S'.used=wrap64 (S.used+(sizeO (stepD (get k S.seen) d) - wrap64 (sizeO (get k S.seen))))
 deeds:S'.deeds=wrap64 (S.deeds+1)
 wet:S'.wet=wrap64 (S.wet+1)
 fuse:S.armed=true->0<S.fuse∧S'.fuse=S.fuse - 1
theorem ZjO {S:Str} (h:(Z5 S).1=false):∃ f,(Z5 S).2={ S with fuse:=f }∧(S.armed=true->0<S.fuse∧f=S.fuse - 1):=by
 unfold Z5 at *;split
 ·rename_i ha;rw [Zb ha] at h;split
  ·rename_i hf;exact ⟨_,rfl,fun _=>⟨hf,rfl⟩⟩
  ·rename_i hf;rw [Za hf] at h;cases h
 ·rename_i ha;exact ⟨S.fuse,rfl,fun h=>absurd h ha⟩
theorem Zsk {S:Str} {k:K4} {d:Dd} (h:(Z5 S).1=true):doS S k d=(true,(Z5 S).2):=by simp [doS,h]
theorem Zgv {S:Str} {k:K4} {d:Dd} (h:(Z5 S).1=false):(doS S k d).1=false∧Done S (doS S k d).2 k d:=by
 obtain ⟨f,hf,hfu⟩:=ZjO h;have e:doS S k d=(false,{ showS { S with fuse:=f } k (wrap64 (sizeO (get k S.seen))) (stepD (get k S.seen) d) with late:=put k (lateAt { S with fuse:=f } k++[d]) S.late,wet:=wrap64 (S.wet+1),deeds:=wrap64 (S.deeds+1) }):=by
  unfold doS;rw [h,hf];rfl
 rw [e];refine ⟨rfl,rfl,rfl,rfl,rfl,rfl,rfl,fun k'=>Zlp { S with fuse:=f } k k' (wrap64 (sizeO (get k S.seen))) (stepD (get k S.seen) d),fun k'=>?_,?_,rfl,rfl,hfu⟩
 ·show (get k' (put k (lateAt S k++[d]) S.late)).getD []=_;rw [get_put];split
  ·rfl
  ·rfl
 ·exact ZsY _
theorem Done.coh {S S':Str} {k:K4} {d:Dd} (h:Done S S' k d) (hc:Coh S):Coh S':=fun k'=>by
 rw [h.seen,h.late,h.dry];split
 ·rename_i e;subst e;rw [ZeZ,<-hc];rfl
 ·exact hc k'
structure Fell (S S':Str) (keep:List Int) (torn:Int):Prop where
 room:S'.room=S.room
 on:S'.on=false
 armed:S'.armed=false
 late:S'.late=[]
 wet:S'.wet=0
 deeds:S'.deeds=S.deeds
 obj:∃ N:K4->Int,∀ k,get k S'.seen=(leftS S k (N k) torn).1∧get k S'.dry=(leftS S k (N k) torn).1
theorem Zoy {S:Str} {k:K4} (h:k ∉ S.late.map (·.1)):lateAt S k=[]:=by
 unfold lateAt;have:get k S.late=none:=get_none.2 fun x hx e=>h (Zam.2 ⟨x,hx,e⟩);rw [this];rfl
theorem Zpx (S:Str) (k:K4):get k (Zcp S)=if k ∈ S.late.map (·.1) then get k S.seen else get k S.dry:=by
 unfold Zcp dryBy;by_cases hk:k ∈ S.late.map (·.1)
 ·rw [Zb hk];have h1:∀ (L R:List (K4 × TS)),get k (L.filter (fun x=>!(S.late.map (·.1)).contains x.1)++R)=get k R:=fun L R=>by
   induction L with
   | nil=>rfl
   | cons x L ih =>
    by_cases hx:(S.late.map (·.1)).contains x.1=true
    ·rw [ZiU (by simpa using hx)];exact ih
    ·rw [Zi0 (by simpa using hx),ZG];have hne:k≠x.1:=fun e=>hx (by rw [<-e];exact Zdq.2 hk);obtain ⟨a,b⟩:=x;simp only [get,hne,Zas];exact ih
  rw [h1];induction S.seen with
  | nil=>rfl
  | cons x L ih =>
   obtain ⟨a,b⟩:=x;by_cases hx:(S.late.map (·.1)).contains a=true
   ·rw [Zi0 (by simpa using hx)];unfold get;rw [ih]
   ·rw [ZiU (by simpa using hx)];have hne:k≠a:=fun e=>hx (by rw [<-e];exact Zdq.2 hk);rw [show get k ((a,b)::L)=get k L by simp [get,hne]];exact ih
 ·rw [Za hk]
  have h2:∀ (R:List (K4 × TS)),get k (R.filter (fun x=>(S.late.map (·.1)).contains x.1))=none:=fun R=>get_none.2 fun x hx e=>hk (by
   have:=(Za4.1 hx).2;rw [e] at this
   exact Zdq.1 this)
  have h3:∀ (L R:List (K4 × TS)),get k R=none->get k (L.filter (fun x=>!(S.late.map (·.1)).contains x.1)++R)=get k L:=fun L R hR=>by
   induction L with
   | nil=>simpa [get] using hR
   | cons x L ih =>
    obtain ⟨a,b⟩:=x;by_cases hx:(S.late.map (·.1)).contains a=true
    ·rw [ZiU (by simpa using hx)];have hne:k≠a:=fun e=>hk (by rw [e];exact Zdq.1 hx);rw [show get k ((a,b)::L)=get k L by simp [get,hne]];exact ih
    ·rw [Zi0 (by simpa using hx),ZG];unfold get;rw [ih]
  exact h3 _ _ (h2 _)
structure Dried (S S':Str):Prop where
 room:S'.room=S.room
 on:S'.on=S.on
 armed:S'.armed=S.armed
 keep:S'.keep=S.keep
 torn:S'.torn=S.torn
 seen:S'.seen=S.seen
 used:S'.used=S.used
 late:S'.late=[]
 wet:S'.wet=0
 deeds:S'.deeds=wrap64 (S.deeds+1)
 dry:∀ k,get k S'.dry=get k S.seen
 fuse:S.armed=true->0<S.fuse∧S'.fuse=S.fuse - 1
theorem ZgU {S:Str} (hon:S.on=true) (hc:Coh S) (h:(Z5 S).1=false):(ZB S).1=0∧Dried S (ZB S).2:=by
 obtain ⟨f,hf,hfu⟩:=ZjO h;have e:ZB S=(0,{ S with fuse:=f,dry:=Zcp S,late:=[],wet:=0,deeds:=wrap64 (S.deeds+1) }):=by
  unfold ZB;rw [Za (by simp [hon]),h,hf];rfl
 rw [e];refine ⟨rfl,rfl,rfl,rfl,rfl,rfl,rfl,rfl,rfl,rfl,rfl,fun k=>?_,hfu⟩;show get k (Zcp S)=_;rw [Zpx];split
 ·rfl
 ·rename_i hk;rw [hc k,Zoy hk];rfl
theorem Dried.coh {S S':Str} (h:Dried S S'):Coh S':=fun k=>by
 have:lateAt S' k=[]:=by unfold lateAt;rw [h.late];rfl
 rw [this,h.seen,h.dry];rfl
def oL (K:K4):Option TS->List (K4 × TS)
 | none=>[]
 | some t=>[(K,t)]
def lL (K:K4) (ds:List Dd):List (K4 × List Dd):=if ds=[] then [] else [(K,ds)]
structure One (S:Str) (K:K4) (x y:Option TS) (ds:List Dd):Prop where
 seen:S.seen=oL K x
 dry:S.dry=oL K y
 late:S.late=lL K ds
 used:S.used=sizeO x
 fold:x=ds.foldl stepD y
theorem Ztq (K:K4) (x:Option TS):get K (oL K x)=x:=by cases x <;> simp [oL,get]
theorem One.get {S:Str} {K:K4} {x y:Option TS} {ds:List Dd} (h:One S K x y ds):get K S.seen=x:=by rw [h.seen];exact Ztq K x
def fine (o:Option TS):Prop:=0<=sizeO o∧sizeO o<=1000000000
def stays (y:Option TS) (ds:List Dd) (n torn:Int):Option TS :=
 match ds[keptN n ds.length]? with
 | some d=>if d.kind=1∧0<torn∧d.p≠[] then stepD ((ds.take (keptN n ds.length)).foldl stepD y) (tornD torn d) else (ds.take (keptN n ds.length)).foldl stepD y
 | none=>(ds.take (keptN n ds.length)).foldl stepD y
def kL:K4:=⟨5,0,0,0⟩
def nmO:ByteArray:=⟨#[111]⟩
def lmayS (S:Str) (who:Int):Int:=if S.on=false then 7 else if who<1∨1073741824<who then 1 else 0
def numV (b:List Int):Int:=if b.length<8 then 0 else wrap64 (getB (b.take 8))
def whoS (S:Str):Int × Int:=if S.on=false then (0,7) else (numV (attrS S kL nmO).1,0)
def keepS (S:Str) (K:K4) (nm:ByteArray) (b:List Int):Int × Str :=
 if whyS S K≠0∧(makeS S K).1≠0 then makeS S K
 else if (setS (if whyS S K≠0 then (makeS S K).2 else S) K nm b).1≠0 then setS (if whyS S K≠0 then (makeS S K).2 else S) K nm b
 else ZB (setS (if whyS S K≠0 then (makeS S K).2 else S) K nm b).2
def brkS (S:Str) (who:Int):Int × Str:=if lmayS S who≠0 then (lmayS S who,S) else keepS S kL nmO (putB who 8)
def takeS (S:Str) (who:Int):Int × Str:=if lmayS S who≠0 then (lmayS S who,S) else if (whoS S).1≠0∧(whoS S).1≠who then (8,S) else brkS S who
def ZtD (S:Str) (who:Int):Int × Str:=if lmayS S who≠0 then (lmayS S who,S) else if (whoS S).1≠who then (8,S) else keepS S kL nmO []
section
variable {p : Nat} {S : Str}
end
def kObj (nm:ByteArray) (v:List Int):Option TS:=some ⟨[],if v=[] then [] else [(nm,v)]⟩
def objV (nm:ByteArray) (x:Option TS) (v:List Int):Prop:=(x=none∧v=[])∨x=kObj nm v
def Kept (S:Str) (K:K4) (nm:ByteArray) (v b:List Int) (r:Int × Str):Prop :=
 (r.1=0∧r.2.on=true∧One r.2 K (kObj nm b) (kObj nm b) []∧r.2.room=S.room∧r.2.armed=S.armed) ∨
 (S.armed=true∧r.1=7∧r.2.on=false∧r.2.room=S.room∧r.2.armed=false∧∃ z,One r.2 K z z []∧(objV nm z v∨objV nm z b))
theorem Zil:∀ (k:Nat) (n:Int),0<=n->n<2 ^ (8*k)->getB (putB n k)=n
 | 0,n,h0,h1=>by
  have:n=0:=by simp at h1;omega
  subst this;rfl
 | k+1,n,h0,h1=>by
  have e:putB n (k+1)=(n % 256)::putB (n / 256) k:=by
   unfold putB;rw [List.range_succ_eq_map,ZaT,List.map_map];congr 1
   ·simp
   ·refine List.map_congr_left fun i _=>?_;show n / 2 ^ (8*(i+1)) % 256=n / 256 / 2 ^ (8*i) % 256;rw [show 8*(i+1)=8+8*i by omega,Int.pow_add,show (2:Int) ^ 8=256 by rfl,Int.ediv_ediv_of_nonneg (by decide)]
  have h2:(2:Int) ^ (8*(k+1))=256*2 ^ (8*k):=by
   rw [show 8*(k+1)=8+8*k by omega,Int.pow_add];rfl
  rw [e,getB,Zil k (n / 256) (by omega) (by omega)];omega
theorem Zdw (n:Int) (k:Nat):∀ x ∈ putB n k,isByte x:=fun x hx=>by
 obtain ⟨i,_,rfl⟩:=Zam.1 hx;unfold isByte;omega
def ownV (v:List Int) (o:Int):Prop:=(v=[]∧o=0)∨(v=putB o 8∧1<=o∧o<=1073741824)
structure LkJ (S:Str) (o:Int):Prop where
 room:S.room=1000
 one:∃ x v,One S kL x x []∧objV nmO x v∧ownV v o
def Went (S:Str) (o o':Int) (r:Int × Str):Prop :=
 (r.1=0∧r.2.on=true∧LkJ r.2 o'∧r.2.armed=S.armed)∨(S.armed=true∧r.1=7∧r.2.on=false∧r.2.armed=false∧∃ n,LkJ r.2 n∧(n=o∨n=o'))
def ZtP (own what who:Int):Int × Int :=
 if what<0∨2<what then (own,0) else if who<1∨1073741824<who then (own,1)
 else if (what=0∧own≠0∧own≠who)∨(what=1∧own≠who) then (own,8) else if what=1 then (0,0) else (who,0)
def oursS (S:Str) (what who:Int):Int × Str:=if what=0 then takeS S who else if what=1 then ZtD S who else if what=2 then brkS S who else (0,S)
section
variable {p : Nat} {S : Str}
end
section
variable {p : Nat} {S : Str}
structure LkC (S:Str) (o:Int) (m:Nat):Prop where
 j:LkJ S o
 on:S.on=true
 arm:S.armed=false
 keeps:Keeps S m
end
section
def mayF (a s n:Int):Bool:=decide (1<=a∧a<=1073741824∧1<=s∧s<=1099511627776∧1<=n∧n<=90)
theorem ZsZ {a s n:Int} {b:Bool} (h:b=true↔(1<=a∧a<=1073741824∧1<=s∧s<=1099511627776∧1<=n∧n<=90)):b=mayF a s n:=by
 rw [Zb8,h,mayF,Zk]
theorem Zlq (a s n:Int) (w:World):Calls prog 170 #[int u64 a,int u64 s,int u64 n] w fun e w'=>e=.returned (.bool (mayF a s n))∧w=w':=by
 go_enter func170,ntmps170;go_wp2;all_goals
  go_ret;refine ⟨ret_bool (ZsZ ?_),rfl⟩;simp only [Zk,Zbu,false_iff];omega
theorem Zoz (tag seq:Int) (A:Option Addr) (n c:Nat) (w:World) (h0:mayF tag seq n=true):Calls prog 127 #[.agg #[int i64 tag,int i64 seq,slice A n c]] w fun e w'=>e=.returned (.bool true)∧Below w.heap.size w w':=by
 have hm:=Zlq tag seq n;have hk:=h0;unfold mayF at hk;rw [Zk] at hk;rw [h0] at hm;have HM:=Zh hm;have hw1:IntKind.u64.wrap tag=tag:=by rw [IntKind.wrap_u64];omega
 have hw2:IntKind.u64.wrap seq=seq:=by rw [IntKind.wrap_u64];omega
 have hw3:IntKind.u64.wrap (n:Int)=n:=by rw [IntKind.wrap_u64];omega
 have d1:decide (1<=tag)=true:=Zt (by omega);have d2:decide (1<=seq)=true:=Zt (by omega);clear hm hk h0;go_enter func127,ntmps127;go_wp2_with fail;refine (HM.o _).mono ?_;rintro e w2 ⟨rfl,rfl⟩;go_wp2;go_ret;exact ⟨rfl,ZS _ _⟩
theorem St.put_call {A:Option Addr} {c:Nat} {b:List Int} (n:Int) (k:Nat) (h:St W I w (HP.row 5 1 (slice A b.length c) b.length (b.map byteV)::l)) (hn0:0<=n) (hn:n<18446744073709551616) (hk1:1<=k) (hk8:k<=8) (hbl:b.length<=1000000) :
  Calls prog 128 #[slice A b.length c,int u64 n,int i64 k] w fun e w'=>∃ A' c' q,e=.returned (slice A' q.length c')∧q=b++putB n k∧St W I w' (HP.row 5 1 (slice A' q.length c') q.length (q.map byteV)::l):=by
 refine (Zl8 _ b n k w (SliceSrc.of_owns h.row_owns (Zcb b)) hn0 hn hk1 hk8 hbl).mono ?_;rintro e w' ⟨v',rfl,hb,ho⟩;obtain ⟨A',c',rfl⟩:=ZA ho;exact ⟨A',c',_,rfl,rfl,h.drop.row_fresh hb ho⟩
theorem Zlr (tag seq:Int) (d:List Int) (A:Option Addr) (c:Nat) (w:World) (h0:mayF tag seq d.length=true) (hs:SliceSrc w 1 (slice A d.length c) d.length (d.map byteV)) (hb:∀ x ∈ d,isByte x) :
  Calls prog 68 #[.agg #[int i64 tag,int i64 seq,slice A d.length c]] w fun e w'=>∃ A' c' q,e=.returned (.tuple #[slice A' q.length c',int i64 0])∧q=Zah ⟨tag,seq,d⟩∧St w w.hp w' [HP.row 5 1 (slice A' q.length c') q.length (q.map byteV)]:=by
 have hk:=h0;unfold mayF at hk;rw [Zk] at hk;have hR:=Zoz tag seq A d.length c;have HR:=Zh (fun w=>hR w h0);have HS:=Zh hs;have HB:=Zh hb;obtain ⟨n,hn⟩:∃ n,d.length=n:=⟨_,rfl⟩;have h1:=(St.init w).alloc (cells #[int i64 tag,int i64 seq,slice A d.length c] 50);have H1:=Zh h1;have hw1:IntKind.u64.wrap tag=tag:=by rw [IntKind.wrap_u64];omega
 have hw2:IntKind.u64.wrap seq=seq:=by rw [IntKind.wrap_u64];omega
 have hw3:IntKind.u64.wrap (d.length:Int)=d.length:=by rw [IntKind.wrap_u64];omega
 have HK:=Zh hk;clear hs hb hR h0 h1 hk hn n;go_enter func68,ntmps68;go_wp2_with fail;refine (HR.o _).mono ?_;rintro e w2 ⟨rfl,hb2⟩;have h2:=H1.o.keep hb2;obtain ⟨x0,x1,x2⟩:=Zak h2;have hlt2:=h2.lt;have hcl:=Zl6 w2 #[int .u8 72,int .u8 71,int .u8 74,int .u8 69] 4 4;have h3:=h2.keep (ZS w2 (cells #[int .u8 72,int .u8 71,int .u8 74,int .u8 69] 5 (4,5)));have hpu:=Zl8 _ [72,71,74,69] tag 4 _ (ZsU w2 #[int .u8 72,int .u8 71,int .u8 74,int .u8 69] [72,71,74,69] 4 (4,5) rfl rfl) (by have:=HK.o;omega) (by have:=HK.o;omega) (by decide) (by decide) (by decide);have H3:=Zh h3;have HPU:=Zh hpu;clear h2 h3 hpu hb2;go_wp2_with fail;refine HPU.o.mono ?_;rintro e w4 ⟨v4,rfl,hb4,ho4⟩;obtain ⟨q4,hq4⟩:∃ q,[72,71,74,69]++putB tag 4=q:=⟨_,rfl⟩;rw [hq4] at ho4;obtain ⟨A4,c4,rfl⟩:=ZA ho4;have h4:=H3.o.row_fresh hb4 ho4;clear x0 x1 x2 hcl hb4 ho4;obtain ⟨x0,x1,x2⟩:=Zak (h4.pull 1 _ rfl);have HQ4:=Zh hq4;have hl4:q4.length=8:=by rw [<-hq4];simp [Zb1]
 have hpu:=St.put_call seq 8 h4 (by have:=HK.o;omega) (by have:=HK.o;omega) (by decide) (by decide) (by omega);have HPU:=Zh hpu;have HL4:=Zh hl4;clear h4 hpu hq4 hl4;go_wp2_with fail;refine HPU.o.mono ?_;rintro e w5 ⟨A5,c5,q5,rfl,hq5,h5⟩;clear x0 x1 x2;obtain ⟨x0,x1,x2⟩:=Zak (h5.pull 1 _ rfl);have hl5:q5.length=16:=by have:=HL4.o;rw [hq5,Zs,Zb1];omega
 have hpu:=St.put_call (d.length:Int) 2 h5 (by have:=HK.o;omega) (by have:=HK.o;omega) (by decide) (by decide) (by omega);have HPU:=Zh hpu;have HL5:=Zh hl5;have HQ5:=Zh hq5;clear h5 hpu hq5 hl5;go_wp2_with fail;refine HPU.o.mono ?_;rintro e w6 ⟨A6,c6,q6,rfl,hq6,h6⟩;clear x0 x1 x2;obtain ⟨x0,x1,x2⟩:=Zak (h6.pull 1 _ rfl);have hl6:q6.length=18:=by have:=HL5.o;rw [hq6,Zs,Zb1];omega
 obtain ⟨v7,w7,hr,h7⟩:=St.bytes_append 46 h6 (HS.o.below h6.below) (by have:=HK.o;omega);obtain ⟨A7,c7,rfl⟩:=ZA h7.row_owns;obtain ⟨q7,hq7⟩:∃ q,q6++d=q:=⟨_,rfl⟩;have e7:q6.length+d.length=q7.length:=by rw [<-hq7,Zs]
 rw [<-Zbo,hq7,e7] at h7;rw [e7] at hr;have HR7:=Zh hr;have HL6:=Zh hl6;have HQ6:=Zh hq6;have HQ7:=Zh hq7;have HE7:=Zh e7;have H7:=Zh h7;have h7b:∀ x ∈ q7,isByte x:=by
  rw [<-hq7,hq6,HQ5.o,<-HQ4.o];intro x hx;simp only [Za6] at hx;rcases hx with (((hx|hx)|hx)|hx)|hx
  ·simp at hx;unfold isByte;omega
  ·exact Zdw _ _ x hx
  ·exact Zdw _ _ x hx
  ·exact Zdw _ _ x hx
  ·exact HB.o x hx
 have HB7:=Zh h7b;clear h6 h7 hr hq6 hl6 hq7 e7 h7b;go_wp2_with (at_builtin;refine ZZ _ rfl (.tmp 25) (.tmp 27) 46 46 rfl _ _ rfl rfl _ _ HR7.o ?_);have hl7:q7.length=18+d.length:=by have:=HE7.o;have:=HL6.o;omega
 refine (ZmT _ q7 w7 (SliceSrc.of_owns H7.o.row_owns (Zcb q7)) HB7.o (by have:=HK.o;omega)).mono ?_;rintro e w8 ⟨rfl,rfl⟩;have hu:=ZjN q7 4294967295 (by unfold isU32;omega);have hu2:isU32 (crcOf q7):=u32_xor _ _;unfold isU32 at hu2;obtain ⟨cr,hcr⟩:∃ cr,crcOf q7=cr:=⟨_,rfl⟩;rw [hcr] at hu2 |-;have hw8:IntKind.u64.wrap cr=cr:=by rw [IntKind.wrap_u64];omega
 have hpu:=St.put_call cr 4 H7.o (by omega) (by omega) (by decide) (by decide) (by have:=HK.o;omega);have HPU:=Zh hpu;have HCR:=Zh hcr;clear hpu hcr hu hu2 hl7 x0 x1 x2;go_wp2_with fail;refine HPU.o.mono ?_;rintro e w9 ⟨A9,c9,q9,rfl,hq9,h9⟩;have HQ9:=Zh hq9;have H9:=Zh h9;clear hq9 h9;go_wp2;go_ret2;refine ⟨A9,c9,q9,rfl,?_,((H9.o.pull 1 _ rfl).drop)⟩;have e7:headB ⟨tag,seq,d⟩=q7:=by
  rw [<-HQ7.o,HQ6.o,HQ5.o,<-HQ4.o];rfl
 unfold Zah;rw [e7,HCR.o];exact HQ9.o
end
theorem Zls:∀ {a b:List Int},(∀ x ∈ a,isByte x)->(∀ x ∈ b,isByte x)->Lib.bytesOf a=Lib.bytesOf b->a=b
 | [],[],_,_,_=>rfl
 | [],_::_,_,_,h=>by simp [Lib.bytesOf] at h
 | _::_,[],_,_,h=>by simp [Lib.bytesOf] at h
 | x::a,y::b,ha,hb,h=>by
  simp only [Lib.bytesOf,ZaT,ZdH] at h;have h1:=ha x (Zat ..);have h2:=hb y (Zat ..);unfold isByte at h1 h2;have h3:=congrArg UInt8.toNat h.1;simp only [UInt8.toNat_ofNat'] at h3;have h4:x=y:=by omega
  rw [h4,Zls (fun z hz=>ha z (ZaB _ hz)) (fun z hz=>hb z (ZaB _ hz)) h.2]
theorem Zlt {a b:List Int} (ha:∀ x ∈ a,isByte x) (hb:∀ x ∈ b,isByte x):((strOfNums a).toList==(strOfNums b).toList)=decide (a=b):=by
 rw [Zb8,Zk,ZfB,Lib.strOfNums_toList,Lib.strOfNums_toList];exact ⟨Zls ha hb,fun h=>by rw [h]⟩
theorem Zgq {w:World} {s:Nat} {A:Option Addr} {n c m:Nat} {xs:List Value} (h:SliceSrc w s (slice A n c) n xs) (hm:m<=n):SliceSrc w s (slice A m c) m (xs.take (m*s)):=by
 obtain ⟨A1,c1,e,hsrc,hA⟩:=h;simp only [Zz,ZaR] at e;obtain ⟨rfl,rfl⟩:=e;have hms:=Zdb s hm;refine ⟨_,_,rfl,⟨by rw [ZJ,hsrc.len];omega,fun hp=>?_,fun u hu=>hsrc.one u (ZbI hu)⟩,hA⟩;obtain ⟨ad,e,hc⟩:=hsrc.cells (by omega);refine ⟨ad,e,fun j u hu=>hc j u ?_⟩;rw [ZcG] at hu;split at hu
 ·exact hu
 ·cases hu
section
theorem ZfZ (va vb:Value) (a b:List Int) (w:World) (ha:SliceSrc w 1 va a.length (a.map byteV)) (hb:SliceSrc w 1 vb b.length (b.map byteV)) (ba:∀ x ∈ a,isByte x) (bb:∀ x ∈ b,isByte x) :
  Calls prog 150 #[va,vb] w fun e w'=>e=.returned (.bool (decide (a=b)))∧w=w':=by
 obtain ⟨A,ca,rfl,hsa,hna⟩:=ha;obtain ⟨B,cb,rfl,hsb,hnb⟩:=hb;have h1:(convert 46 9 (slice A a.length ca)).run prog w=.ok (.string (strOfNums a)) w:=Ze7 ⟨A,ca,rfl,hsa,hna⟩;have h2:(convert 46 9 (slice B b.length cb)).run prog w=.ok (.string (strOfNums b)) w:=Ze7 ⟨B,cb,rfl,hsb,hnb⟩;clear hsa hsb;go_enter func150,ntmps150;go_wp2;go_ret;exact ⟨ret_bool (Zlt ba bb),rfl⟩
theorem ZnQ (A:Option Addr) (ca:Nat) (vb:Value) (a b:List Int) (w:World) (ha:SliceSrc w 1 (slice A a.length ca) a.length (a.map byteV)) (hca:a.length<=ca) (hb:SliceSrc w 1 vb b.length (b.map byteV)) (ba:∀ x ∈ a,isByte x) (bb:∀ x ∈ b,isByte x) :
  Calls prog 155 #[slice A a.length ca,vb] w fun e w'=>e=.returned (.bool (decide (b<+:a)))∧w=w':=by
 obtain ⟨B,cb,rfl,hsb,hnb⟩:=hb;by_cases hle:b.length<=a.length
 ·have hq:=fun v h=>ZfZ v (slice B b.length cb) (a.take b.length) b w h ⟨B,cb,rfl,hsb,hnb⟩ (fun x hx=>ba x (ZbI hx)) bb;have e1:decide (a.take b.length=b)=decide (b<+:a):=by
   rw [Zb8,Zk,Zk,Zi5];exact ⟨fun h=>h.symm,fun h=>h.symm⟩
  rw [e1] at hq;have e2:(a.take b.length).length=b.length:=by rw [ZJ];omega
  rw [e2] at hq;have HQ:=Zh hq;have d1:decide ((b.length:Int)<=(a.length:Int))=true:=by rw [Zk];omega
  have hsl:=Zgq ha hle;rw [Zcj,<-Zd8] at hsl;clear hq e1 e2 hsb;have HS:=Zh hsl;clear hsl ha;go_enter func155,ntmps155;go_wp2_with fail;refine (HQ.o _ HS.o).mono ?_;rintro e w2 ⟨rfl,rfl⟩;go_wp2;go_ret;exact ⟨rfl,rfl⟩
 ·have d1:decide ((b.length:Int)<=(a.length:Int))=false:=by rw [ZT];omega
  have e1:decide (b<+:a)=false:=Zq fun h=>hle h.length_le;rw [e1];go_enter func155,ntmps155;go_wp2;go_ret;exact ⟨rfl,rfl⟩
end
end Go.Proofs.YtpjchngjhijgmaaGreat
