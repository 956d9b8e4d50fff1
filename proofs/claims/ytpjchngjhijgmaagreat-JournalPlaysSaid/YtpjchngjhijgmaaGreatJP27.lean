import Derived.Test.YtpjchngjhijgmaaGreatJP26
set_option linter.all false
set_option maxRecDepth 4000
set_option maxHeartbeats 8000000
open Go.RowKit
open Go.IntKind (i64 u64)
open Go.Value (int pointer slice)
open Go.Obj (cells)
namespace Go.Proofs.YtpjchngjhijgmaaGreat
open Tryz
open HP (pt mapOf)
variable {W w w':World} {I:Hp} {l:List HP}
def jD (d:Dd):Prop:=d.kind=0∨d.kind=3∨(d.kind=1∧0<=d.n∧d.n+d.p.length<=4096∧∀ y ∈ d.p,isByte y)∨d.kind=2∨(d.kind=4∧d.name=nmJ∧1<=d.p.length∧d.p.length<=2136)
def jT (t:TS):Prop:=t.b.length<=4096∧(∀ y ∈ t.b,isByte y)∧(t.attr=[]∨∃ v,t.attr=[(nmJ,v)]∧v.length<=2136)
def jO (o:Option TS):Prop:=∀ t,o=some t->jT t
theorem Zts {o:Option TS} {d:Dd} (h:jO o) (hd:jD d):jO (stepD o d):=by
 intro t ht;unfold stepD at ht;split at ht
 ·simp only [Zaa] at ht;subst ht;exact ⟨by simp,fun y hy=>(by cases hy),.inl rfl⟩
 ·rename_i h0;split at ht
  ·cases ht
  ·rename_i h3;split at ht
   ·cases ht
   ·rename_i u;have hu:=h u rfl;split at ht
    ·rename_i h1;simp only [Zaa] at ht;subst ht;rcases hd with e|e|⟨_,e1,e2,e3⟩|e|⟨e,_⟩
     ·omega
     ·omega
     ·refine ⟨?_,ZkL hu.2.1 e3,hu.2.2⟩;show (layB u.b d.n.toNat d.p).length<=4096;rw [ZjK];have hu1:=hu.1;split
      ·exact hu1
      ·omega
     ·omega
     ·omega
    ·rename_i h1;split at ht
     ·simp only [Zaa] at ht;subst ht;refine ⟨?_,fun y hy=>hu.2.1 y (ZbI hy),hu.2.2⟩;show (u.b.take _).length<=4096;rw [ZJ];have:=hu.1;omega
     ·rename_i h2;split at ht
      ·rename_i h4;simp only [Zaa] at ht;subst ht;refine ⟨hu.1,hu.2.1,?_⟩;show ZbN u.attr d.name d.p=[]∨∃ v,ZbN u.attr d.name d.p=[(nmJ,v)]∧v.length<=2136;rcases hd with e|e|⟨e,_⟩|e|⟨_,e1,e2,e3⟩
       ·omega
       ·omega
       ·omega
       ·omega
       ·right;refine ⟨d.p,?_,e3⟩;unfold ZbN;have hne:¬ d.p=[]:=fun q=>by rw [q] at e2;simp at e2
        rw [Za hne,e1];rcases hu.2.2 with e|⟨v',e,_⟩
        ·rw [e];simp [put,del]
        ·rw [e];simp [put,del]
      ·simp only [Zaa] at ht;subst ht;exact hu
theorem ZmV {t:TS} (h:jT t):0<=t.size∧t.size<=6233:=by
 obtain ⟨h1,_,h2⟩:=h;unfold TS.size ZcN;rcases h2 with e|⟨v,e,hv⟩
 ·rw [e];simp;omega
 ·rw [e];have:(([(nmJ,v)]:List (ByteArray × List Int)).map fun x=>(x.1.size:Int)+x.2.length).sum=1+v.length:=by
   show ((nmJ.size:Int)+v.length)+0=_;have:(nmJ.size:Int)=1:=rfl;omega
  rw [this];omega
structure KeysOK (S:Str):Prop where
 rise:∀ g,Zbz (Zp S g)
 mem:∀ g k,k ∈ Zp S g↔k.grp=g∧(get k S.seen).isSome=true
theorem ZmI {k a:K4} {ks:List K4}:a ∈ remK k ks↔a ∈ ks∧a≠k:=by simp [remK]
theorem ZmJ {k a:K4} {ks:List K4}:a ∈ addK k ks↔a=k∨a ∈ ks:=by
 rw [(Zl3 k ks).mem_iff,Z4]
theorem Zrh {S:Str} (h:KeysOK S) (k:K4) (was:Int) (o:Option TS):KeysOK (showS S k was o):=by
 have hka:∀ g,Zp (showS S k was o) g=if g=k.grp then (match o with
   | none=>if k ∈ Zp S g then remK k (Zp S g) else Zp S g
   | some _=>if k ∈ Zp S g then Zp S g else addK k (Zp S g)) else Zp S g:=fun g=>by
  unfold Zp;cases o with
  | none =>
   show (get g (showS S k was none).keys).getD []=_;unfold showS;simp only;by_cases e:g=k.grp
   ·subst e;rw [Zb rfl];by_cases hm:k ∈ Zp S k.grp
    ·rw [Zb hm,ZcU];unfold Zp at hm;rw [Zb hm];rfl
    ·rw [Za hm];unfold Zp at hm;rw [Za hm]
   ·rw [Za e];split
    ·rw [Zdv e]
    ·rfl
  | some t =>
   show (get g (showS S k was (some t)).keys).getD []=_;unfold showS;simp only;by_cases e:g=k.grp
   ·subst e;rw [Zb rfl];by_cases hm:k ∈ Zp S k.grp
    ·rw [Zb hm];unfold Zp at hm;rw [Zb hm]
    ·rw [Za hm,ZcU];unfold Zp at hm;rw [Za hm];rfl
   ·rw [Za e];split
    ·rfl
    ·rw [Zdv e]
 refine ⟨fun g=>?_,fun g a=>?_⟩
 ·rw [hka];split
  ·cases o with
   | none =>
    simp only;split
    ·exact Zkm (h.rise g)
    ·exact h.rise g
   | some t =>
    simp only;split
    ·exact h.rise g
    ·rename_i hm;exact Zkn (h.rise g) hm
  ·exact h.rise g
 ·rw [hka,Zlp];by_cases e:g=k.grp
  ·subst e;rw [Zb rfl];cases o with
   | none =>
    simp only;by_cases ea:a=k
    ·subst ea;rw [Zb rfl];split
     ·rw [ZmI];simp
     ·rename_i hm;simp [hm]
    ·rw [Za ea];split
     ·rw [ZmI,h.mem];simp [ea]
     ·exact h.mem _ _
   | some t =>
    simp only;by_cases ea:a=k
    ·subst ea;rw [Zb rfl];split
     ·rename_i hm;simp [hm]
     ·rw [ZmJ];simp
    ·rw [Za ea];split
     ·exact h.mem _ _
     ·rw [ZmJ,h.mem];simp [ea]
  ·rw [Za e,h.mem];by_cases ea:a=k
   ·subst ea;rw [Zb rfl];constructor
    ·exact fun q=>absurd q.1.symm e
    ·exact fun q=>absurd q.1.symm e
   ·rw [Za ea]
theorem KeysOK.of {S S':Str} (h:KeysOK S) (e1:S'.keys=S.keys) (e2:S'.seen=S.seen):KeysOK S' :=
 ⟨fun g=>by unfold Zp;rw [e1];exact h.rise g,fun g k=>by unfold Zp;rw [e1,e2];exact h.mem g k⟩
structure JInv (U:List K4) (S:Str):Prop where
 room:S.room=1048576
 seenN:(S.seen.map (·.1)).Nodup
 lateN:(S.late.map (·.1)).Nodup
 used:S.used=sumS S.seen
 seen:∀ x ∈ S.seen,x.1 ∈ U∧jT x.2
 dry:∀ x ∈ S.dry,x.1 ∈ U∧jT x.2
 late:∀ x ∈ S.late,x.1 ∈ U∧∀ d ∈ x.2,jD d
 coh:Coh S
 keys:KeysOK S
structure UJ (U:List K4):Prop where
 all:∀ k ∈ U,(k.kind=1∨k.kind=2)∧k.ok=true
 few:U.length<=40
theorem ZlI {l U:List K4} (hn:l.Nodup) (h:∀ x ∈ l,x ∈ U):l.length<=U.length:=by
 induction l generalizing U with
 | nil=>simp
 | cons a l ih =>
  have hn':=ZbR.1 hn;have ha:=h a (Zat ..);have h2:∀ x ∈ l,x ∈ U.erase a:=fun x hx=>by
   have hne:x≠a:=fun e=>hn'.1 (e ▸ hx);exact (List.mem_erase_of_ne hne).2 (h x (ZaB _ hx))
  have h3:=ih hn'.2 h2;have h4:=List.length_erase_of_mem ha;have:0<U.length:=List.length_pos_of_mem ha;simp only [Z9];omega
theorem JInv.count {U:List K4} {S:Str} (h:JInv U S):S.seen.length<=U.length:=by
 have:=ZlI h.seenN fun x hx=>by
  obtain ⟨y,hy,rfl⟩:=Zam.1 hx;exact (h.seen y hy).1
 simpa using this
theorem Zri {L:List (K4 × TS)} (h:∀ x ∈ L,jT x.2):0<=sumS L∧sumS L<=6233*L.length:=by
 induction L with
 | nil=>simp [sumS]
 | cons x L ih =>
  have h1:=ih fun y hy=>h y (ZaB _ hy);have h2:=ZmV (h x (Zat ..));have e:sumS (x::L)=x.2.size+sumS L:=by simp [sumS]
  rw [e];simp only [Z9];omega
theorem JInv.few {U:List K4} {S:Str} (h:JInv U S) (hU:UJ U):0<=S.used∧S.used<=249320:=by
 have h1:=Zri fun x hx=>(h.seen x hx).2;have h2:=h.count;have h3:=hU.few;rw [h.used];omega
theorem JInv.roomy {U:List K4} {S:Str} (h:JInv U S) (hU:UJ U):roomS S=1048576 - S.used:=by
 have:=h.few hU;unfold roomS wrap64;rw [h.room];omega
theorem JInv.getT {U:List K4} {S:Str} (h:JInv U S) (k:K4):jO (get k S.seen):=fun t ht=>(h.seen _ (get_mem ht)).2
theorem JInv.getU {U:List K4} {S:Str} (h:JInv U S) {k:K4} {t:TS} (ht:get k S.seen=some t):k ∈ U:=(h.seen _ (get_mem ht)).1
theorem ZmW {o:Option TS} (h:jO o):0<=sizeO o∧sizeO o<=6233:=by
 cases o with
 | none=>simp [sizeO]
 | some t=>exact ZmV (h t rfl)
theorem Zss {S:Str} (hn:(S.seen.map (·.1)).Nodup) (hu:S.used=sumS S.seen) (h0:0<=S.used∧S.used<=250000) (k:K4) (o:Option TS) (h1:0<=sizeO o∧sizeO o<=6233) (h2:0<=sizeO (get k S.seen)∧sizeO (get k S.seen)<=6233) :
  (showS S k (wrap64 (sizeO (get k S.seen))) o).used=sumS (showS S k (wrap64 (sizeO (get k S.seen))) o).seen∧((showS S k (wrap64 (sizeO (get k S.seen))) o).seen.map (·.1)).Nodup:=by
 have hsp:=Zp3 hn k;have hdl:=Zj2 (del k S.seen);have hw:wrap64 (sizeO (get k S.seen))=sizeO (get k S.seen):=by unfold wrap64;omega
 have hused:IntKind.i64.wrap (S.used+(sizeO o - wrap64 (sizeO (get k S.seen))))=S.used+(sizeO o - sizeO (get k S.seen)):=by
  rw [hw,Zx];omega
 unfold showS;simp only;rw [hused];cases o with
 | none =>
  refine ⟨?_,Zk9 hn⟩;simp only;rw [show sizeO (none:Option TS)=0 from rfl];omega
 | some t =>
  refine ⟨?_,ZhR hn⟩;simp only;have:sumS (put k t S.seen)=t.size+sumS (del k S.seen):=by simp [sumS,put]
  rw [this,show sizeO (some t)=t.size from rfl];omega
theorem Zrj {U:List K4} {S:Str} (h:∀ x ∈ S.seen,x.1 ∈ U∧jT x.2) {k:K4} (hk:k ∈ U) (was:Int) {o:Option TS} (ho:jO o):∀ x ∈ (showS S k was o).seen,x.1 ∈ U∧jT x.2:=by
 intro x hx;cases o with
 | none=>exact h x (Za4.1 hx).1
 | some t =>
  rcases Z4.1 hx with rfl|hx
  ·exact ⟨hk,ho _ rfl⟩
  ·exact h x (Za4.1 hx).1
theorem JInv.did {U:List K4} {S:Str} (h:JInv U S) (hU:UJ U) {k:K4} (hk:k ∈ U) {d:Dd} (hd:jD d) (hb:(Z5 S).1=false):JInv U (doS S k d).2:=by
 have hdn:=(Zgv (k:=k) (d:=d) hb).2;have hco:=hdn.coh h.coh;obtain ⟨f,hf⟩:=ZhV hb;have hst:=Zts (h.getT k) hd;have hsm:=h.few hU;have hss:=Zss h.seenN h.used ⟨hsm.1,by omega⟩ k (stepD (get k S.seen) d) (ZmW hst) (ZmW (h.getT k))
 have e:(doS S k d).2={ showS { S with fuse:=f } k (wrap64 (sizeO (get k S.seen))) (stepD (get k S.seen) d) with
   late:=put k (lateAt S k++[d]) S.late,wet:=wrap64 (S.wet+1),deeds:=wrap64 (S.deeds+1) }:=by
  unfold doS;rw [hb,hf];rfl
 rw [e] at hco |-;refine ⟨h.room,hss.2,ZhR h.lateN,hss.1,Zrj (S:=S) h.seen hk (wrap64 (sizeO (get k S.seen))) hst,h.dry,?_,hco,?_⟩
 ·intro x hx;have hx:x ∈ put k (lateAt S k++[d]) S.late:=hx;rcases Z4.1 hx with rfl|hx
  ·refine ⟨hk,fun d' hd'=>?_⟩;rcases Za6.1 hd' with q|q
   ·unfold lateAt at q;cases hg:get k S.late with
    | none=>rw [hg] at q;simp at q
    | some ds=>rw [hg] at q;exact (h.late _ (get_mem hg)).2 d' (by simpa using q)
   ·simp at q;subst q;exact hd
  ·exact h.late x (Za4.1 hx).1
 ·exact KeysOK.of (Zrh (S:={ S with fuse:=f }) ⟨h.keys.rise,h.keys.mem⟩ k (wrap64 (sizeO (get k S.seen))) (stepD (get k S.seen) d)) rfl rfl
theorem JInv.dried {U:List K4} {S:Str} (h:JInv U S) (hon:S.on=true) (hb:(Z5 S).1=false):JInv U (ZB S).2:=by
 have hd:=(ZgU hon h.coh hb).2;obtain ⟨f,hf⟩:=ZhV hb;have e:(ZB S).2={ S with fuse:=f,dry:=Zcp S,late:=[],wet:=0,deeds:=wrap64 (S.deeds+1) }:=by
  unfold ZB;rw [Za (by simp [hon]),hb,hf];rfl
 have hco:=hd.coh;rw [e] at hco |-;refine ⟨h.room,h.seenN,by simp,h.used,h.seen,?_,fun x hx=>(by cases hx),hco,⟨h.keys.rise,h.keys.mem⟩⟩;intro x hx;have hx:x ∈ dryBy S.dry S.seen (S.late.map (·.1)):=hx;unfold dryBy at hx;rcases Za6.1 hx with q|q
 ·exact h.dry x (Za4.1 q).1
 ·exact h.seen x (Za4.1 q).1
structure FJInv (U:List K4) (S:Str):Prop where
 room:S.room=1048576
 seenN:(S.seen.map (·.1)).Nodup
 used:S.used=sumS S.seen
 seen:∀ x ∈ S.seen,x.1 ∈ U∧jT x.2
 dry:∀ x ∈ S.dry,x.1 ∈ U∧jT x.2
 late:∀ x ∈ S.late,x.1 ∈ U∧∀ d ∈ x.2,jD d
 keys:KeysOK S
theorem JInv.new:JInv [] (newS 1048576):=by
 refine ⟨by show max 0 (min 1048576 1048576)=1048576;omega,by simp [newS],by simp [newS],by simp [newS,sumS],fun x hx=>(by cases hx),fun x hx=>(by cases hx),fun x hx=>(by cases hx),fun k=>by simp [newS,Go.Proofs.YtpjchngjhijgmaaGreat.lateAt,Go.Proofs.YtpjchngjhijgmaaGreat.get],⟨fun g=>by simp [newS,Zp,Go.Proofs.YtpjchngjhijgmaaGreat.get,Zbz],fun g k=>by simp [newS,Zp,Go.Proofs.YtpjchngjhijgmaaGreat.get]⟩⟩
theorem JInv.wider {U V:List K4} {S:Str} (h:JInv U S) (hs:∀ k ∈ U,k ∈ V):JInv V S :=
 ⟨h.room,h.seenN,h.lateN,h.used,fun x hx=>⟨hs _ (h.seen x hx).1,(h.seen x hx).2⟩,fun x hx=>⟨hs _ (h.dry x hx).1,(h.dry x hx).2⟩,fun x hx=>⟨hs _ (h.late x hx).1,(h.late x hx).2⟩,h.coh,h.keys⟩
def thenE (r:Int × Str) (f:Str->Int × Str):Int × Str:=if r.1=0 then f r.2 else r
inductive DStep where
 | deed (k:K4) (d:Dd)
 | bar
def stepE (S:Str):DStep->Int × Str
 | .deed k d=>(offE (doS S k d).1,(doS S k d).2)
 | .bar=>ZB S
def execS:List DStep->Str->Int × Str
 | [],S=>(0,S)
 | s::l,S=>thenE (stepE S s) (execS l)
theorem ZoS {r:Int × Str} {f g:Str->Int × Str} (h:r.1=0->f r.2=g r.2):thenE r f=thenE r g:=by
 unfold thenE;split
 ·rename_i e;exact h e
 ·rfl
theorem Zst (r:Int × Str):thenE r (fun S=>(0,S))=r:=by
 unfold thenE;split
 ·rename_i e;exact Prod.ext e.symm rfl
 ·rfl
theorem ZoT (r:Int × Str) (f g:Str->Int × Str):thenE (thenE r f) g=thenE r fun S=>thenE (f S) g:=by
 unfold thenE;split
 ·rfl
 ·rfl
theorem Zha:∀ (a b:List DStep) (S:Str),execS (a++b) S=thenE (execS a S) (execS b)
 | [],b,S=>rfl
 | s::a,b,S=>by
  show thenE (stepE S s) (execS (a++b))=thenE (thenE (stepE S s) (execS a)) (execS b);rw [ZoT];exact ZoS fun _=>Zha a b _
theorem ZdP (s:DStep) (S:Str):execS [s] S=stepE S s:=Zst _
def ZcD (U:List K4):DStep->Prop
 | .deed k d=>k ∈ U∧jD d
 | .bar=>True
def Zco:DStep->(K4->Option TS)->K4->Option TS
 | .deed k d,V=>fun k'=>if k'=k then stepD (V k) d else V k'
 | .bar,V=>V
def Zaq:List DStep->(K4->Option TS)->K4->Option TS
 | [],V=>V
 | s::l,V=>Zaq l (Zco s V)
def ZbE (S:Str):K4->Option TS:=fun k=>get k S.seen
structure LiveJ (U:List K4) (S:Str):Prop where
 inv:JInv U S
 on:S.on=true
theorem Zrk {S:Str} (s:DStep) (hon:S.on=true) (h:(Z5 S).1=true):stepE S s=(7,(Z5 S).2):=by
 cases s with
 | deed k d=>unfold stepE doS;rw [h];rfl
 | bar=>unfold stepE ZB;rw [Za (by simp [hon]),h];rfl
theorem Zgk {S:Str} (s:DStep) (hon:S.on=true) (hc:Coh S) (h:(Z5 S).1=false):(stepE S s).1=0:=by
 cases s with
 | deed k d=>show offE (doS S k d).1=0;rw [(Zgv h).1];rfl
 | bar=>exact (ZgU hon hc h).1
theorem Zfq {U:List K4} {S:Str} {s:DStep} (h:LiveJ U S) (hU:UJ U) (hs:ZcD U s) (h0:(stepE S s).1=0) :
  LiveJ U (stepE S s).2∧ZbE (stepE S s).2=Zco s (ZbE S)∧(Z5 S).1=false:=by
 have hb:(Z5 S).1=false:=by
  cases hb:(Z5 S).1 with
  | false=>rfl
  | true=>rw [Zrk s h.on hb] at h0;cases h0
 cases s with
 | deed k d =>
  have hd:=(Zgv (k:=k) (d:=d) hb).2;refine ⟨⟨h.inv.did hU hs.1 hs.2 hb,hd.on.trans h.on⟩,?_,hb⟩;funext k';exact hd.seen k'
 | bar =>
  have hd:=(ZgU h.on h.inv.coh hb).2;refine ⟨⟨h.inv.dried h.on hb,hd.on.trans h.on⟩,?_,hb⟩;funext k';show get k' (ZB S).2.seen=get k' S.seen;rw [hd.seen]
theorem Zfr {U:List K4} {S:Str} {k:K4} {d:Dd} (h:LiveJ U S) (hU:UJ U) (hk:k ∈ U) (hd:jD d) (h0:(stepE S (.deed k d)).1=0) :
  LiveJ U (stepE S (.deed k d)).2∧∀ k',get k' (stepE S (.deed k d)).2.seen=if k'=k then stepD (get k S.seen) d else get k' S.seen:=by
 obtain ⟨h1,h2,_⟩:=Zfq h hU (s:=.deed k d) ⟨hk,hd⟩ h0;exact ⟨h1,fun k'=>congrFun h2 k'⟩
theorem ZdU {U:List K4} (hU:UJ U):∀ {l:List DStep} {S:Str},LiveJ U S->(∀ s ∈ l,ZcD U s)->(execS l S).1=0->LiveJ U (execS l S).2∧ZbE (execS l S).2=Zaq l (ZbE S)
 | [],_,h,_,_=>⟨h,rfl⟩
 | s::l,S,h,hs,h0=>by
  have e:execS (s::l) S=thenE (stepE S s) (execS l):=rfl;rw [e] at h0 |-;unfold thenE at h0 |-;by_cases h1:(stepE S s).1=0
  ·rw [Zb h1] at h0 |-;obtain ⟨h2,h3,_⟩:=Zfq h hU (hs s (Zat ..)) h1;obtain ⟨h4,h5⟩:=ZdU hU h2 (fun t ht=>hs t (ZaB _ ht)) h0;exact ⟨h4,by rw [h5,h3];rfl⟩
  ·rw [Za h1] at h0;exact absurd h0 h1
theorem ZkX {S:Str} (s:DStep) (ha:S.armed=false) (hon:S.on=true):(stepE S s).2.armed=false∧(stepE S s).2.on=true:=by
 have hb:Z5 S=(false,S):=by simp [Z5,ha]
 cases s with
 | deed k d=>unfold stepE doS;rw [hb];exact ⟨ha,hon⟩
 | bar=>unfold stepE ZB;rw [Za (by simp [hon]),hb];exact ⟨ha,hon⟩
theorem ZcY {U:List K4} (hU:UJ U):∀ {l:List DStep} {S:Str},LiveJ U S->S.armed=false->(∀ s ∈ l,ZcD U s)->(execS l S).1=0∧(execS l S).2.armed=false
 | [],_,_,ha,_=>⟨rfl,ha⟩
 | s::l,S,h,ha,hs=>by
  have hb:(Z5 S).1=false:=by simp [Z5,ha]
  have h1:=Zgk s h.on h.inv.coh hb;have e:execS (s::l) S=thenE (stepE S s) (execS l):=rfl;rw [e];unfold thenE;rw [Zb h1];exact ZcY hU (Zfq h hU (hs s (Zat ..)) h1).1 (ZkX s ha h.on).1 fun t ht=>hs t (ZaB _ ht)
theorem LiveJ.why {U:List K4} {S:Str} (h:LiveJ U S) {k:K4} (hk:k.ok=true):whyS S k=if (get k S.seen).isSome then 0 else 4:=by
 unfold whyS mayS;rw [h.on,hk];rfl
def goneD:Dd:=⟨3,0,[],⟨#[]⟩⟩
theorem LiveJ.drop {U:List K4} {S:Str} (h:LiveJ U S) {k:K4} (hk:k.ok=true) (hs:(get k S.seen).isSome=true):dropS S k=stepE S (.deed k goneD):=by
 unfold dropS;rw [h.why hk,Zb (by rw [hs];rfl)];rfl
theorem LiveJ.make {U:List K4} {S:Str} (h:LiveJ U S) (hU:UJ U) {k:K4} (hk:k.ok=true) (hs:get k S.seen=none):makeS S k=stepE S (.deed k madeD):=by
 have hw:whyS S k=4:=by rw [h.why hk,hs];rfl
 have:=h.inv.count;have:=hU.few;unfold makeS;rw [hw,Za (by decide),Za (by simp),Za (by omega)];rfl
theorem LiveJ.write {U:List K4} {S:Str} (h:LiveJ U S) (hU:UJ U) {k:K4} {t:TS} (hk:k.ok=true) (hs:get k S.seen=some t) {off:Int} {p:List Int} (h0:0<=off) (h1:off+p.length<=4096):ZbA S k off p=stepE S (.deed k (ZbQ off p)):=by
 have hw:whyS S k=0:=by rw [h.why hk,hs];rfl
 have hr:=h.inv.roomy hU;have hf:=h.inv.few hU;refine (Zgh hw hs ?_).trans rfl;unfold ZbW;rw [Za (by omega),Za (by rw [hr];intro q;have:=q.2;omega)]
theorem LiveJ.append {U:List K4} {S:Str} (h:LiveJ U S) (hU:UJ U) {k:K4} {t:TS} (hk:k.ok=true) (hs:get k S.seen=some t) {p:List Int} (h1:t.b.length+p.length<=4096):ZaJ S k p=stepE S (.deed k (ZbQ t.b.length p)):=by
 unfold ZaJ;rw [hs];exact h.write hU hk hs (by omega) (by omega)
theorem LiveJ.trim {U:List K4} {S:Str} (h:LiveJ U S) {k:K4} {t:TS} (hk:k.ok=true) (hs:get k S.seen=some t) (n:Int):trimS S k n=stepE S (.deed k (cutD t n)):=by
 unfold trimS;rw [hs];simp only;rw [Zb (show whyS S k=0 by rw [h.why hk,hs];rfl)];rfl
theorem LiveJ.set {U:List K4} {S:Str} (h:LiveJ U S) (hU:UJ U) {k:K4} {t:TS} (hk:k.ok=true) (hs:get k S.seen=some t) {v:List Int} (h1:1<=v.length) (h2:v.length<=2136):setS S k nmJ v=stepE S (.deed k (setD nmJ v)):=by
 have hw:whyS S k=0:=by rw [h.why hk,hs];rfl
 have hr:=h.inv.roomy hU;have hf:=h.inv.few hU;refine (Zmy hw hs ?_).trans rfl;have hsz:nmJ.size=1:=rfl;have hne:¬ v=[]:=fun q=>by rw [q] at h1;simp at h1
 unfold Zb6;rw [hsz,Za (by omega),Za ?_];unfold growS;rw [hr,hsz,Za hne];cases get nmJ t.attr with
 | none=>simp;omega
 | some old=>simp;omega
theorem ZmK (b:Bool):offE b=0∨offE b=7:=by cases b <;> simp [offE]
theorem LiveJ.all {U:List K4} {S:Str} (h:LiveJ U S) {k:K4} {t:TS} (hk:k.ok=true) (hs:get k S.seen=some t):readS S k 0 (lenAt S k)=(t.b,0)∧lenAt S k=t.b.length:=by
 have hw:whyS S k=0:=by rw [h.why hk,hs];rfl
 have hl:lenAt S k=t.b.length:=by unfold lenAt;rw [Zb hw,hs]
 refine ⟨?_,hl⟩;unfold readS;rw [Zb hw,hs,hl];simp only;rw [Za (by omega)];simp
theorem LiveJ.attr {U:List K4} {S:Str} (h:LiveJ U S) {k:K4} {t:TS} (hk:k.ok=true) (hs:get k S.seen=some t):attrS S k nmJ=match get nmJ t.attr with
  | none=>([],4)
  | some v=>(v,0):=by
 have hw:whyS S k=0:=by rw [h.why hk,hs];rfl
 unfold attrS;rw [Zb hw,hs];rfl
theorem LiveJ.attr_none {U:List K4} {S:Str} (h:LiveJ U S) {k:K4} (hs:get k S.seen=none):(attrS S k nmJ).2≠0∧(attrS S k nmJ).1=[]:=by
 have hw:whyS S k≠0:=by
  unfold whyS mayS;rw [h.on,hs];cases k.ok <;> simp
 unfold attrS;rw [Za hw];exact ⟨hw,rfl⟩
theorem JInv.seenB {U:List K4} {S:Str} (h:JInv U S):SeenB S:=fun k t ht=>(h.getT k t ht).2.1
def UJn:List K4:=kJ::(List.range 32).map fun i:Nat=>⟨2,0,(i:Int),0⟩
theorem ZaD:UJ UJn:=by
 refine ⟨fun k hk=>?_,by simp [UJn]⟩;rcases Z4.1 hk with rfl|hk
 ·exact ⟨.inl rfl,rfl⟩
 ·obtain ⟨i,hi,rfl⟩:=Zam.1 hk;have:=ZdG.1 hi;refine ⟨.inr rfl,?_⟩;unfold K4.ok;simp only [Zk];omega
theorem Zfx:kJ ∈ UJn:=Zat ..
theorem Zh6 {c:Rg} (hc:c.okB=true) (p:Pl):keyOf c p ∈ UJn:=by
 refine ZaB _ (Zam.2 ⟨(rnum c p).toNat,ZdG.2 ?_,?_⟩)
 ·have:=ZmG hc p;omega
 ·have:=ZmG hc p;unfold keyOf;simp only [K4.mk.injEq,ZaR,Zap];omega
theorem Zir {c:Rg} {p:Pl}:keyOf c p≠kJ:=fun h=>by
 have:=congrArg K4.kind h;simp [keyOf,kJ] at this
theorem JInv.keyCount {S:Str} (h:JInv UJn S):(Zp S ⟨2,0⟩).length<=32:=by
 have hr:=h.keys.rise ⟨2,0⟩;have hn:(Zp S ⟨2,0⟩).Nodup:=ZfR hr;have:=ZlI (U:=(List.range 32).map fun i:Nat=>(⟨2,0,(i:Int),0⟩:K4)) hn fun k hk=>by
  obtain ⟨h1,h2⟩:=(h.keys.mem _ _).1 hk;obtain ⟨t,ht⟩:=Zi6.1 h2;have hm:=h.getU ht;rcases Z4.1 hm with rfl|hm
  ·have:=congrArg G2.kind h1;simp [K4.grp,kJ] at this
  ·exact hm
 simpa using this
structure JOK (S:Str) (J:Jn):Prop where
 live:LiveJ UJn S
 ok:J.r.Ok
 small:J.r.set+J.l.length<=1000000∧J.l.length<=100000
 run:runs J.l J.r.first
 ents:∀ e ∈ J.l,e.okB=true∧e.bytes∧e.tag=tagOf J.r.tags e.seq
 lay:laid J.r.shape J.r.set J.l J.at_ (layF J.r) J.fill
 rec_:∃ t,get kJ S.seen=some t∧get nmJ t.attr=some (recB J.r)
 rows:∀ k,k≠kJ->(get k S.seen).map (·.b)=if Zl (rowsJ J) k=[] then none else some (Zl (rowsJ J) k)
 dead:J.dead=false
 safe:0<=J.safe∧J.safe<=3299023255552
theorem JOK.at {S:Str} {J:Jn} (h:JOK S J):LaidAt J.r.shape J.r.set J.l J.at_ J.fill:=by
 have h1:=h.ok.set;have h2:=h.small;exact ZmE h.ok.shape h.lay h1.1 (by omega)
theorem JOK.jb {S:Str} {J:Jn} (h:JOK S J):JB J:=⟨h.ok,h.small.2,h.at.len,h.at.ok,h.safe⟩
theorem JOK.okB {S:Str} {J:Jn} (h:JOK S J):∀ e ∈ J.l,e.okB=true:=fun e he=>(h.ents e he).1
theorem kJ_ok:kJ.ok=true:=rfl
theorem JOK.jrec {S:Str} {J:Jn} (h:JOK S J):JRec S (some J.r):=by
 obtain ⟨t,h1,h2⟩:=h.rec_;refine ⟨h.ok,?_⟩;rw [h.live.attr kJ_ok h1,h2]
theorem JOK.layX {S:Str} {J:Jn} (h:JOK S J):layX J.r J.l=(J.l,J.at_,J.fill):=by
 have h2:=h.small;exact ZhE h.lay (by show J.r.set+_<=_;omega)
theorem JOK.inRow {S:Str} {J:Jn} (h:JOK S J) {i:Nat} {e:En} {p:Pl} (he:J.l[i]?=some e) (hp:J.at_[i]?=some p):∃ a b,Zl (rowsJ J) (keyOf J.r.shape p)=Zar (a++e::b)∧∀ x ∈ a++e::b,x ∈ J.l:=by
 unfold rowsJ;rw [Zf0];have hw:Zl ([]:List (K4 × List Int)) (keyOf J.r.shape p)=[]:=by simp [Zl,get]
 rw [hw,Zu];obtain ⟨L,hL⟩:=Zn ((J.l.zip J.at_).filterMap fun x=>if keyOf J.r.shape x.2=keyOf J.r.shape p then some x.1 else none);rw [<-hL];have hm:e ∈ L:=by
  rw [hL,List.mem_filterMap];refine ⟨(e,p),?_,by rw [Zb rfl]⟩;refine ZaG (i:=i) ?_;rw [List.getElem?_zip_eq_some];exact ⟨he,hp⟩
 have hs:∀ x ∈ L,x ∈ J.l:=by
  intro x hx;rw [hL,List.mem_filterMap] at hx;obtain ⟨y,hy,hy2⟩:=hx;split at hy2
  ·simp only [Zaa] at hy2;rw [<-hy2];exact (List.of_mem_zip hy).1
  ·cases hy2
 obtain ⟨a,b,hab⟩:=List.append_of_mem hm;exact ⟨a,b,by rw [hab],fun x hx=>hs x (by rw [hab];exact hx)⟩
theorem JOK.rowEnts {S:Str} {J:Jn} (h:JOK S J) (k:K4):∃ L:List En,Zl (rowsJ J) k=Zar L∧(∀ x ∈ L,x ∈ J.l)∧(allB (Zl (rowsJ J) k)).1=L:=by
 obtain ⟨L,hL⟩:=Zn ((J.l.zip J.at_).filterMap fun x=>if keyOf J.r.shape x.2=k then some x.1 else none);have hw:Zl (rowsJ J) k=Zar L:=by
  unfold rowsJ;rw [Zf0];have hw:Zl ([]:List (K4 × List Int)) k=[]:=by simp [Zl,get]
  rw [hw,Zu,hL]
 have hs:∀ x ∈ L,x ∈ J.l:=by
  intro x hx;rw [hL,List.mem_filterMap] at hx;obtain ⟨y,hy,hy2⟩:=hx;split at hy2
  ·simp only [Zaa] at hy2;rw [<-hy2];exact (List.of_mem_zip hy).1
  ·cases hy2
 exact ⟨L,hw,hs,by rw [hw];exact Zjd fun x hx=>h.okB x (hs x hx)⟩
theorem JOK.key {S:Str} {J:Jn} (h:JOK S J) {k:K4} (hk:k ∈ Zp S ⟨2,0⟩):∃ t,get k S.seen=some t∧t.b=Zl (rowsJ J) k∧Zl (rowsJ J) k≠[]∧k.ok=true:=by
 obtain ⟨h1,h2⟩:=(h.live.inv.keys.mem _ _).1 hk;obtain ⟨t,ht⟩:=Zi6.1 h2;have hne:k≠kJ:=fun e=>by
  rw [e] at h1;have:=congrArg G2.kind h1;simp [K4.grp,kJ] at this
 have hr:=h.rows k hne;rw [ht] at hr;simp only [Zct] at hr;split at hr
 ·cases hr
 ·rename_i hw;exact ⟨t,ht,by simpa using hr,hw,(ZaD.all k (h.live.inv.getU ht)).2⟩
theorem JOK.keyMem {S:Str} {J:Jn} (h:JOK S J) {k:K4} (hg:k.grp=⟨2,0⟩) (hw:Zl (rowsJ J) k≠[]):k ∈ Zp S ⟨2,0⟩:=by
 refine (h.live.inv.keys.mem _ _).2 ⟨hg,?_⟩;have hne:k≠kJ:=fun e=>by
  rw [e] at hg;have:=congrArg G2.kind hg;simp [K4.grp,kJ] at this
 have hr:=h.rows k hne;rw [Za hw] at hr;cases hs:get k S.seen with
 | none=>rw [hs] at hr;cases hr
 | some t=>rfl
theorem JOK.fix {S:Str} {J:Jn} (h:JOK S J) {k:K4} (hk:k ∈ Zp S ⟨2,0⟩):fixS (rowsJ J) k S=(0,S):=by
 obtain ⟨t,ht,hb,hw,hok⟩:=h.key hk;obtain ⟨h1,_⟩:=h.live.all hok ht;unfold fixS;rw [h1];simp only;rw [Za (by simp),Zb ⟨hb,hw⟩]
theorem JOK.fixAll {S:Str} {J:Jn} (h:JOK S J):∀ {ks:List K4},(∀ k ∈ ks,k ∈ Zp S ⟨2,0⟩)->fixL (rowsJ J) ks S=ZB S
 | [],_=>rfl
 | k::ks,hs=>by
  unfold fixL;rw [h.fix (hs k (Zat ..)),Za (by simp)];exact h.fixAll fun k' hk'=>hs k' (ZaB _ hk')
theorem JOK.trim {S:Str} {J:Jn} (h:JOK S J):trimJ S J=ZB S:=by
 unfold trimJ;refine h.fixAll fun k hk=>?_;unfold Zau at hk;rw [Zb h.live.on] at hk;exact hk
theorem JOK.readRows {S:Str} {J:Jn} (h:JOK S J):readRows S=(Zp S ⟨2,0⟩).map (Zl (rowsJ J)):=by
 unfold Go.Proofs.YtpjchngjhijgmaaGreat.readRows Zau;rw [Zb h.live.on];refine List.map_congr_left fun k hk=>?_;obtain ⟨t,ht,hb,hw,hok⟩:=h.key hk;rw [(h.live.all hok ht).1];exact hb
theorem JOK.merged {S:Str} {J:Jn} (h:JOK S J):Zb7 (Go.Proofs.YtpjchngjhijgmaaGreat.readRows S) J.r.first=J.l:=by
 refine ZpL h.ok.first.1 h.run (fun e he=>?_) fun e he _ _=>?_
 ·obtain ⟨i,hi⟩:=ZbH he;have hil:=(ZH.1 hi).1;obtain ⟨p,hp⟩:∃ p,J.at_[i]?=some p:=⟨_,Zy (by rw [h.at.len];exact hil)⟩;obtain ⟨a,b,hw,hs⟩:=h.inRow hi hp;have hne:Zl (rowsJ J) (keyOf J.r.shape p)≠[]:=by
   rw [hw];intro q;have:=congrArg List.length q;rw [ZgS,ZfT,Zs,Zs,ZcM] at this;simp at this
  have hk:=h.keyMem (k:=keyOf J.r.shape p) rfl hne;rw [h.readRows];refine Zcs.2 ⟨_,Zam.2 ⟨_,hk,rfl⟩,?_⟩;rw [hw,Zjd fun x hx=>h.okB x (hs x hx)];simp
 ·rw [h.readRows] at he;obtain ⟨r,hr,her⟩:=Zcs.1 he;obtain ⟨k,hk,rfl⟩:=Zam.1 hr;obtain ⟨L,_,hs,ha⟩:=h.rowEnts k;rw [ha] at her;exact hs e her
theorem ZkY {ts:List Tag}:∀ {es:List En},(∀ e ∈ es,e.tag=tagOf ts e.seq)->tagged ts es=es
 | [],_=>rfl
 | x::es,h=>by
  unfold tagged;rw [Zcv,Zb (Zt (h x (Zat ..)))];have:=ZkY (ts:=ts) (es:=es) fun e he=>h e (ZaB _ he);unfold tagged at this;rw [this]
theorem JOK.started {S:Str} {J:Jn} (h:JOK S J):layJ (ZaO S J.r)={ J with safe:=0 }:=by
 have e1:ZaO S J.r=⟨J.r,J.l,[],Fl.zero,0,false⟩:=by
  unfold ZaO;rw [h.merged,ZkY fun e he=>(h.ents e he).2.2]
 unfold layJ lJ;rw [e1];simp only;rw [h.layX];cases J;have:=h.dead;simp only at this;simp [this]
theorem Zml (S:Str) (s:DStep):(stepE S s).1=0∨(stepE S s).1=7:=by
 cases s with
 | deed k d=>exact ZmK _
 | bar =>
  show (ZB S).1=0∨(ZB S).1=7;unfold ZB;split
  ·exact .inr rfl
  ·split
   ·exact .inr rfl
   ·exact .inl rfl
theorem Zfl:∀ (l:List DStep) (S:Str),(execS l S).1=0∨(execS l S).1=7
 | [],S=>.inl rfl
 | s::l,S=>by
  show (thenE (stepE S s) (execS l)).1=0∨(thenE (stepE S s) (execS l)).1=7;unfold thenE;split
  ·exact Zfl l _
  ·exact Zml S s
def Zd3 (S:Str) (r:Rc):List DStep:=if attrS S kJ nmJ=(recB r,0) then [.bar] else [.deed kJ (setD nmJ (recB r)),.bar]
theorem ZeM (S:Str) {r:Rc} (hr:r.Ok):∀ s ∈ Zd3 S r,ZcD UJn s:=by
 intro s hs;have h1:1<=(recB r).length:=by rw [Zel];omega
 unfold Zd3 at hs;split at hs
 ·rw [Zbj.1 hs];exact trivial
 ·rcases Z4.1 hs with rfl|hs
  ·exact ⟨Zfx,.inr (.inr (.inr (.inr ⟨rfl,rfl,h1,Ze8 hr⟩)))⟩
  ·rw [Zbj.1 hs];exact trivial
theorem ZdL {S:Str} {r:Rc} (h:LiveJ UJn S) {t:TS} (ht:get kJ S.seen=some t) (hr:r.Ok):saveJ S r=execS (Zd3 S r) S:=by
 have h1:1<=(recB r).length:=by rw [Zel];omega
 have hs:=h.set ZaD kJ_ok ht h1 (Ze8 hr);unfold saveJ Zd3;by_cases ha:attrS S kJ nmJ=(recB r,0)
 ·rw [Zb ha,Zb ha];exact (ZdP .bar S).symm
 ·rw [Za ha,Za ha,hs];show _=thenE (stepE S (.deed kJ (setD nmJ (recB r)))) (execS [.bar]);unfold thenE;by_cases h0:(stepE S (.deed kJ (setD nmJ (recB r)))).1=0
  ·rw [Za (by simp [h0]),Zb h0];exact (ZdP .bar _).symm
  ·rw [Zb h0,Za h0]
theorem ZeO {S:Str} {r:Rc} (h:LiveJ UJn S) {t:TS} (ht:get kJ S.seen=some t) (hr:r.Ok) (h0:(saveJ S r).1=0) :
  LiveJ UJn (saveJ S r).2∧(∃ t',get kJ (saveJ S r).2.seen=some t'∧get nmJ t'.attr=some (recB r))∧∀ k,k≠kJ->get k (saveJ S r).2.seen=get k S.seen:=by
 have h1:1<=(recB r).length:=by rw [Zel];omega
 have hne:recB r≠[]:=fun q=>by rw [q] at h1;simp at h1
 rw [ZdL h ht hr] at h0 |-;obtain ⟨h2,h3⟩:=ZdU ZaD h (ZeM S hr) h0;refine ⟨h2,?_⟩;have hv:∀ k,get k (execS (Zd3 S r) S).2.seen=Zaq (Zd3 S r) (ZbE S) k:=fun k=>congrFun h3 k;unfold Zd3 at hv |-;by_cases ha:attrS S kJ nmJ=(recB r,0)
 ·rw [Zb ha] at hv |-;refine ⟨⟨t,(hv kJ).trans ht,?_⟩,fun k _=>hv k⟩;have h4:=h.attr kJ_ok ht;rw [ha] at h4;cases hg:get nmJ t.attr with
  | none=>rw [hg] at h4;simp at h4
  | some v =>
   rw [hg] at h4;simp only [Zv,Zap] at h4;rw [h4]
 ·rw [Za ha] at hv |-;have hs:stepD (some t) (setD nmJ (recB r))=some { t with attr:=ZbN t.attr nmJ (recB r) }:=rfl;have e1:Zaq [.deed kJ (setD nmJ (recB r)),.bar] (ZbE S) kJ=stepD (ZbE S kJ) (setD nmJ (recB r)):=by simp [Zaq,Zco]
  have e2:∀ k,k≠kJ->Zaq [.deed kJ (setD nmJ (recB r)),.bar] (ZbE S) k=ZbE S k:=fun k hk=>by simp [Zaq,Zco,hk]
  have e3:stepD (ZbE S kJ) (setD nmJ (recB r))=some { t with attr:=ZbN t.attr nmJ (recB r) }:=by
   rw [show ZbE S kJ=some t from ht];exact hs
  refine ⟨⟨_,(hv kJ).trans (e1.trans e3),?_⟩,fun k hk=>(hv k).trans (e2 k hk)⟩
  ·show get nmJ (ZbN t.attr nmJ (recB r))=_;unfold ZbN;rw [Za hne];exact ZcU
theorem Zgl {S:Str} {r:Rc} (h:LiveJ UJn S) {t:TS} (ht:get kJ S.seen=some t) (hr:r.Ok):(saveJ S r).1=0∨(saveJ S r).1=7:=by
 rw [ZdL h ht hr];exact Zfl _ _
theorem JOK.recd {S S':Str} {J:Jn} {r:Rc} {n:Int} (h:JOK S J) (hl:LiveJ UJn S') (hr:∃ t,get kJ S'.seen=some t∧get nmJ t.attr=some (recB r)) (hs:∀ k,k≠kJ->get k S'.seen=get k S.seen)
  (ok:r.Ok) (e1:r.shape=J.r.shape) (e2:r.first=J.r.first) (e3:r.set=J.r.set) (ht:∀ e ∈ J.l,tagOf r.tags e.seq=tagOf J.r.tags e.seq) (hn:0<=n∧n<=3299023255552):JOK S' { J with r:=r,safe:=n }:=by
 refine ⟨hl,ok,?_,?_,?_,?_,hr,?_,h.dead,hn⟩
 ·show r.set+_<=_∧_;rw [e3];exact h.small
 ·show runs J.l r.first;rw [e2];exact h.run
 ·intro e he;obtain ⟨h1,h2,h3⟩:=h.ents e he;exact ⟨h1,h2,h3.trans (ht e he).symm⟩
 ·show laid r.shape r.set J.l J.at_ ⟨r.set,0,0,0,0⟩ J.fill;rw [e1,e3];exact h.lay
 ·intro k hk;have:rowsJ { J with r:=r,safe:=n }=rowsJ J:=by unfold rowsJ;show ZcC r.shape _ _ _=_;rw [e1]
  rw [this,hs k hk];exact h.rows k hk
theorem run_seq:∀ {es:List En} {s:Int} {e:En},runs es s->e ∈ es->s<=e.seq∧e.seq<s+es.length
 | [],_,_,_,h=>by cases h
 | x::es,s,e,h,he=>by
  obtain ⟨h1,h2⟩:=h;rcases Z4.1 he with rfl|he
  ·simp only [Z9];omega
  ·have:=run_seq h2 he;simp only [Z9];omega
theorem ZkZ {l:List Tag} (h:ZaA l l.length=true):∀ (j:Nat) (t:Tag),l[j]?=some t->∀ (i:Nat) (x:Tag),l[i]?=some x->i<=j->x.at_<=t.at_
 | 0,t,ht,i,x,hx,hi=>by
  obtain rfl:i=0:=by omega
  rw [ht] at hx;cases hx;exact Zdc _
 | j+1,t,ht,i,x,hx,hi=>by
  by_cases q:i=j+1
  ·subst q;rw [ht] at hx;cases hx;exact Zdc _
  have hj:j+1<l.length:=(ZH.1 ht).1;have hy:l[j]?=some l[j]:=Zy (by omega);have h1:=ZkZ h j _ hy i x hx (by omega);have h2:=ZeL h (show j+1+1<=l.length by omega);rw [Zed ht (ZeL h (by omega))] at h2;unfold tagOk at h2;simp only [ZR,Zk] at h2;have h3:=h2.2;unfold Zcn at h3;have h4:=h3.2.1;rw [Zee hy,ZfU] at h4;omega
theorem Zn4 {a:List Tag} {s:Int}:∀ {b:List Tag},(∀ t ∈ b,s<=t.at_)->tagOf (a++b) s=tagOf a s:=by
 intro b;induction b generalizing a with
 | nil=>intro _;rw [Zbc]
 | cons t b ih =>
  intro h;have e:a++t::b=(a++[t])++b:=by simp
  have:=h t (Zat ..);rw [e,ih fun x hx=>h x (ZaB _ hx),ZhA,Za (by omega)]
theorem Znk {l:List Tag} (h:∀ (j:Nat) (t:Tag),l[j]?=some t->∀ (i:Nat) (x:Tag),l[i]?=some x->i<=j->x.at_<=t.at_) {e:Int}:∀ t ∈ l.dropWhile (fun t=>decide (t.at_<=e)),e<t.at_:=by
 induction l with
 | nil=>intro t ht;simp at ht
 | cons a l ih =>
  intro t ht;rw [List.dropWhile_cons] at ht;by_cases q:a.at_<=e
  ·rw [Zb (Zt q)] at ht;exact ih (fun j t ht i x hx hij=>h (j+1) t (by simpa using ht) (i+1) x (by simpa using hx) (by omega)) t ht
  ·rw [Za (by simpa using q)] at ht;obtain ⟨j,hj⟩:=ZbH ht;have:=h j t hj 0 a (by simp) (by omega);omega
theorem ZlJ {l:List Tag} (h:Z3 l=true) {e s:Int} (hs:s<=e+1):tagOf (ZQ l e) s=tagOf l s:=by
 unfold Z3 at h;simp only [ZR] at h;have h1:=Znk (ZkZ h.2) (e:=e);have e1:=List.takeWhile_append_dropWhile (p:=fun t:Tag=>decide (t.at_<=e)) (l:=l);unfold ZQ;conv=>rhs;rw [<-e1]
 refine (Zn4 fun t ht=>?_).symm;have:=h1 t ht;omega
def Zby (J:Jn):Jn:={ J with r:=Zbg J.r (endJ J),safe:=endJ J }
theorem JOK.ends {S:Str} {J:Jn} (h:JOK S J):0<=endJ J∧endJ J<=3299023255552:=by
 have h1:=h.ok.first;have h2:=h.small;unfold endJ;omega
theorem JOK.open_calm {S:Str} {J:Jn} (h:JOK S J) (ha:S.armed=false):∃ S',openJ S J.r=(0,S',Zby J)∧JOK S' (Zby J)∧S'.armed=false:=by
 unfold openJ;rw [h.started];have hend:=h.ends;have htr:trimJ S { J with safe:=0 }=ZB S:=h.trim;have hb:Z5 S=(false,S):=by simp [Z5,ha]
 obtain ⟨h0,h1,h2⟩:(ZB S).1=0∧LiveJ UJn (ZB S).2∧∀ k,get k (ZB S).2.seen=get k S.seen:=by
  have e0:(stepE S .bar).1=0:=Zgk .bar h.live.on h.live.inv.coh (by rw [hb]);obtain ⟨a,b,_⟩:=Zfq h.live ZaD (s:=.bar) trivial e0;exact ⟨e0,a,fun k=>congrFun b k⟩
 have ha1:(ZB S).2.armed=false:=(ZkX .bar ha h.live.on).1;obtain ⟨t,ht,hat⟩:=h.rec_;have ht1:get kJ (ZB S).2.seen=some t:=(h2 kJ).trans ht;have hok:(Zbg J.r (endJ J)).Ok:=Zh0 h.ok hend.1;have hpl:=ZdL h1 ht1 hok;obtain ⟨h3,h4⟩:=ZcY ZaD h1 ha1 (ZeM (ZB S).2 hok);rw [<-hpl] at h3 h4;obtain ⟨h5,h6,h7⟩:=ZeO h1 ht1 hok h3;refine ⟨(saveJ (ZB S).2 (Zbg J.r (endJ J))).2,?_,?_,h4⟩
 ·unfold mendJ;rw [htr,Za (by simp [h0])];have e1:endJ { J with safe:=0 }=endJ J:=rfl;have e2:({ J with safe:=0 }:Jn).r=J.r:=rfl;simp only [e1,e2,h3];rfl
 ·refine h.recd h5 h6 (fun k hk=>(h7 k hk).trans (h2 k)) hok rfl rfl rfl (fun e he=>?_) hend;have:=(run_seq h.run he).2;refine ZlJ h.ok.tags ?_;unfold endJ;omega
end Go.Proofs.YtpjchngjhijgmaaGreat
