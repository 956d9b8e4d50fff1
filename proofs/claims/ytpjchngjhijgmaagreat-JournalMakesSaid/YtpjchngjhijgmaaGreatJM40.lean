import Derived.Test.YtpjchngjhijgmaaGreatJM39
set_option linter.all false
namespace Go.Proofs.YtpjchngjhijgmaaGreat
open Go.RowKit
def jD (d:Dd):Prop:=d.kind=0∨d.kind=3∨(d.kind=1∧0≤d.n∧d.n+d.p.length≤4096∧∀ y ∈ d.p,isByte y)∨d.kind=2∨(d.kind=4∧d.name=nmJ∧1≤d.p.length∧d.p.length≤2136)
def jT (t:TS):Prop:=t.b.length≤4096∧(∀ y ∈ t.b,isByte y)∧(t.attr=[]∨∃ v,t.attr=[(nmJ,v)]∧v.length≤2136)
def jO (o:Option TS):Prop:=∀ t,o=some t→jT t
theorem Zq895 {o:Option TS} {d:Dd} (h:jO o) (hd:jD d):jO (stepD o d):=by
 intro t ht
 unfold stepD at ht
 split at ht
 ·simp only [Option.some.injEq] at ht
  subst ht
  exact ⟨by simp,fun y hy=>(by cases hy),.inl rfl⟩
 ·rename_i h0
  split at ht
  ·cases ht
  ·rename_i h3
   split at ht
   ·cases ht
   ·rename_i u
    have hu:=h u rfl
    split at ht
    ·rename_i h1
     simp only [Option.some.injEq] at ht
     subst ht
     rcases hd with e|e|⟨_,e1,e2,e3⟩|e|⟨e,_⟩
     ·omega
     ·omega
     ·refine ⟨?_,Zq405 hu.2.1 e3,hu.2.2⟩
      show (layB u.b d.n.toNat d.p).length≤4096
      rw [Zq296]
      have hu1:=hu.1
      split
      ·exact hu1
      ·omega
     ·omega
     ·omega
    ·rename_i h1
     split at ht
     ·simp only [Option.some.injEq] at ht
      subst ht
      refine ⟨?_,fun y hy=>hu.2.1 y (List.mem_of_mem_take hy),hu.2.2⟩
      show (u.b.take _).length≤4096
      rw [List.length_take]
      have:=hu.1
      omega
     ·rename_i h2
      split at ht
      ·rename_i h4
       simp only [Option.some.injEq] at ht
       subst ht
       refine ⟨hu.1,hu.2.1,?_⟩
       show Zq83 u.attr d.name d.p=[]∨∃ v,Zq83 u.attr d.name d.p=[(nmJ,v)]∧v.length≤2136
       rcases hd with e|e|⟨e,_⟩|e|⟨_,e1,e2,e3⟩
       ·omega
       ·omega
       ·omega
       ·omega
       ·right
        refine ⟨d.p,?_,e3⟩
        unfold Zq83
        have hne:¬ d.p=[]:=fun q=>by rw [q] at e2;simp at e2
        rw [if_neg hne,e1]
        rcases hu.2.2 with e|⟨v',e,_⟩
        ·rw [e];simp [put,del]
        ·rw [e];simp [put,del]
      ·simp only [Option.some.injEq] at ht
       subst ht
       exact hu
theorem Zq872 {t:TS} (h:jT t):0≤t.size∧t.size≤6233:=by
 obtain ⟨h1,_,h2⟩:=h
 unfold TS.size Zq101
 rcases h2 with e|⟨v,e,hv⟩
 ·rw [e];simp;omega
 ·rw [e]
  have:(([(nmJ,v)]:List (ByteArray × List Int)).map fun x=>(x.1.size:Int)+x.2.length).sum=1+v.length:=by
   show ((nmJ.size:Int)+v.length)+0=_
   have:(nmJ.size:Int)=1:=rfl
   omega
  rw [this]
  omega
structure KeysOK (S:Str):Prop where
 rise:∀ g,Zq90 (Zq18 S g)
 mem:∀ g k,k ∈ Zq18 S g↔k.grp=g∧(get k S.seen).isSome=true
theorem Zq784 {k a:K4} {ks:List K4}:a ∈ remK k ks↔a ∈ ks∧a≠k:=by simp [remK]
theorem Zq785 {k a:K4} {ks:List K4}:a ∈ addK k ks↔a=k∨a ∈ ks:=by
 rw [(Zq615 k ks).mem_iff,List.mem_cons]
theorem Zq747 {S:Str} (h:KeysOK S) (k:K4) (was:Int) (o:Option TS):KeysOK (showS S k was o):=by
 have hka:∀ g,Zq18 (showS S k was o) g=if g=k.grp then (match o with
   | none=>if k ∈ Zq18 S g then remK k (Zq18 S g) else Zq18 S g
   | some _=>if k ∈ Zq18 S g then Zq18 S g else addK k (Zq18 S g)) else Zq18 S g:=fun g=>by
  unfold Zq18
  cases o with
  | none =>
   show (get g (showS S k was none).keys).getD []=_
   unfold showS
   simp only
   by_cases e:g=k.grp
   ·subst e
    rw [if_pos rfl]
    by_cases hm:k ∈ Zq18 S k.grp
    ·rw [if_pos hm,Zq44]
     unfold Zq18 at hm
     rw [if_pos hm]
     rfl
    ·rw [if_neg hm]
     unfold Zq18 at hm
     rw [if_neg hm]
   ·rw [if_neg e]
    split
    ·rw [Zq74 e]
    ·rfl
  | some t =>
   show (get g (showS S k was (some t)).keys).getD []=_
   unfold showS
   simp only
   by_cases e:g=k.grp
   ·subst e
    rw [if_pos rfl]
    by_cases hm:k ∈ Zq18 S k.grp
    ·rw [if_pos hm]
     unfold Zq18 at hm
     rw [if_pos hm]
    ·rw [if_neg hm,Zq44]
     unfold Zq18 at hm
     rw [if_neg hm]
     rfl
   ·rw [if_neg e]
    split
    ·rfl
    ·rw [Zq74 e]
 refine ⟨fun g=>?_,fun g a=>?_⟩
 ·rw [hka]
  split
  ·cases o with
   | none =>
    simp only
    split
    ·exact Zq376 (h.rise g)
    ·exact h.rise g
   | some t =>
    simp only
    split
    ·exact h.rise g
    ·rename_i hm
     exact Zq268 (h.rise g) hm
  ·exact h.rise g
 ·rw [hka,Zq494]
  by_cases e:g=k.grp
  ·subst e
   rw [if_pos rfl]
   cases o with
   | none =>
    simp only
    by_cases ea:a=k
    ·subst ea
     rw [if_pos rfl]
     split
     ·rw [Zq784];simp
     ·rename_i hm
      simp [hm]
    ·rw [if_neg ea]
     split
     ·rw [Zq784,h.mem];simp [ea]
     ·exact h.mem _ _
   | some t =>
    simp only
    by_cases ea:a=k
    ·subst ea
     rw [if_pos rfl]
     split
     ·rename_i hm;simp [hm]
     ·rw [Zq785];simp
    ·rw [if_neg ea]
     split
     ·exact h.mem _ _
     ·rw [Zq785,h.mem];simp [ea]
  ·rw [if_neg e,h.mem]
   by_cases ea:a=k
   ·subst ea
    rw [if_pos rfl]
    constructor
    ·exact fun q=>absurd q.1.symm e
    ·exact fun q=>absurd q.1.symm e
   ·rw [if_neg ea]
theorem KeysOK.of {S S':Str} (h:KeysOK S) (e1:S'.keys=S.keys) (e2:S'.seen=S.seen):KeysOK S' :=
 ⟨fun g=>by unfold Zq18;rw [e1];exact h.rise g,fun g k=>by unfold Zq18;rw [e1,e2];exact h.mem g k⟩
structure JInv (U:List K4) (S:Str):Prop where
 room:S.room=1048576
 seenN:(S.seen.map (·.1)).Nodup
 lateN:(S.late.map (·.1)).Nodup
 used:S.used=sumS S.seen
 seen:∀ x ∈ S.seen,x.1 ∈ U∧jT x.2
 dry:∀ x ∈ S.dry,x.1 ∈ U∧jT x.2
 late:∀ x ∈ S.late,x.1 ∈ U∧∀ d ∈ x.2,jD d
 coh:Coh S
 keys:KeysOK S
structure UJ (U:List K4):Prop where
 all:∀ k ∈ U,(k.kind=1∨k.kind=2)∧k.ok=true
 few:U.length≤40
theorem Zq515 {l U:List K4} (hn:l.Nodup) (h:∀ x ∈ l,x ∈ U):l.length≤U.length:=by
 induction l generalizing U with
 | nil=>simp
 | cons a l ih =>
  have hn':=List.nodup_cons.1 hn
  have ha:=h a (List.mem_cons_self ..)
  have h2:∀ x ∈ l,x ∈ U.erase a:=fun x hx=>by
   have hne:x≠a:=fun e=>hn'.1 (e ▸ hx)
   exact (List.mem_erase_of_ne hne).2 (h x (List.mem_cons_of_mem _ hx))
  have h3:=ih hn'.2 h2
  have h4:=List.length_erase_of_mem ha
  have:0<U.length:=List.length_pos_of_mem ha
  simp only [List.length_cons]
  omega
theorem JInv.count {U:List K4} {S:Str} (h:JInv U S):S.seen.length≤U.length:=by
 have:=Zq515 h.seenN fun x hx=>by
  obtain ⟨y,hy,rfl⟩:=List.mem_map.1 hx
  exact (h.seen y hy).1
 simpa using this
theorem Zq748 {L:List (K4 × TS)} (h:∀ x ∈ L,jT x.2):0≤sumS L∧sumS L≤6233*L.length:=by
 induction L with
 | nil=>simp [sumS]
 | cons x L ih =>
  have h1:=ih fun y hy=>h y (List.mem_cons_of_mem _ hy)
  have h2:=Zq872 (h x (List.mem_cons_self ..))
  have e:sumS (x::L)=x.2.size+sumS L:=by simp [sumS]
  rw [e]
  simp only [List.length_cons]
  omega
theorem JInv.few {U:List K4} {S:Str} (h:JInv U S) (hU:UJ U):0≤S.used∧S.used≤249320:=by
 have h1:=Zq748 fun x hx=>(h.seen x hx).2
 have h2:=h.count
 have h3:=hU.few
 rw [h.used]
 omega
theorem JInv.roomy {U:List K4} {S:Str} (h:JInv U S) (hU:UJ U):roomS S=1048576 - S.used:=by
 have:=h.few hU
 unfold roomS wrap64
 rw [h.room]
 omega
theorem JInv.getT {U:List K4} {S:Str} (h:JInv U S) (k:K4):jO (get k S.seen):=fun t ht=>(h.seen _ (get_mem ht)).2
theorem JInv.getU {U:List K4} {S:Str} (h:JInv U S) {k:K4} {t:TS} (ht:get k S.seen=some t):k ∈ U:=(h.seen _ (get_mem ht)).1
theorem Zq873 {o:Option TS} (h:jO o):0≤sizeO o∧sizeO o≤6233:=by
 cases o with
 | none=>simp [sizeO]
 | some t=>exact Zq872 (h t rfl)
theorem Zq823 {S:Str} (hn:(S.seen.map (·.1)).Nodup) (hu:S.used=sumS S.seen) (h0:0≤S.used∧S.used≤250000) (k:K4) (o:Option TS) (h1:0≤sizeO o∧sizeO o≤6233) (h2:0≤sizeO (get k S.seen)∧sizeO (get k S.seen)≤6233) :
  (showS S k (wrap64 (sizeO (get k S.seen))) o).used=sumS (showS S k (wrap64 (sizeO (get k S.seen))) o).seen∧((showS S k (wrap64 (sizeO (get k S.seen))) o).seen.map (·.1)).Nodup:=by
 have hsp:=Zq668 hn k
 have hdl:=Zq312 (del k S.seen)
 have hw:wrap64 (sizeO (get k S.seen))=sizeO (get k S.seen):=by unfold wrap64;omega
 have hused:IntKind.i64.wrap (S.used+(sizeO o - wrap64 (sizeO (get k S.seen))))=S.used+(sizeO o - sizeO (get k S.seen)):=by
  rw [hw,IntKind.wrap_i64];omega
 unfold showS
 simp only
 rw [hused]
 cases o with
 | none =>
  refine ⟨?_,Zq476 hn⟩
  simp only
  rw [show sizeO (none:Option TS)=0 from rfl]
  omega
 | some t =>
  refine ⟨?_,Zq324 hn⟩
  simp only
  have:sumS (put k t S.seen)=t.size+sumS (del k S.seen):=by simp [sumS,put]
  rw [this,show sizeO (some t)=t.size from rfl]
  omega
theorem Zq749 {U:List K4} {S:Str} (h:∀ x ∈ S.seen,x.1 ∈ U∧jT x.2) {k:K4} (hk:k ∈ U) (was:Int) {o:Option TS} (ho:jO o):∀ x ∈ (showS S k was o).seen,x.1 ∈ U∧jT x.2:=by
 intro x hx
 cases o with
 | none=>exact h x (List.mem_filter.1 hx).1
 | some t =>
  rcases List.mem_cons.1 hx with rfl|hx
  ·exact ⟨hk,ho _ rfl⟩
  ·exact h x (List.mem_filter.1 hx).1
theorem JInv.did {U:List K4} {S:Str} (h:JInv U S) (hU:UJ U) {k:K4} (hk:k ∈ U) {d:Dd} (hd:jD d) (hb:(Zq32 S).1=false):JInv U (doS S k d).2:=by
 have hdn:=(Zq495 (k:=k) (d:=d) hb).2
 have hco:=hdn.coh h.coh
 obtain ⟨f,hf⟩:=Zq339 hb
 have hst:=Zq895 (h.getT k) hd
 have hsm:=h.few hU
 have hss:=Zq823 h.seenN h.used ⟨hsm.1,by omega⟩ k (stepD (get k S.seen) d) (Zq873 hst) (Zq873 (h.getT k))
 have e:(doS S k d).2={ showS { S with fuse:=f } k (wrap64 (sizeO (get k S.seen))) (stepD (get k S.seen) d) with
   late:=put k (lateAt S k++[d]) S.late,wet:=wrap64 (S.wet+1),deeds:=wrap64 (S.deeds+1) }:=by
  unfold doS
  rw [hb,hf]
  rfl
 rw [e] at hco ⊢
 refine ⟨h.room,hss.2,Zq324 h.lateN,hss.1,Zq749 (S:=S) h.seen hk (wrap64 (sizeO (get k S.seen))) hst,h.dry,?_,hco,?_⟩
 ·intro x hx
  have hx:x ∈ put k (lateAt S k++[d]) S.late:=hx
  rcases List.mem_cons.1 hx with rfl|hx
  ·refine ⟨hk,fun d' hd'=>?_⟩
   rcases List.mem_append.1 hd' with q|q
   ·unfold lateAt at q
    cases hg:get k S.late with
    | none=>rw [hg] at q;simp at q
    | some ds=>rw [hg] at q;exact (h.late _ (get_mem hg)).2 d' (by simpa using q)
   ·simp at q;subst q;exact hd
  ·exact h.late x (List.mem_filter.1 hx).1
 ·exact KeysOK.of (Zq747 (S:={ S with fuse:=f }) ⟨h.keys.rise,h.keys.mem⟩ k (wrap64 (sizeO (get k S.seen))) (stepD (get k S.seen) d)) rfl rfl
theorem JInv.dried {U:List K4} {S:Str} (h:JInv U S) (hon:S.on=true) (hb:(Zq32 S).1=false):JInv U (Zq14 S).2:=by
 have hd:=(Zq158 hon h.coh hb).2
 obtain ⟨f,hf⟩:=Zq339 hb
 have e:(Zq14 S).2={ S with fuse:=f,dry:=Zq217 S,late:=[],wet:=0,deeds:=wrap64 (S.deeds+1) }:=by
  unfold Zq14
  rw [if_neg (by simp [hon]),hb,hf]
  rfl
 have hco:=hd.coh
 rw [e] at hco ⊢
 refine ⟨h.room,h.seenN,by simp,h.used,h.seen,?_,fun x hx=>(by cases hx),hco,⟨h.keys.rise,h.keys.mem⟩⟩
 intro x hx
 have hx:x ∈ dryBy S.dry S.seen (S.late.map (·.1)):=hx
 unfold dryBy at hx
 rcases List.mem_append.1 hx with q|q
 ·exact h.dry x (List.mem_filter.1 q).1
 ·exact h.seen x (List.mem_filter.1 q).1
structure FJInv (U:List K4) (S:Str):Prop where
 room:S.room=1048576
 seenN:(S.seen.map (·.1)).Nodup
 used:S.used=sumS S.seen
 seen:∀ x ∈ S.seen,x.1 ∈ U∧jT x.2
 dry:∀ x ∈ S.dry,x.1 ∈ U∧jT x.2
 late:∀ x ∈ S.late,x.1 ∈ U∧∀ d ∈ x.2,jD d
 keys:KeysOK S
theorem JInv.new:JInv [] (newS 1048576):=by
 refine ⟨by show max 0 (min 1048576 1048576)=1048576;omega,by simp [newS],by simp [newS],by simp [newS,sumS],fun x hx=>(by cases hx),fun x hx=>(by cases hx),fun x hx=>(by cases hx),fun k=>by simp [newS,Go.Proofs.YtpjchngjhijgmaaGreat.lateAt,Go.Proofs.YtpjchngjhijgmaaGreat.get],⟨fun g=>by simp [newS,Zq18,Go.Proofs.YtpjchngjhijgmaaGreat.get,Zq90],fun g k=>by simp [newS,Zq18,Go.Proofs.YtpjchngjhijgmaaGreat.get]⟩⟩
theorem JInv.wider {U V:List K4} {S:Str} (h:JInv U S) (hs:∀ k ∈ U,k ∈ V):JInv V S :=
 ⟨h.room,h.seenN,h.lateN,h.used,fun x hx=>⟨hs _ (h.seen x hx).1,(h.seen x hx).2⟩,fun x hx=>⟨hs _ (h.dry x hx).1,(h.dry x hx).2⟩,fun x hx=>⟨hs _ (h.late x hx).1,(h.late x hx).2⟩,h.coh,h.keys⟩
end Go.Proofs.YtpjchngjhijgmaaGreat
namespace Go.Proofs.YtpjchngjhijgmaaGreat
open Go.RowKit
def thenE (r:Int × Str) (f:Str→Int × Str):Int × Str:=if r.1=0 then f r.2 else r
inductive DStep where
 | deed (k:K4) (d:Dd)
 | bar
def stepE (S:Str):DStep→Int × Str
 | .deed k d=>(offE (doS S k d).1,(doS S k d).2)
 | .bar=>Zq14 S
def execS:List DStep→Str→Int × Str
 | [],S=>(0,S)
 | s::l,S=>thenE (stepE S s) (execS l)
theorem Zq560 {r:Int × Str} {f g:Str→Int × Str} (h:r.1=0→f r.2=g r.2):thenE r f=thenE r g:=by
 unfold thenE
 split
 ·rename_i e;exact h e
 ·rfl
theorem Zq824 (r:Int × Str):thenE r (fun S=>(0,S))=r:=by
 unfold thenE
 split
 ·rename_i e;exact Prod.ext e.symm rfl
 ·rfl
theorem Zq561 (r:Int × Str) (f g:Str→Int × Str):thenE (thenE r f) g=thenE r fun S=>thenE (f S) g:=by
 unfold thenE
 split
 ·rfl
 ·rfl
theorem Zq190:∀ (a b:List DStep) (S:Str),execS (a++b) S=thenE (execS a S) (execS b)
 | [],b,S=>rfl
 | s::a,b,S=>by
  show thenE (stepE S s) (execS (a++b))=thenE (thenE (stepE S s) (execS a)) (execS b)
  rw [Zq561]
  exact Zq560 fun _=>Zq190 a b _
theorem Zq117 (s:DStep) (S:Str):execS [s] S=stepE S s:=Zq824 _
def Zq248 (U:List K4):DStep→Prop
 | .deed k d=>k ∈ U∧jD d
 | .bar=>True
def Zq81:DStep→(K4→Option TS)→K4→Option TS
 | .deed k d,V=>fun k'=>if k'=k then stepD (V k) d else V k'
 | .bar,V=>V
def Zq26:List DStep→(K4→Option TS)→K4→Option TS
 | [],V=>V
 | s::l,V=>Zq26 l (Zq81 s V)
def Zq91 (S:Str):K4→Option TS:=fun k=>get k S.seen
structure LiveJ (U:List K4) (S:Str):Prop where
 inv:JInv U S
 on:S.on=true
theorem Zq750 {S:Str} (s:DStep) (hon:S.on=true) (h:(Zq32 S).1=true):stepE S s=(7,(Zq32 S).2):=by
 cases s with
 | deed k d=>unfold stepE doS;rw [h];rfl
 | bar=>unfold stepE Zq14;rw [if_neg (by simp [hon]),h];rfl
theorem Zq118 {S:Str} (s:DStep) (hon:S.on=true) (hc:Coh S) (h:(Zq32 S).1=false):(stepE S s).1=0:=by
 cases s with
 | deed k d=>show offE (doS S k d).1=0;rw [(Zq495 h).1];rfl
 | bar=>exact (Zq158 hon hc h).1
theorem Zq242 {U:List K4} {S:Str} {s:DStep} (h:LiveJ U S) (hU:UJ U) (hs:Zq248 U s) (h0:(stepE S s).1=0) :
  LiveJ U (stepE S s).2∧Zq91 (stepE S s).2=Zq81 s (Zq91 S)∧(Zq32 S).1=false:=by
 have hb:(Zq32 S).1=false:=by
  cases hb:(Zq32 S).1 with
  | false=>rfl
  | true=>rw [Zq750 s h.on hb] at h0;cases h0
 cases s with
 | deed k d =>
  have hd:=(Zq495 (k:=k) (d:=d) hb).2
  refine ⟨⟨h.inv.did hU hs.1 hs.2 hb,hd.on.trans h.on⟩,?_,hb⟩
  funext k'
  exact hd.seen k'
 | bar =>
  have hd:=(Zq158 h.on h.inv.coh hb).2
  refine ⟨⟨h.inv.dried h.on hb,hd.on.trans h.on⟩,?_,hb⟩
  funext k'
  show get k' (Zq14 S).2.seen=get k' S.seen
  rw [hd.seen]
theorem Zq313 {U:List K4} {S:Str} {k:K4} {d:Dd} (h:LiveJ U S) (hU:UJ U) (hk:k ∈ U) (hd:jD d) (h0:(stepE S (.deed k d)).1=0) :
  LiveJ U (stepE S (.deed k d)).2∧∀ k',get k' (stepE S (.deed k d)).2.seen=if k'=k then stepD (get k S.seen) d else get k' S.seen:=by
 obtain ⟨h1,h2,_⟩:=Zq242 h hU (s:=.deed k d) ⟨hk,hd⟩ h0
 exact ⟨h1,fun k'=>congrFun h2 k'⟩
theorem Zq214 {U:List K4} (hU:UJ U):∀ {l:List DStep} {S:Str},LiveJ U S→(∀ s ∈ l,Zq248 U s)→(execS l S).1=0→LiveJ U (execS l S).2∧Zq91 (execS l S).2=Zq26 l (Zq91 S)
 | [],_,h,_,_=>⟨h,rfl⟩
 | s::l,S,h,hs,h0=>by
  have e:execS (s::l) S=thenE (stepE S s) (execS l):=rfl
  rw [e] at h0 ⊢
  unfold thenE at h0 ⊢
  by_cases h1:(stepE S s).1=0
  ·rw [if_pos h1] at h0 ⊢
   obtain ⟨h2,h3,_⟩:=Zq242 h hU (hs s (List.mem_cons_self ..)) h1
   obtain ⟨h4,h5⟩:=Zq214 hU h2 (fun t ht=>hs t (List.mem_cons_of_mem _ ht)) h0
   exact ⟨h4,by rw [h5,h3];rfl⟩
  ·rw [if_neg h1] at h0
   exact absurd h0 h1
theorem Zq129 {S:Str} (s:DStep) (ha:S.armed=false) (hon:S.on=true):(stepE S s).2.armed=false∧(stepE S s).2.on=true:=by
 have hb:Zq32 S=(false,S):=by simp [Zq32,ha]
 cases s with
 | deed k d=>unfold stepE doS;rw [hb];exact ⟨ha,hon⟩
 | bar=>unfold stepE Zq14;rw [if_neg (by simp [hon]),hb];exact ⟨ha,hon⟩
theorem Zq119 {U:List K4} (hU:UJ U):∀ {l:List DStep} {S:Str},LiveJ U S→S.armed=false→(∀ s ∈ l,Zq248 U s)→(execS l S).1=0∧(execS l S).2.armed=false
 | [],_,_,ha,_=>⟨rfl,ha⟩
 | s::l,S,h,ha,hs=>by
  have hb:(Zq32 S).1=false:=by simp [Zq32,ha]
  have h1:=Zq118 s h.on h.inv.coh hb
  have e:execS (s::l) S=thenE (stepE S s) (execS l):=rfl
  rw [e]
  unfold thenE
  rw [if_pos h1]
  exact Zq119 hU (Zq242 h hU (hs s (List.mem_cons_self ..)) h1).1 (Zq129 s ha h.on).1 fun t ht=>hs t (List.mem_cons_of_mem _ ht)
theorem LiveJ.why {U:List K4} {S:Str} (h:LiveJ U S) {k:K4} (hk:k.ok=true):whyS S k=if (get k S.seen).isSome then 0 else 4:=by
 unfold whyS mayS
 rw [h.on,hk]
 rfl
def goneD:Dd:=⟨3,0,[],⟨#[]⟩⟩
theorem LiveJ.drop {U:List K4} {S:Str} (h:LiveJ U S) {k:K4} (hk:k.ok=true) (hs:(get k S.seen).isSome=true):dropS S k=stepE S (.deed k goneD):=by
 unfold dropS
 rw [h.why hk,if_pos (by rw [hs];rfl)]
 rfl
theorem LiveJ.make {U:List K4} {S:Str} (h:LiveJ U S) (hU:UJ U) {k:K4} (hk:k.ok=true) (hs:get k S.seen=none):makeS S k=stepE S (.deed k madeD):=by
 have hw:whyS S k=4:=by rw [h.why hk,hs];rfl
 have:=h.inv.count
 have:=hU.few
 unfold makeS
 rw [hw,if_neg (by decide),if_neg (by simp),if_neg (by omega)]
 rfl
theorem LiveJ.write {U:List K4} {S:Str} (h:LiveJ U S) (hU:UJ U) {k:K4} {t:TS} (hk:k.ok=true) (hs:get k S.seen=some t) {off:Int} {p:List Int} (h0:0≤off) (h1:off+p.length≤4096):Zq134 S k off p=stepE S (.deed k (Zq165 off p)):=by
 have hw:whyS S k=0:=by rw [h.why hk,hs];rfl
 have hr:=h.inv.roomy hU
 have hf:=h.inv.few hU
 refine (Zq341 hw hs ?_).trans rfl
 unfold Zq71
 rw [if_neg (by omega),if_neg (by rw [hr];intro q;have:=q.2;omega)]
theorem LiveJ.append {U:List K4} {S:Str} (h:LiveJ U S) (hU:UJ U) {k:K4} {t:TS} (hk:k.ok=true) (hs:get k S.seen=some t) {p:List Int} (h1:t.b.length+p.length≤4096):Zq56 S k p=stepE S (.deed k (Zq165 t.b.length p)):=by
 unfold Zq56
 rw [hs]
 exact h.write hU hk hs (by omega) (by omega)
theorem LiveJ.trim {U:List K4} {S:Str} (h:LiveJ U S) {k:K4} {t:TS} (hk:k.ok=true) (hs:get k S.seen=some t) (n:Int):trimS S k n=stepE S (.deed k (cutD t n)):=by
 unfold trimS
 rw [hs]
 simp only
 rw [if_pos (show whyS S k=0 by rw [h.why hk,hs];rfl)]
 rfl
theorem LiveJ.set {U:List K4} {S:Str} (h:LiveJ U S) (hU:UJ U) {k:K4} {t:TS} (hk:k.ok=true) (hs:get k S.seen=some t) {v:List Int} (h1:1≤v.length) (h2:v.length≤2136):setS S k nmJ v=stepE S (.deed k (setD nmJ v)):=by
 have hw:whyS S k=0:=by rw [h.why hk,hs];rfl
 have hr:=h.inv.roomy hU
 have hf:=h.inv.few hU
 refine (Zq775 hw hs ?_).trans rfl
 have hsz:nmJ.size=1:=rfl
 have hne:¬ v=[]:=fun q=>by rw [q] at h1;simp at h1
 unfold Zq176
 rw [hsz,if_neg (by omega),if_neg ?_]
 unfold growS
 rw [hr,hsz,if_neg hne]
 cases get nmJ t.attr with
 | none=>simp;omega
 | some old=>simp;omega
theorem Zq874 (b:Bool):offE b=0∨offE b=7:=by cases b <;> simp [offE]
theorem LiveJ.all {U:List K4} {S:Str} (h:LiveJ U S) {k:K4} {t:TS} (hk:k.ok=true) (hs:get k S.seen=some t):readS S k 0 (lenAt S k)=(t.b,0)∧lenAt S k=t.b.length:=by
 have hw:whyS S k=0:=by rw [h.why hk,hs];rfl
 have hl:lenAt S k=t.b.length:=by unfold lenAt;rw [if_pos hw,hs]
 refine ⟨?_,hl⟩
 unfold readS
 rw [if_pos hw,hs,hl]
 simp only
 rw [if_neg (by omega)]
 simp
theorem LiveJ.attr {U:List K4} {S:Str} (h:LiveJ U S) {k:K4} {t:TS} (hk:k.ok=true) (hs:get k S.seen=some t):attrS S k nmJ=match get nmJ t.attr with
  | none=>([],4)
  | some v=>(v,0):=by
 have hw:whyS S k=0:=by rw [h.why hk,hs];rfl
 unfold attrS
 rw [if_pos hw,hs]
 rfl
theorem LiveJ.attr_none {U:List K4} {S:Str} (h:LiveJ U S) {k:K4} (hs:get k S.seen=none):(attrS S k nmJ).2≠0∧(attrS S k nmJ).1=[]:=by
 have hw:whyS S k≠0:=by
  unfold whyS mayS
  rw [h.on,hs]
  cases k.ok <;> simp
 unfold attrS
 rw [if_neg hw]
 exact ⟨hw,rfl⟩
theorem JInv.seenB {U:List K4} {S:Str} (h:JInv U S):SeenB S:=fun k t ht=>(h.getT k t ht).2.1
def UJn:List K4:=kJ::(List.range 32).map fun i:Nat=>⟨2,0,(i:Int),0⟩
theorem Zq69:UJ UJn:=by
 refine ⟨fun k hk=>?_,by simp [UJn]⟩
 rcases List.mem_cons.1 hk with rfl|hk
 ·exact ⟨.inl rfl,rfl⟩
 ·obtain ⟨i,hi,rfl⟩:=List.mem_map.1 hk
  have:=List.mem_range.1 hi
  refine ⟨.inr rfl,?_⟩
  unfold K4.ok
  simp only [decide_eq_true_eq]
  omega
theorem Zq418:kJ ∈ UJn:=List.mem_cons_self ..
theorem Zq516 {c:Rg} (hc:c.okB=true) (p:Pl):keyOf c p ∈ UJn:=by
 refine List.mem_cons_of_mem _ (List.mem_map.2 ⟨(rnum c p).toNat,List.mem_range.2 ?_,?_⟩)
 ·have:=Zq783 hc p;omega
 ·have:=Zq783 hc p
  unfold keyOf
  simp only [K4.mk.injEq,true_and,and_true]
  omega
theorem Zq464 {c:Rg} {p:Pl}:keyOf c p≠kJ:=fun h=>by
 have:=congrArg K4.kind h
 simp [keyOf,kJ] at this
theorem JInv.keyCount {S:Str} (h:JInv UJn S):(Zq18 S ⟨2,0⟩).length≤32:=by
 have hr:=h.keys.rise ⟨2,0⟩
 have hn:(Zq18 S ⟨2,0⟩).Nodup:=Zq139 hr
 have:=Zq515 (U:=(List.range 32).map fun i:Nat=>(⟨2,0,(i:Int),0⟩:K4)) hn fun k hk=>by
  obtain ⟨h1,h2⟩:=(h.keys.mem _ _).1 hk
  obtain ⟨t,ht⟩:=Option.isSome_iff_exists.1 h2
  have hm:=h.getU ht
  rcases List.mem_cons.1 hm with rfl|hm
  ·have:=congrArg G2.kind h1
   simp [K4.grp,kJ] at this
  ·exact hm
 simpa using this
end Go.Proofs.YtpjchngjhijgmaaGreat
