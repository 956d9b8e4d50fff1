import Derived.Test.YtpjchngjhijgmaaGreatJZ39
set_option linter.all false
namespace Go.Proofs.YtpjchngjhijgmaaGreat
open Go.RowKit
structure Firm (S:Str) (k:K4) (o:Option TS):Prop where
 late:lateAt S k=[]
 dry:get k S.dry=o
 seen:get k S.seen=o
theorem Zq714 {S:Str} {k:K4} (h:lateAt S k=[]) (n torn:Int):(leftS S k n torn).1=get k S.dry:=by
 unfold leftS
 rw [h]
 simp
theorem Zq862 {S S':Str} {k:K4} {d:Dd} (hd:Done S S' k d) (hc:Coh S) (n torn:Int) :
  (∃ m,(leftS S' k n torn).1=(leftS S k m torn).1)∨(leftS S' k n torn).1=get k S.seen∨(d.kind=1∧(leftS S' k n torn).1=stepD (get k S.seen) (tornD torn d))∨(leftS S' k n torn).1=stepD (get k S.seen) d:=by
 have hl:lateAt S' k=lateAt S k++[d]:=by rw [hd.late,if_pos rfl]
 have hs:=hc k
 obtain ⟨l,hl0⟩:∃ l,lateAt S k=l:=⟨_,rfl⟩
 obtain ⟨m,hm⟩:∃ m,keptN n (l.length+1)=m:=⟨_,rfl⟩
 have hm1:m≤l.length+1:=by rw [←hm];unfold keptN;omega
 have hle:(l++[d]).length=l.length+1:=by simp
 rw [hl0] at hs hl
 unfold leftS
 rw [hl,hd.dry,hl0]
 simp only
 rw [hle,hm]
 rcases Nat.lt_trichotomy m l.length with h|h|h
 ·left
  refine ⟨m,?_⟩
  have e:keptN (m:Int) l.length=m:=by unfold keptN;omega
  rw [e,List.take_append_of_le_length (by omega),List.getElem?_append_left h]
 ·right
  subst h
  rw [List.take_left',List.getElem?_append_right (by omega),Nat.sub_self,←hs]
  ·simp only [Zl6]
   split
   ·rename_i hq;exact .inr (.inl ⟨hq.1,rfl⟩)
   ·exact .inl rfl
  ·rfl
 ·right;right;right
  obtain rfl:m=l.length+1:=by omega
  rw [List.take_of_length_le (by omega),List.getElem?_eq_none (by omega),List.foldl_append,←hs]
  rfl
def AllK (S:Str) (k:K4) (P:Option TS→Prop):Prop:=(∀ n torn,P (leftS S k n torn).1)∧P (get k S.seen)
theorem Firm.allK {S:Str} {k:K4} {o:Option TS} (h:Firm S k o) {P:Option TS→Prop} (ho:P o):AllK S k P :=
 ⟨fun n torn=>by rw [Zq714 h.late,h.dry];exact ho,by rw [h.seen];exact ho⟩
theorem AllK.fell {S S':Str} {keep:List Int} {torn:Int} (hf:Fell S S' keep torn) {k:K4} {P:Option TS→Prop} (h:AllK S k P):AllK S' k P:=by
 obtain ⟨N,hN⟩:=hf.obj
 obtain ⟨h1,h2⟩:=hN k
 have hl:lateAt S' k=[]:=by unfold lateAt;rw [hf.late];rfl
 exact ⟨fun n t=>by rw [Zq714 hl,h2];exact h.1 _ _,by rw [h1];exact h.1 _ _⟩
theorem AllK.other {S S':Str} {k:K4} {d:Dd} (hd:Done S S' k d) {k':K4} {P:Option TS→Prop} (h:AllK S k' P) (hk:k'≠k):AllK S' k' P :=
 ⟨fun n t=>by rw [Zq527 (S:=S) (by rw [hd.late,if_neg hk]) (by rw [hd.dry])];exact h.1 n t,by rw [hd.seen,if_neg hk];exact h.2⟩
theorem AllK.add {S S':Str} {k:K4} {d:Dd} (hd:Done S S' k d) (hc:Coh S) {P:Option TS→Prop} (h:AllK S k P) (h1:P (stepD (get k S.seen) d)) (h2:d.kind=1→∀ torn,P (stepD (get k S.seen) (tornD torn d))):AllK S' k P:=by
 refine ⟨fun n torn=>?_,by rw [hd.seen,if_pos rfl];exact h1⟩
 rcases Zq862 hd hc n torn with ⟨m,e⟩|e|⟨e1,e⟩|e
 ·rw [e];exact h.1 m torn
 ·rw [e];exact h.2
 ·rw [e];exact h2 e1 torn
 ·rw [e];exact h1
theorem AllK.imp {S:Str} {k:K4} {P Q:Option TS→Prop} (h:AllK S k P) (hpq:∀ t,P t→Q t):AllK S k Q:=⟨fun n torn=>hpq _ (h.1 n torn),hpq _ h.2⟩
def Still (S:Str):Prop:=∀ k,Firm S k (get k S.seen)
end Go.Proofs.YtpjchngjhijgmaaGreat
namespace Go.Proofs.YtpjchngjhijgmaaGreat
open Go.RowKit
def rowB (o:Option TS):List Int:=(o.map (·.b)).getD []
def mendD (V:K4→Option TS) (m1:List (K4 × List Int)) (k:K4):List DStep:=match V k with
 | none=>[]
 | some t=>if t.b=Zq21 m1 k∧Zq21 m1 k≠[] then [] else if Zq21 m1 k=[] then [.deed k goneD] else [.deed k ⟨2,(Zq21 m1 k).length,[],⟨#[]⟩⟩]
def Zq318 (V:K4→Option TS) (m1:List (K4 × List Int)) (ks:List K4):List DStep:=ks.flatMap (mendD V m1)++[.bar]
section
variable {V V' : K4 → Option TS} {m1 : List (K4 × List Int)} {k k' : K4} {ks : List K4} {t : TS} {S : Str}
theorem Zq715 (h:k ∈ UJn):∀ s ∈ mendD V m1 k,Zq267 UJn s:=by
 intro s hs
 unfold mendD at hs
 split at hs
 ·cases hs
 ·split at hs
  ·cases hs
  ·split at hs
   ·rw [List.mem_singleton.1 hs];exact ⟨h,.inr (.inl rfl)⟩
   ·rw [List.mem_singleton.1 hs];exact ⟨h,.inr (.inr (.inr (.inl rfl)))⟩
theorem Zq792 (h:∀ k ∈ ks,k ∈ UJn):∀ s ∈ Zq318 V m1 ks,Zq267 UJn s:=by
 intro s hs
 rcases List.mem_append.1 hs with hs|hs
 ·obtain ⟨k,hk,hs⟩:=List.mem_flatMap.1 hs
  exact Zq715 (h k hk) s hs
 ·rw [List.mem_singleton.1 hs];exact trivial
theorem Zq243 (h:k'≠k) (V':K4→Option TS):Zq29 (mendD V m1 k) V' k'=V' k':=by
 unfold mendD
 split
 ·rfl
 ·split
  ·rfl
  ·split <;> simp [Zq29,Zq95,h]
theorem Zq716 (hV:V k=some t) (hV':V' k=some t) (hp:Zq21 m1 k<+:t.b):(Zq29 (mendD V m1 k) V' k).map (·.b)=if Zq21 m1 k=[] then none else some (Zq21 m1 k):=by
 unfold mendD
 rw [hV]
 simp only
 by_cases e:t.b=Zq21 m1 k∧Zq21 m1 k≠[]
 ·rw [if_pos e,if_neg e.2]
  show (V' k).map (·.b)=_
  rw [hV',Option.map_some,e.1]
 ·rw [if_neg e]
  by_cases e2:Zq21 m1 k=[]
  ·rw [if_pos e2,if_pos e2]
   simp only [Zq29,Zq95,if_true]
   rfl
  ·rw [if_neg e2,if_neg e2]
   simp only [Zq29,Zq95,if_true,hV']
   show some (t.b.take (min ((Zq21 m1 k).length:Int).toNat t.b.length))=_
   rw [Int.toNat_natCast,Nat.min_eq_left hp.length_le,←List.prefix_iff_eq_take.1 hp]
theorem Zq717 (h:LiveJ UJn S) (hk:k ∈ UJn) (hV:V k=some t) (ht:get k S.seen=some t) (hp:Zq21 m1 k<+:t.b):fixS m1 k S=execS (mendD V m1 k) S:=by
 have hok:=(Zq82.all k hk).2
 obtain ⟨h1,_⟩:=h.all hok ht
 unfold fixS mendD
 rw [h1,hV]
 simp only
 rw [if_neg (by simp)]
 by_cases e:t.b=Zq21 m1 k∧Zq21 m1 k≠[]
 ·rw [if_pos e,if_pos e]
  rfl
 ·rw [if_neg e,if_neg e]
  by_cases e2:Zq21 m1 k=[]
  ·rw [if_pos e2,if_pos e2,Zq105]
   exact h.drop hok (by rw [ht];rfl)
  ·rw [if_neg e2,if_neg e2,if_pos hp,Zq105,h.trim hok ht]
   have:cutD t (Zq21 m1 k).length=⟨2,(Zq21 m1 k).length,[],⟨#[]⟩⟩:=by
    unfold cutD
    have:=hp.length_le
    rw [show max (0:Int) (min ((Zq21 m1 k).length:Int) (t.b.length:Int))=((Zq21 m1 k).length:Int) by omega]
   rw [this]
theorem Zq461:∀ {ks:List K4} {S:Str},LiveJ UJn S→ks.Nodup→(∀ k ∈ ks,k ∈ UJn∧∃ t,V k=some t∧get k S.seen=some t∧Zq21 m1 k<+:t.b)→fixL m1 ks S=execS (Zq318 V m1 ks) S
 | [],S,_,_,_=>(Zq105 .bar S).symm
 | k::ks,S,h,hn,hs=>by
  obtain ⟨h1,t,h2,h3,h4⟩:=hs k (List.mem_cons_self ..)
  have hn':=List.nodup_cons.1 hn
  unfold fixL
  rw [Zq717 h h1 h2 h3 h4]
  show _=execS ((k::ks).flatMap (mendD V m1)++[.bar]) S
  rw [List.flatMap_cons,List.append_assoc,Zq204]
  unfold thenE
  by_cases h0:(execS (mendD V m1 k) S).1=0
  ·rw [if_neg (by simp [h0]),if_pos h0]
   obtain ⟨h6,h7⟩:=Zq258 Zq82 h (Zq715 h1) h0
   refine Zq461 h6 hn'.2 fun k' hk'=>?_
   obtain ⟨a,t',b,c,d⟩:=hs k' (List.mem_cons_of_mem _ hk')
   exact ⟨a,t',b,(congrFun h7 k').trans ((Zq243 (fun e:k'=k=>hn'.1 (e ▸ hk')) _).trans c),d⟩
  ·rw [if_pos h0,if_neg h0]
theorem Zq185 {k:K4}:∀ {ks:List K4} {V':K4→Option TS},k ∉ ks→Zq29 (Zq318 V m1 ks) V' k=V' k
 | [],V',_=>rfl
 | a::ks,V',h=>by
  show Zq29 ((a::ks).flatMap (mendD V m1)++[.bar]) V' k=_
  rw [List.flatMap_cons,List.append_assoc,Zq135]
  have h1:k≠a:=fun e=>h (e ▸ List.mem_cons_self ..)
  exact (Zq185 fun e=>h (List.mem_cons_of_mem _ e)).trans (Zq243 h1 V')
theorem Zq462 {k:K4} {t:TS} (hV:V k=some t) (hp:Zq21 m1 k<+:t.b):∀ {ks:List K4} {V':K4→Option TS},ks.Nodup→k ∈ ks→V' k=some t→(Zq29 (Zq318 V m1 ks) V' k).map (·.b)=if Zq21 m1 k=[] then none else some (Zq21 m1 k)
 | [],V',_,h,_=>by cases h
 | a::ks,V',hn,h,hV'=>by
  have hn':=List.nodup_cons.1 hn
  show (Zq29 ((a::ks).flatMap (mendD V m1)++[.bar]) V' k).map (·.b)=_
  rw [List.flatMap_cons,List.append_assoc,Zq135]
  by_cases e:k=a
  ·subst e
   rw [show Zq29 (ks.flatMap (mendD V m1)++[.bar]) (Zq29 (mendD V m1 k) V') k=Zq29 (mendD V m1 k) V' k from Zq185 (V:=V) (m1:=m1) (ks:=ks) hn'.1]
   exact Zq716 hV hV' hp
  ·have hk:k ∈ ks:=by
    rcases List.mem_cons.1 h with q|q
    ·exact absurd q e
    ·exact q
   exact Zq462 hV hp hn'.2 hk ((Zq243 e V').trans hV')
end
structure JAny (S:Str) (J:Jn):Prop where
 live:LiveJ UJn S
 ok:J.r.Ok
 small:J.r.set+J.l.length≤1000000∧J.l.length≤100000
 run:runs J.l J.r.first
 ents:∀ e ∈ J.l,e.okB=true∧e.bytes∧e.tag=tagOf J.r.tags e.seq
 lay:laid J.r.shape J.r.set J.l J.at_ (layF J.r) J.fill
 rec_:∃ t,get kJ S.seen=some t∧get nmJ t.attr=some (recB J.r)
 rows:∀ k,k≠kJ→Zq21 (rowsJ J) k<+:rowB (get k S.seen)
 merged:Zq172 (readRows S) J.r.first=J.l
 dead:J.dead=false
 safe:0≤J.safe∧J.safe≤3299023255552
theorem JAny.jrec {S:Str} {J:Jn} (h:JAny S J):JRec S (some J.r):=by
 obtain ⟨t,h1,h2⟩:=h.rec_
 refine ⟨h.ok,?_⟩
 rw [h.live.attr kJ_ok h1,h2]
theorem JAny.started {S:Str} {J:Jn} (h:JAny S J):layJ (Zq74 S J.r)={ J with safe:=0 }:=by
 have h2:=h.small
 have hx:Go.Proofs.YtpjchngjhijgmaaGreat.layX J.r J.l=(J.l,J.at_,J.fill):=Zq302 h.lay (by show J.r.set+_≤_;omega)
 have e1:Zq74 S J.r=⟨J.r,J.l,[],Fl.zero,0,false⟩:=by
  unfold Zq74
  rw [h.merged,Zq305 fun e he=>(h.ents e he).2.2]
 unfold layJ lJ
 rw [e1]
 simp only
 rw [hx]
 cases J
 have:=h.dead
 simp only at this
 simp [this]
theorem JAny.trim {S:Str} {J:Jn} (h:JAny S J):trimJ S J=execS (Zq318 (Zq103 S) (rowsJ J) (Zq20 S ⟨2,0⟩)) S∧(∀ s ∈ Zq318 (Zq103 S) (rowsJ J) (Zq20 S ⟨2,0⟩),Zq267 UJn s)∧((trimJ S J).1=0→JOK (trimJ S J).2 J):=by
 have hks:∀ k ∈ Zq20 S ⟨2,0⟩,k ∈ UJn∧∃ t,Zq103 S k=some t∧get k S.seen=some t∧Zq21 (rowsJ J) k<+:t.b:=fun k hk=>by
  obtain ⟨h1,h2⟩:=(h.live.inv.keys.mem _ _).1 hk
  obtain ⟨t,ht⟩:=Option.isSome_iff_exists.1 h2
  have hne:k≠kJ:=fun e=>by
   rw [e] at h1
   have:=congrArg G2.kind h1
   simp [K4.grp,kJ] at this
  have hr:=h.rows k hne
  rw [ht] at hr
  exact ⟨h.live.inv.getU ht,t,ht,ht,hr⟩
 have hnd:(Zq20 S ⟨2,0⟩).Nodup:=Zq147 (h.live.inv.keys.rise _)
 have hin:=Zq792 (V:=Zq103 S) (m1:=rowsJ J) fun k hk=>(hks k hk).1
 have hpl:trimJ S J=execS (Zq318 (Zq103 S) (rowsJ J) (Zq20 S ⟨2,0⟩)) S:=by
  unfold trimJ Zq35
  rw [if_pos h.live.on]
  exact Zq461 h.live hnd hks
 refine ⟨hpl,hin,fun h0=>?_⟩
 rw [hpl] at h0 ⊢
 obtain ⟨h1,h2⟩:=Zq258 Zq82 h.live hin h0
 obtain ⟨t,ht,hat⟩:=h.rec_
 refine ⟨h1,h.ok,h.small,h.run,h.ents,h.lay,⟨t,((congrFun h2 kJ).trans (Zq185 fun hk=>?_)).trans ht,hat⟩,fun k hk=>?_,h.dead,h.safe⟩
 ·have:=congrArg G2.kind ((h.live.inv.keys.mem _ _).1 hk).1
  simp [K4.grp,kJ] at this
 ·rw [show get k (execS (Zq318 (Zq103 S) (rowsJ J) (Zq20 S ⟨2,0⟩)) S).2.seen=Zq29 (Zq318 (Zq103 S) (rowsJ J) (Zq20 S ⟨2,0⟩)) (Zq103 S) k from congrFun h2 k]
  by_cases q:k ∈ Zq20 S ⟨2,0⟩
  ·obtain ⟨_,t,a,b,c⟩:=hks k q
   exact Zq462 a c hnd q a
  ·rw [Zq185 q]
   have hr:=h.rows k hk
   have hg:get k S.seen=none:=by
    cases hg:get k S.seen with
    | none=>rfl
    | some t =>
     exfalso
     refine q ((h.live.inv.keys.mem _ _).2 ⟨?_,by rw [hg];rfl⟩)
     rcases List.mem_cons.1 (h.live.inv.getU hg) with e|hU
     ·exact absurd e hk
     ·obtain ⟨i,_,rfl⟩:=List.mem_map.1 hU
      rfl
   rw [hg] at hr
   rw [if_pos (List.prefix_nil.1 hr)]
   show (get k S.seen).map (·.b)=none
   rw [hg];rfl
theorem JAny.open {S:Str} {J:Jn} (h:JAny S J) :
  openJ S J.r=(if (trimJ S J).1=0 then (if (saveJ (trimJ S J).2 (Zq85 J.r (endJ J))).1=0 then (0,(saveJ (trimJ S J).2 (Zq85 J.r (endJ J))).2,Zq40 J) else (7,(saveJ (trimJ S J).2 (Zq85 J.r (endJ J))).2,deadJ (Zq40 J))) else (7,(trimJ S J).2,deadJ { J with safe:=0 })) ∧
  (Zq85 J.r (endJ J)).Ok∧((trimJ S J).1=0→(saveJ (trimJ S J).2 (Zq85 J.r (endJ J))).1=0→JOK (saveJ (trimJ S J).2 (Zq85 J.r (endJ J))).2 (Zq40 J)):=by
 obtain ⟨h1,h2,h3⟩:=h.trim
 have hoff:=Zq387 (Zq318 (Zq103 S) (rowsJ J) (Zq20 S ⟨2,0⟩)) S
 rw [←h1] at hoff
 have hend:0≤endJ J:=by
  have:=h.ok.first
  unfold endJ
  omega
 have hok:(Zq85 J.r (endJ J)).Ok:=Zq384 h.ok hend
 refine ⟨?_,hok,fun h0 h00=>?_⟩
 ·unfold openJ
  rw [h.started]
  unfold mendJ
  have e0:trimJ S { J with safe:=0 }=trimJ S J:=rfl
  have e1:endJ { J with safe:=0 }=endJ J:=rfl
  have e2:({ J with safe:=0 }:Jn).r=J.r:=rfl
  rw [e0,e1,e2]
  by_cases h0:(trimJ S J).1=0
  ·have h4:=h3 h0
   obtain ⟨t2,ht2,_⟩:=h4.rec_
   have h5:=Zq550 h4.live ht2 hok
   rw [if_neg (by simp [h0]),if_pos h0]
   rcases h5 with e|e
   ·rw [if_pos e,e];rfl
   ·rw [if_neg (by rw [e];decide),e];rfl
  ·rw [if_pos h0,if_neg h0]
   rcases hoff with e|e
   ·exact absurd e h0
   ·rw [e];rfl
 ·have h4:=h3 h0
  obtain ⟨t2,ht2,_⟩:=h4.rec_
  obtain ⟨a,b,c⟩:=Zq700 h4.live ht2 hok h00
  refine h4.recd a b c hok rfl rfl rfl (fun e he=>?_) h4.ends
  have:=(run_seq h4.run he).2
  refine Zq551 h4.ok.tags ?_
  unfold endJ
  omega
theorem JAny.open_calm {S:Str} {J:Jn} (h:JAny S J) (ha:S.armed=false):∃ S',openJ S J.r=(0,S',Zq40 J)∧JOK S' (Zq40 J)∧S'.armed=false∧S'.late=[]:=by
 obtain ⟨h1,h2,h3⟩:=h.open
 obtain ⟨t1,t2,t3⟩:=h.trim
 obtain ⟨c1,c2⟩:=Zq132 Zq82 h.live ha t2
 rw [←t1] at c1 c2
 have h4:=t3 c1
 obtain ⟨t,ht,_⟩:=h4.rec_
 have hpl:=Zq169 h4.live ht h2
 obtain ⟨d1,d2⟩:=Zq132 Zq82 h4.live c2 (Zq388 (trimJ S J).2 h2)
 rw [←hpl] at d1 d2
 rw [if_pos c1,if_pos d1] at h1
 refine ⟨_,h1,h3 c1 d1,d2,?_⟩
 have hbar:∀ (l:List DStep) (S0:Str),LiveJ UJn S0→S0.armed=false→(∀ s ∈ l,Zq267 UJn s)→(execS (l++[.bar]) S0).2.late=[]:=by
  intro l
  induction l with
  | nil =>
   intro S0 g1 g2 _
   show (thenE (stepE S0 .bar) (execS [])).2.late=[]
   have hb:Zq34 S0=(false,S0):=by simp [Zq34,g2]
   have e0:stepE S0 .bar=(0,{ S0 with dry:=Zq205 S0,late:=[],wet:=0,deeds:=wrap64 (S0.deeds+1) }):=by
    show Zq16 S0=_
    unfold Zq16
    rw [if_neg (by simp [g1.on]),hb]
    rfl
   unfold thenE
   rw [e0]
   rfl
  | cons s l ih =>
   intro S0 g1 g2 g3
   have hb:(Zq34 S0).1=false:=by simp [Zq34,g2]
   have e0:=Zq222 s g1.on g1.inv.coh hb
   show (thenE (stepE S0 s) (execS (l++[.bar]))).2.late=[]
   unfold thenE
   rw [if_pos e0]
   exact ih _ (Zq347 g1 Zq82 (g3 s (List.mem_cons_self ..)) e0).1 (Zq223 s g2 g1.on).1 fun x hx=>g3 x (List.mem_cons_of_mem _ hx)
 rw [hpl]
 unfold Zq396
 split
 ·exact hbar [] _ h4.live c2 (by simp)
 ·have h1:1≤(recB (Zq85 J.r (endJ J))).length:=by rw [Zq166];omega
  exact hbar [.deed kJ (setD nmJ (recB (Zq85 J.r (endJ J))))] _ h4.live c2 (by
   intro s hs
   rw [List.mem_singleton.1 hs]
   exact ⟨Zq589,.inr (.inr (.inr (.inr ⟨rfl,rfl,h1,Zq139 h2⟩)))⟩)
theorem JAny.open_pre {S:Str} {J:Jn} (h:JAny S J):(Zq20 S ⟨2,0⟩).length≤100∧SeenB S∧JRec S (some J.r)∧J.r.set≤1000000∧((trimJ S (layJ (Zq74 S J.r))).1=0→JRec (trimJ S (layJ (Zq74 S J.r))).2 (some J.r)):=by
 have hs:=h.small
 refine ⟨by have:=h.live.inv.keyCount;omega,h.live.inv.seenB,h.jrec,by omega,fun h0=>?_⟩
 rw [h.started] at h0 ⊢
 exact (h.trim.2.2 h0).jrec
end Go.Proofs.YtpjchngjhijgmaaGreat
namespace Go.Proofs.YtpjchngjhijgmaaGreat
open Go.RowKit
theorem Zq906 {α:Type} {p:α→Bool}:∀ {l:List α} {x:α},x ∈ l.takeWhile p→p x=true
 | [],_,h=>by cases h
 | a::l,x,h=>by
  rw [List.takeWhile_cons] at h
  split at h
  ·rename_i q
   rcases List.mem_cons.1 h with rfl|h
   ·exact q
   ·exact Zq906 h
  ·cases h
theorem Zq312:∀ {L:List En} {r:List Int},r<+:Zq24 L→∃ i rest,i≤L.length∧r=Zq24 (L.take i)++rest∧(rest=[]∨∃ x j,L[i]?=some x∧j<(Zq23 x).length∧rest=(Zq23 x).take j)
 | [],r,h=>⟨0,[],Nat.le_refl _,by simpa [Zq24] using List.prefix_nil.1 h,.inl rfl⟩
 | x::L,r,h=>by
  rw [Zq72] at h
  by_cases hl:r.length<(Zq23 x).length
  ·refine ⟨0,r,Nat.zero_le _,by simp [Zq24],.inr ⟨x,r.length,rfl,hl,?_⟩⟩
   have h2:=List.prefix_iff_eq_take.1 h
   rw [List.take_append_of_le_length (by omega)] at h2
   exact h2
  ·obtain ⟨z,hz⟩:=h
   have h3:r=Zq23 x++r.drop (Zq23 x).length:=by
    have:Zq23 x<+:r:=by
     have h4:Zq23 x<+:r++z:=by rw [hz];exact List.prefix_append _ _
     exact List.prefix_of_prefix_length_le h4 (List.prefix_append _ _) (by omega)
    obtain ⟨y,hy⟩:=this
    rw [←hy,List.drop_left]
   have h4:r.drop (Zq23 x).length<+:Zq24 L:=by
    refine ⟨z,?_⟩
    rw [h3,List.append_assoc] at hz
    exact List.append_cancel_left hz
   obtain ⟨i,rest,h5,h6,h7⟩:=Zq312 h4
   refine ⟨i+1,rest,by simp only [List.length_cons];omega,?_,by simpa using h7⟩
   rw [h3,List.take_succ_cons,Zq72,List.append_assoc,←h6]
theorem Zq463 {L:List En} {r:List Int} (h:r<+:Zq24 L) (hok:∀ e ∈ L,e.okB=true):∃ i,i≤L.length∧(allB r).1=L.take i∧Zq24 (L.take i)<+:r∧∀ M,M<+:L→Zq24 M<+:r→M.length≤i:=by
 obtain ⟨i,rest,h1,h2,h3⟩:=Zq312 h
 have hok':∀ e ∈ L.take i,e.okB=true:=fun e he=>hok e (List.mem_of_mem_take he)
 refine ⟨i,h1,?_,by rw [h2];exact List.prefix_append _ _,fun M hM hMr=>?_⟩
 ·rw [h2]
  rcases h3 with e|⟨x,j,hx,hj,e⟩
  ·rw [e,List.append_nil]
   exact Zq154 hok'
  ·refine Zq300 hok' ?_
   rw [e]
   rw [Zq26] at hj
   exact Zq679 (hok x (List.mem_of_getElem? hx)) hj
 ·apply Classical.byContradiction
  intro hc
  have hi:i<L.length:=by have:=hM.length_le;omega
  have e1:M.take (i+1)=L.take (i+1):=by
   rw [List.prefix_iff_eq_take.1 hM,List.take_take]
   congr 1
   omega
  have h4:(Zq24 (L.take (i+1))).length≤r.length:=by
   have h5:Zq24 (M.take (i+1))<+:Zq24 M:=by
    conv=>rhs;rw [←List.take_append_drop (i+1) M,Zq38]
    exact List.prefix_append _ _
   rw [←e1]
   exact Nat.le_trans h5.length_le hMr.length_le
  obtain ⟨x,hx⟩:∃ x,L[i]?=some x:=⟨_,List.getElem?_eq_getElem hi⟩
  rw [List.take_add_one,hx,Zq38,List.length_append] at h4
  have h6:(Zq24 (Option.toList (some x))).length=(Zq23 x).length:=by simp [Zq24]
  rw [h6,h2,List.length_append] at h4
  rcases h3 with e|⟨y,j,hy,hj,e⟩
  ·rw [e] at h4
   simp only [List.length_nil] at h4
   rw [Zq26] at h4
   omega
  ·rw [hx] at hy
   obtain rfl:=Option.some.inj hy
   rw [e,List.length_take] at h4
   omega
def Zq78 (J:Jn) (k:K4):List En:=(J.l.zip J.at_).filterMap fun x=>if keyOf J.r.shape x.2=k then some x.1 else none
theorem Zq244 (J:Jn) (k:K4):Zq21 (rowsJ J) k=Zq24 (Zq78 J k):=Zq170 J k
theorem Zq141 {J:Jn} {k:K4} {e:En} (h:e ∈ Zq78 J k):e ∈ J.l∧∃ (i:Nat) (p:Pl),J.l[i]?=some e∧J.at_[i]?=some p∧keyOf J.r.shape p=k:=by
 obtain ⟨x,hx,hx2⟩:=List.mem_filterMap.1 h
 split at hx2
 ·rename_i hk
  simp only [Option.some.injEq] at hx2
  obtain ⟨i,hi⟩:=List.getElem?_of_mem hx
  rw [show x=(x.1,x.2) from rfl,List.getElem?_zip_eq_some] at hi
  rw [←hx2]
  exact ⟨List.mem_of_getElem? hi.1,i,x.2,hi.1,hi.2,hk⟩
 ·cases hx2
theorem Zq718 {J:Jn} {i:Nat} {e:En} {p:Pl} (h1:J.l[i]?=some e) (h2:J.at_[i]?=some p):e ∈ Zq78 J (keyOf J.r.shape p):=by
 refine List.mem_filterMap.2 ⟨(e,p),?_,by simp⟩
 refine List.mem_of_getElem? (i:=i) ?_
 rw [List.getElem?_zip_eq_some]
 exact ⟨h1,h2⟩
theorem Zq355 (J:Jn) (n:Nat) (f:Fl) (k:K4):Zq78 (lJ J (J.l.take n) (J.at_.take n) f) k<+:Zq78 J k:=by
 unfold Zq78
 show ((J.l.take n).zip (J.at_.take n)).filterMap _<+:_
 have e:(J.l.take n).zip (J.at_.take n)=(J.l.zip J.at_).take n:=by
  rw [List.zip_eq_zipWith,List.zip_eq_zipWith,List.take_zipWith]
 rw [e]
 exact (List.take_prefix n _).filterMap _
theorem Zq719 {L M:List En} (hn:(L.map (·.seq)).Nodup) (hM:M<+:L) {i:Nat} (h:∀ e ∈ M,e ∈ L.take i):M<+:L.take i:=by
 have h1:M.length≤i∨i<M.length:=by omega
 rcases h1 with h1|h1
 ·rw [List.prefix_iff_eq_take.1 hM]
  exact List.take_prefix_take_left h1
 ·exfalso
  have hl:i<L.length:=by have:=hM.length_le;omega
  have hx:M[i]?=some L[i]:=by
   obtain ⟨z,hz⟩:=hM
   rw [←List.getElem?_eq_getElem hl,←hz,List.getElem?_append_left h1]
  have h2:=h _ (List.mem_of_getElem? hx)
  obtain ⟨j,hj⟩:=List.getElem?_of_mem h2
  have hji:j<i:=by
   have:=(List.getElem?_eq_some_iff.1 hj).1
   rw [List.length_take] at this
   omega
  rw [List.getElem?_take_of_lt hji] at hj
  have a1:(L.map (·.seq))[j]?=some L[i].seq:=by rw [List.getElem?_map,hj];rfl
  have a2:(L.map (·.seq))[i]?=some L[i].seq:=by rw [List.getElem?_map,List.getElem?_eq_getElem hl];rfl
  have:=(List.getElem?_inj (by rw [List.length_map];omega) hn).1 (a1.trans a2.symm)
  omega
theorem Zq464:∀ {es:List En} {s:Int},runs es s→(es.map (·.seq)).Nodup
 | [],_,_=>List.nodup_nil
 | e::es,s,h=>by
  rw [List.map_cons,List.nodup_cons]
  refine ⟨fun hm=>?_,Zq464 h.2⟩
  obtain ⟨x,hx,hx2⟩:=List.mem_map.1 hm
  have:=(run_seq h.2 hx).1
  have:=h.1
  omega
theorem Zq503 {J:Jn} {s:Int} (h:runs J.l s) (k:K4) (hl:J.at_.length=J.l.length):((Zq78 J k).map (·.seq)).Nodup:=by
 have h1:=Zq464 h
 have h2:(Zq78 J k).Sublist J.l:=by
  unfold Zq78
  have e1:J.l=(J.l.zip J.at_).map (·.1):=(List.map_fst_zip (by omega)).symm
  conv=>rhs;rw [e1]
  generalize J.l.zip J.at_=Z
  induction Z with
  | nil=>exact List.Sublist.refl _
  | cons x Z ih =>
   rw [List.filterMap_cons,List.map_cons]
   by_cases q:keyOf J.r.shape x.2=k
   ·simp only [q,if_true]
    exact ih.cons_cons _
   ·simp only [q,if_false]
    exact ih.cons _
 exact (h2.map _).nodup h1
structure RowP (J:Jn) (s:Int) (k:K4) (o:Option TS):Prop where
 pre:rowB o<+:Zq24 (Zq78 J k)
 has:∀ M,M<+:Zq78 J k→(∀ e ∈ M,e.seq≤s)→Zq24 M<+:rowB o
structure JRest (S:Str) (J:Jn) (s:Int):Prop where
 live:LiveJ UJn S
 ok:J.r.Ok
 small:J.r.set+J.l.length≤1000000∧J.l.length≤100000
 run:runs J.l J.r.first
 ents:∀ e ∈ J.l,e.okB=true∧e.bytes∧e.tag=tagOf J.r.tags e.seq
 lay:laid J.r.shape J.r.set J.l J.at_ (layF J.r) J.fill
 rec_:∃ t,get kJ S.seen=some t∧get nmJ t.attr=some (recB J.r)
 rows:∀ k,k≠kJ→RowP J s k (get k S.seen)
 dead:J.dead=false
 safe:0≤J.safe∧J.safe≤3299023255552
theorem Zq720 {S:Str} (h:LiveJ UJn S) {k:K4} (hk:k ∈ Zq20 S ⟨2,0⟩):∃ t,get k S.seen=some t∧k≠kJ∧(readS S k 0 (lenAt S k)).1=t.b:=by
 obtain ⟨h1,h2⟩:=(h.inv.keys.mem _ _).1 hk
 obtain ⟨t,ht⟩:=Option.isSome_iff_exists.1 h2
 have hne:k≠kJ:=fun e=>by
  rw [e] at h1
  have:=congrArg G2.kind h1
  simp [K4.grp,kJ] at this
 exact ⟨t,ht,hne,by rw [(h.all (Zq82.all k (h.inv.getU ht)).2 ht).1]⟩
theorem Zq924 {S:Str} (h:LiveJ UJn S) {k:K4} (hne:k≠kJ) (hs:(get k S.seen).isSome=true):k ∈ Zq20 S ⟨2,0⟩:=by
 refine (h.inv.keys.mem _ _).2 ⟨?_,hs⟩
 obtain ⟨t,ht⟩:=Option.isSome_iff_exists.1 hs
 rcases List.mem_cons.1 (h.inv.getU ht) with e|hU
 ·exact absurd e hne
 ·obtain ⟨i,_,rfl⟩:=List.mem_map.1 hU
  rfl
theorem Zq721 {S:Str} (h:LiveJ UJn S) {e:En}:e ∈ (readRows S).flatMap (fun r=>(allB r).1)↔∃ k,k≠kJ∧e ∈ (allB (rowB (get k S.seen))).1:=by
 unfold readRows Zq35
 rw [if_pos h.on,List.mem_flatMap]
 constructor
 ·rintro ⟨r,hr,he⟩
  obtain ⟨k,hk,rfl⟩:=List.mem_map.1 hr
  obtain ⟨t,ht,hne,hb⟩:=Zq720 h hk
  refine ⟨k,hne,?_⟩
  rw [ht]
  rw [hb] at he
  exact he
 ·rintro ⟨k,hne,he⟩
  cases hg:get k S.seen with
  | none =>
   rw [hg] at he
   exact absurd he (by show e ∉ (allB []).1;rw [show (allB []).1=[] from rfl];simp)
  | some t =>
   have hk:=Zq924 h hne (by rw [hg];rfl)
   obtain ⟨t2,ht2,_,hb⟩:=Zq720 h hk
   refine ⟨_,List.mem_map.2 ⟨k,hk,rfl⟩,?_⟩
   rw [hb]
   rw [ht2] at he
   exact he
theorem JRest.any {S:Str} {J:Jn} {s:Int} (h:JRest S J s):∃ m f,m≤J.l.length∧(s≤endJ J→s<J.r.first+m)∧JAny S (lJ J (J.l.take m) (J.at_.take m) f):=by
 have hs2:=h.small
 have hset:=h.ok.set
 have hA:=Zq808 h.ok.shape h.lay hset.1 (by omega)
 have hpar:∀ k,k≠kJ→∃ i,i≤(Zq78 J k).length∧(allB (rowB (get k S.seen))).1=(Zq78 J k).take i∧Zq24 ((Zq78 J k).take i)<+:rowB (get k S.seen)∧∀ M,M<+:Zq78 J k→Zq24 M<+:rowB (get k S.seen)→M.length≤i:=fun k hk =>
  Zq463 (h.rows k hk).pre fun e he=>(h.ents e (Zq141 he).1).1
 obtain ⟨X,hX⟩:∃ X,X=(readRows S).flatMap (fun r=>(allB r).1):=⟨_,rfl⟩
 have hXm:∀ e,e ∈ X↔∃ k,k≠kJ∧e ∈ (allB (rowB (get k S.seen))).1:=fun e=>by rw [hX];exact Zq721 h.live
 have hXJ:∀ e ∈ X,e ∈ J.l:=fun e he=>by
  obtain ⟨k,hk,he⟩:=(hXm e).1 he
  obtain ⟨i,_,h2,_⟩:=hpar k hk
  rw [h2] at he
  exact (Zq141 (List.mem_of_mem_take he)).1
 obtain ⟨m,hm⟩:∃ m,m=(J.l.takeWhile fun e=>@decide (e ∈ X) (Classical.propDecidable _)).length:=⟨_,rfl⟩
 have hpre:(J.l.takeWhile fun e=>@decide (e ∈ X) (Classical.propDecidable _))<+:J.l:=List.takeWhile_prefix _
 have htake:J.l.take m=J.l.takeWhile fun e=>@decide (e ∈ X) (Classical.propDecidable _):=by rw [hm];exact (List.prefix_iff_eq_take.1 hpre).symm
 have hml:m≤J.l.length:=by rw [hm];exact hpre.length_le
 have hin:∀ e ∈ J.l.take m,e ∈ X:=fun e he=>by
  rw [htake] at he
  have:=Zq906 he
  exact @of_decide_eq_true _ (Classical.propDecidable _) this
 have hstop:∀ e,J.l[m]?=some e→e ∉ X:=fun e he hx=>by
  have h1:=List.takeWhile_append_dropWhile (p:=fun e=>@decide (e ∈ X) (Classical.propDecidable _)) (l:=J.l)
  rw [←htake] at h1
  have h2:J.l.dropWhile (fun e=>@decide (e ∈ X) (Classical.propDecidable _))=J.l.drop m:=by
   have:=List.take_append_drop m J.l
   exact List.append_cancel_left (h1.trans this.symm)
  obtain ⟨hil,hie⟩:=List.getElem?_eq_some_iff.1 he
  rw [List.drop_eq_getElem_cons hil,hie] at h2
  have h3:=List.head?_dropWhile_not (fun e=>@decide (e ∈ X) (Classical.propDecidable _)) J.l
  rw [h2] at h3
  simp only [List.head?_cons] at h3
  have:=@of_decide_eq_false _ (Classical.propDecidable _) h3
  exact this hx
 have hmerge:Zq172 (readRows S) J.r.first=J.l.take m:=by
  refine Zq437 h.ok.first.1 (Zq382 h.run m) (fun e he=>by rw [←hX];exact hin e he) fun e he h1 h2=>?_
  rw [←hX] at he
  obtain ⟨i,hi⟩:=List.getElem?_of_mem (hXJ e he)
  have hseq:=Zq155 h.run hi
  have hil:=(List.getElem?_eq_some_iff.1 hi).1
  rw [List.length_take] at h2
  have him:i≤m:=by omega
  rcases Nat.lt_or_ge i m with q|q
  ·exact List.mem_of_getElem? (i:=i) (by rw [List.getElem?_take_of_lt q];exact hi)
  ·obtain rfl:i=m:=by omega
   exact absurd he (hstop e hi)
 obtain ⟨f,hf⟩:=Zq772 h.lay m
 have hst:s≤endJ J→s<J.r.first+m:=fun hse=>by
  apply Classical.byContradiction
  intro hc
  have hm2:m<J.l.length:=by unfold endJ at hse;omega
  obtain ⟨e,he⟩:∃ e,J.l[m]?=some e:=⟨_,List.getElem?_eq_getElem hm2⟩
  obtain ⟨p,hp⟩:∃ p,J.at_[m]?=some p:=⟨_,List.getElem?_eq_getElem (by rw [hA.len];exact hm2)⟩
  refine hstop e he ((hXm e).2 ⟨keyOf J.r.shape p,Zq157,?_⟩)
  obtain ⟨i,h1,h2,h3,h4⟩:=hpar (keyOf J.r.shape p) Zq157
  have hseq:=Zq155 h.run he
  have hpfx:=Zq355 J (m+1) J.fill (keyOf J.r.shape p)
  have hle:∀ x ∈ Zq78 (lJ J (J.l.take (m+1)) (J.at_.take (m+1)) J.fill) (keyOf J.r.shape p),x.seq≤s:=fun x hx=>by
   have hx1:=(Zq141 hx).1
   have:=(run_seq (Zq382 h.run (m+1)) hx1).2
   rw [List.length_take] at this
   omega
  have hfr:=(h.rows (keyOf J.r.shape p) Zq157).has _ hpfx hle
  have hlen:=h4 _ hpfx hfr
  rw [h2]
  have hmem:e ∈ Zq78 (lJ J (J.l.take (m+1)) (J.at_.take (m+1)) J.fill) (keyOf J.r.shape p):=Zq718 (J:=lJ J (J.l.take (m+1)) (J.at_.take (m+1)) J.fill) (i:=m) (by
   show (J.l.take (m+1))[m]?=some e
   rw [List.getElem?_take_of_lt (by omega)];exact he) (by
   show (J.at_.take (m+1))[m]?=some p
   rw [List.getElem?_take_of_lt (by omega)];exact hp)
  rw [List.prefix_iff_eq_take.1 hpfx] at hmem
  exact (List.take_prefix_take_left hlen).subset hmem
 refine ⟨m,f,hml,hst,h.live,h.ok,?_,Zq382 h.run m,fun e he=>h.ents e (List.mem_of_mem_take he),hf,h.rec_,fun k hk=>?_,hmerge,h.dead,h.safe⟩
 ·show J.r.set+((J.l.take m).length:Int)≤_∧(J.l.take m).length≤_
  rw [List.length_take]
  omega
 ·rw [Zq244]
  obtain ⟨i,h1,h2,h3,h4⟩:=hpar k hk
  have hpfx:=Zq355 J m f k
  have hsub:Zq78 (lJ J (J.l.take m) (J.at_.take m) f) k<+:(Zq78 J k).take i:=Zq719 (Zq503 h.run k hA.len) hpfx fun e he=>by
   obtain ⟨he1,j,p,hj,hp,hkp⟩:=Zq141 he
   obtain ⟨k2,hk2,he2⟩:=(hXm e).1 (hin e he1)
   obtain ⟨i2,_,g2,_⟩:=hpar k2 hk2
   have he3:e ∈ Zq78 J k2:=by rw [g2] at he2;exact List.mem_of_mem_take he2
   obtain ⟨_,j3,p3,hj3,hp3,hkp3⟩:=Zq141 he3
   obtain ⟨_,j4,p4,hj4,hp4,hkp4⟩:=Zq141 (hpfx.subset he)
   have a1:=Zq155 h.run hj3
   have a2:=Zq155 h.run hj4
   obtain rfl:j3=j4:=by omega
   rw [hp3] at hp4
   obtain rfl:=Option.some.inj hp4
   have hkk:k2=k:=hkp3.symm.trans hkp4
   rw [hkk,h2] at he2
   exact he2
  obtain ⟨z,hz⟩:=hsub
  refine List.IsPrefix.trans ?_ h3
  exact ⟨Zq24 z,by rw [←hz,Zq38]⟩
end Go.Proofs.YtpjchngjhijgmaaGreat
