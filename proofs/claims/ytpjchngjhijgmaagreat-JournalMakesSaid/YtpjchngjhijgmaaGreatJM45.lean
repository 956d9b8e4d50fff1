import Derived.Test.YtpjchngjhijgmaaGreatJM43
set_option linter.all false
namespace Go.Proofs.YtpjchngjhijgmaaGreat
open Go.RowKit
structure Firm (S:Str) (k:K4) (o:Option TS):Prop where
 late:lateAt S k=[]
 dry:get k S.dry=o
 seen:get k S.seen=o
def AllK (S:Str) (k:K4) (P:Option TS→Prop):Prop:=(∀ n torn,P (leftS S k n torn).1)∧P (get k S.seen)
def Still (S:Str):Prop:=∀ k,Firm S k (get k S.seen)
end Go.Proofs.YtpjchngjhijgmaaGreat
namespace Go.Proofs.YtpjchngjhijgmaaGreat
open Go.RowKit
def rowB (o:Option TS):List Int:=(o.map (·.b)).getD []
def mendD (V:K4→Option TS) (m1:List (K4 × List Int)) (k:K4):List DStep:=match V k with
 | none=>[]
 | some t=>if t.b=Zq19 m1 k∧Zq19 m1 k≠[] then [] else if Zq19 m1 k=[] then [.deed k goneD] else [.deed k ⟨2,(Zq19 m1 k).length,[],⟨#[]⟩⟩]
def Zq287 (V:K4→Option TS) (m1:List (K4 × List Int)) (ks:List K4):List DStep:=ks.flatMap (mendD V m1)++[.bar]
section
variable {V V' : K4 → Option TS} {m1 : List (K4 × List Int)} {k k' : K4} {ks : List K4} {t : TS} {S : Str}
theorem Zq679 (h:k ∈ UJn):∀ s ∈ mendD V m1 k,Zq248 UJn s:=by
 intro s hs
 unfold mendD at hs
 split at hs
 ·cases hs
 ·split at hs
  ·cases hs
  ·split at hs
   ·rw [List.mem_singleton.1 hs];exact ⟨h,.inr (.inl rfl)⟩
   ·rw [List.mem_singleton.1 hs];exact ⟨h,.inr (.inr (.inr (.inl rfl)))⟩
theorem Zq759 (h:∀ k ∈ ks,k ∈ UJn):∀ s ∈ Zq287 V m1 ks,Zq248 UJn s:=by
 intro s hs
 rcases List.mem_append.1 hs with hs|hs
 ·obtain ⟨k,hk,hs⟩:=List.mem_flatMap.1 hs
  exact Zq679 (h k hk) s hs
 ·rw [List.mem_singleton.1 hs];exact trivial
theorem Zq233 (h:k'≠k) (V':K4→Option TS):Zq26 (mendD V m1 k) V' k'=V' k':=by
 unfold mendD
 split
 ·rfl
 ·split
  ·rfl
  ·split <;> simp [Zq26,Zq81,h]
theorem Zq680 (hV:V k=some t) (hV':V' k=some t) (hp:Zq19 m1 k<+:t.b):(Zq26 (mendD V m1 k) V' k).map (·.b)=if Zq19 m1 k=[] then none else some (Zq19 m1 k):=by
 unfold mendD
 rw [hV]
 simp only
 by_cases e:t.b=Zq19 m1 k∧Zq19 m1 k≠[]
 ·rw [if_pos e,if_neg e.2]
  show (V' k).map (·.b)=_
  rw [hV',Option.map_some,e.1]
 ·rw [if_neg e]
  by_cases e2:Zq19 m1 k=[]
  ·rw [if_pos e2,if_pos e2]
   simp only [Zq26,Zq81,if_true]
   rfl
  ·rw [if_neg e2,if_neg e2]
   simp only [Zq26,Zq81,if_true,hV']
   show some (t.b.take (min ((Zq19 m1 k).length:Int).toNat t.b.length))=_
   rw [Int.toNat_natCast,Nat.min_eq_left hp.length_le,←List.prefix_iff_eq_take.1 hp]
theorem Zq681 (h:LiveJ UJn S) (hk:k ∈ UJn) (hV:V k=some t) (ht:get k S.seen=some t) (hp:Zq19 m1 k<+:t.b):fixS m1 k S=execS (mendD V m1 k) S:=by
 have hok:=(Zq69.all k hk).2
 obtain ⟨h1,_⟩:=h.all hok ht
 unfold fixS mendD
 rw [h1,hV]
 simp only
 rw [if_neg (by simp)]
 by_cases e:t.b=Zq19 m1 k∧Zq19 m1 k≠[]
 ·rw [if_pos e,if_pos e]
  rfl
 ·rw [if_neg e,if_neg e]
  by_cases e2:Zq19 m1 k=[]
  ·rw [if_pos e2,if_pos e2,Zq117]
   exact h.drop hok (by rw [ht];rfl)
  ·rw [if_neg e2,if_neg e2,if_pos hp,Zq117,h.trim hok ht]
   have:cutD t (Zq19 m1 k).length=⟨2,(Zq19 m1 k).length,[],⟨#[]⟩⟩:=by
    unfold cutD
    have:=hp.length_le
    rw [show max (0:Int) (min ((Zq19 m1 k).length:Int) (t.b.length:Int))=((Zq19 m1 k).length:Int) by omega]
   rw [this]
theorem Zq425:∀ {ks:List K4} {S:Str},LiveJ UJn S→ks.Nodup→(∀ k ∈ ks,k ∈ UJn∧∃ t,V k=some t∧get k S.seen=some t∧Zq19 m1 k<+:t.b)→fixL m1 ks S=execS (Zq287 V m1 ks) S
 | [],S,_,_,_=>(Zq117 .bar S).symm
 | k::ks,S,h,hn,hs=>by
  obtain ⟨h1,t,h2,h3,h4⟩:=hs k (List.mem_cons_self ..)
  have hn':=List.nodup_cons.1 hn
  unfold fixL
  rw [Zq681 h h1 h2 h3 h4]
  show _=execS ((k::ks).flatMap (mendD V m1)++[.bar]) S
  rw [List.flatMap_cons,List.append_assoc,Zq190]
  unfold thenE
  by_cases h0:(execS (mendD V m1 k) S).1=0
  ·rw [if_neg (by simp [h0]),if_pos h0]
   obtain ⟨h6,h7⟩:=Zq214 Zq69 h (Zq679 h1) h0
   refine Zq425 h6 hn'.2 fun k' hk'=>?_
   obtain ⟨a,t',b,c,d⟩:=hs k' (List.mem_cons_of_mem _ hk')
   exact ⟨a,t',b,(congrFun h7 k').trans ((Zq233 (fun e:k'=k=>hn'.1 (e ▸ hk')) _).trans c),d⟩
  ·rw [if_pos h0,if_neg h0]
theorem Zq174 {k:K4}:∀ {ks:List K4} {V':K4→Option TS},k ∉ ks→Zq26 (Zq287 V m1 ks) V' k=V' k
 | [],V',_=>rfl
 | a::ks,V',h=>by
  show Zq26 ((a::ks).flatMap (mendD V m1)++[.bar]) V' k=_
  rw [List.flatMap_cons,List.append_assoc,Zq122]
  have h1:k≠a:=fun e=>h (e ▸ List.mem_cons_self ..)
  exact (Zq174 fun e=>h (List.mem_cons_of_mem _ e)).trans (Zq233 h1 V')
theorem Zq426 {k:K4} {t:TS} (hV:V k=some t) (hp:Zq19 m1 k<+:t.b):∀ {ks:List K4} {V':K4→Option TS},ks.Nodup→k ∈ ks→V' k=some t→(Zq26 (Zq287 V m1 ks) V' k).map (·.b)=if Zq19 m1 k=[] then none else some (Zq19 m1 k)
 | [],V',_,h,_=>by cases h
 | a::ks,V',hn,h,hV'=>by
  have hn':=List.nodup_cons.1 hn
  show (Zq26 ((a::ks).flatMap (mendD V m1)++[.bar]) V' k).map (·.b)=_
  rw [List.flatMap_cons,List.append_assoc,Zq122]
  by_cases e:k=a
  ·subst e
   rw [show Zq26 (ks.flatMap (mendD V m1)++[.bar]) (Zq26 (mendD V m1 k) V') k=Zq26 (mendD V m1 k) V' k from Zq174 (V:=V) (m1:=m1) (ks:=ks) hn'.1]
   exact Zq680 hV hV' hp
  ·have hk:k ∈ ks:=by
    rcases List.mem_cons.1 h with q|q
    ·exact absurd q e
    ·exact q
   exact Zq426 hV hp hn'.2 hk ((Zq233 e V').trans hV')
end
structure JAny (S:Str) (J:Jn):Prop where
 live:LiveJ UJn S
 ok:J.r.Ok
 small:J.r.set+J.l.length≤1000000∧J.l.length≤100000
 run:runs J.l J.r.first
 ents:∀ e ∈ J.l,e.okB=true∧e.bytes∧e.tag=tagOf J.r.tags e.seq
 lay:laid J.r.shape J.r.set J.l J.at_ (layF J.r) J.fill
 rec_:∃ t,get kJ S.seen=some t∧get nmJ t.attr=some (recB J.r)
 rows:∀ k,k≠kJ→Zq19 (rowsJ J) k<+:rowB (get k S.seen)
 merged:Zq177 (readRows S) J.r.first=J.l
 dead:J.dead=false
 safe:0≤J.safe∧J.safe≤3299023255552
theorem JAny.jrec {S:Str} {J:Jn} (h:JAny S J):JRec S (some J.r):=by
 obtain ⟨t,h1,h2⟩:=h.rec_
 refine ⟨h.ok,?_⟩
 rw [h.live.attr kJ_ok h1,h2]
theorem JAny.started {S:Str} {J:Jn} (h:JAny S J):layJ (Zq65 S J.r)={ J with safe:=0 }:=by
 have h2:=h.small
 have hx:Go.Proofs.YtpjchngjhijgmaaGreat.layX J.r J.l=(J.l,J.at_,J.fill):=Zq276 h.lay (by show J.r.set+_≤_;omega)
 have e1:Zq65 S J.r=⟨J.r,J.l,[],Fl.zero,0,false⟩:=by
  unfold Zq65
  rw [h.merged,Zq279 fun e he=>(h.ents e he).2.2]
 unfold layJ lJ
 rw [e1]
 simp only
 rw [hx]
 cases J
 have:=h.dead
 simp only at this
 simp [this]
theorem JAny.trim {S:Str} {J:Jn} (h:JAny S J):trimJ S J=execS (Zq287 (Zq91 S) (rowsJ J) (Zq18 S ⟨2,0⟩)) S∧(∀ s ∈ Zq287 (Zq91 S) (rowsJ J) (Zq18 S ⟨2,0⟩),Zq248 UJn s)∧((trimJ S J).1=0→JOK (trimJ S J).2 J):=by
 have hks:∀ k ∈ Zq18 S ⟨2,0⟩,k ∈ UJn∧∃ t,Zq91 S k=some t∧get k S.seen=some t∧Zq19 (rowsJ J) k<+:t.b:=fun k hk=>by
  obtain ⟨h1,h2⟩:=(h.live.inv.keys.mem _ _).1 hk
  obtain ⟨t,ht⟩:=Option.isSome_iff_exists.1 h2
  have hne:k≠kJ:=fun e=>by
   rw [e] at h1
   have:=congrArg G2.kind h1
   simp [K4.grp,kJ] at this
  have hr:=h.rows k hne
  rw [ht] at hr
  exact ⟨h.live.inv.getU ht,t,ht,ht,hr⟩
 have hnd:(Zq18 S ⟨2,0⟩).Nodup:=Zq139 (h.live.inv.keys.rise _)
 have hin:=Zq759 (V:=Zq91 S) (m1:=rowsJ J) fun k hk=>(hks k hk).1
 have hpl:trimJ S J=execS (Zq287 (Zq91 S) (rowsJ J) (Zq18 S ⟨2,0⟩)) S:=by
  unfold trimJ Zq21
  rw [if_pos h.live.on]
  exact Zq425 h.live hnd hks
 refine ⟨hpl,hin,fun h0=>?_⟩
 rw [hpl] at h0 ⊢
 obtain ⟨h1,h2⟩:=Zq214 Zq69 h.live hin h0
 obtain ⟨t,ht,hat⟩:=h.rec_
 refine ⟨h1,h.ok,h.small,h.run,h.ents,h.lay,⟨t,((congrFun h2 kJ).trans (Zq174 fun hk=>?_)).trans ht,hat⟩,fun k hk=>?_,h.dead,h.safe⟩
 ·have:=congrArg G2.kind ((h.live.inv.keys.mem _ _).1 hk).1
  simp [K4.grp,kJ] at this
 ·rw [show get k (execS (Zq287 (Zq91 S) (rowsJ J) (Zq18 S ⟨2,0⟩)) S).2.seen=Zq26 (Zq287 (Zq91 S) (rowsJ J) (Zq18 S ⟨2,0⟩)) (Zq91 S) k from congrFun h2 k]
  by_cases q:k ∈ Zq18 S ⟨2,0⟩
  ·obtain ⟨_,t,a,b,c⟩:=hks k q
   exact Zq426 a c hnd q a
  ·rw [Zq174 q]
   have hr:=h.rows k hk
   have hg:get k S.seen=none:=by
    cases hg:get k S.seen with
    | none=>rfl
    | some t =>
     exfalso
     refine q ((h.live.inv.keys.mem _ _).2 ⟨?_,by rw [hg];rfl⟩)
     rcases List.mem_cons.1 (h.live.inv.getU hg) with e|hU
     ·exact absurd e hk
     ·obtain ⟨i,_,rfl⟩:=List.mem_map.1 hU
      rfl
   rw [hg] at hr
   rw [if_pos (List.prefix_nil.1 hr)]
   show (get k S.seen).map (·.b)=none
   rw [hg];rfl
theorem JAny.open {S:Str} {J:Jn} (h:JAny S J) :
  openJ S J.r=(if (trimJ S J).1=0 then (if (saveJ (trimJ S J).2 (Zq102 J.r (endJ J))).1=0 then (0,(saveJ (trimJ S J).2 (Zq102 J.r (endJ J))).2,Zq66 J) else (7,(saveJ (trimJ S J).2 (Zq102 J.r (endJ J))).2,deadJ (Zq66 J))) else (7,(trimJ S J).2,deadJ { J with safe:=0 })) ∧
  (Zq102 J.r (endJ J)).Ok∧((trimJ S J).1=0→(saveJ (trimJ S J).2 (Zq102 J.r (endJ J))).1=0→JOK (saveJ (trimJ S J).2 (Zq102 J.r (endJ J))).2 (Zq66 J)):=by
 obtain ⟨h1,h2,h3⟩:=h.trim
 have hoff:=Zq353 (Zq287 (Zq91 S) (rowsJ J) (Zq18 S ⟨2,0⟩)) S
 rw [←h1] at hoff
 have hend:0≤endJ J:=by
  have:=h.ok.first
  unfold endJ
  omega
 have hok:(Zq102 J.r (endJ J)).Ok:=Zq351 h.ok hend
 refine ⟨?_,hok,fun h0 h00=>?_⟩
 ·unfold openJ
  rw [h.started]
  unfold mendJ
  have e0:trimJ S { J with safe:=0 }=trimJ S J:=rfl
  have e1:endJ { J with safe:=0 }=endJ J:=rfl
  have e2:({ J with safe:=0 }:Jn).r=J.r:=rfl
  rw [e0,e1,e2]
  by_cases h0:(trimJ S J).1=0
  ·have h4:=h3 h0
   obtain ⟨t2,ht2,_⟩:=h4.rec_
   have h5:=Zq517 h4.live ht2 hok
   rw [if_neg (by simp [h0]),if_pos h0]
   rcases h5 with e|e
   ·rw [if_pos e,e];rfl
   ·rw [if_neg (by rw [e];decide),e];rfl
  ·rw [if_pos h0,if_neg h0]
   rcases hoff with e|e
   ·exact absurd e h0
   ·rw [e];rfl
 ·have h4:=h3 h0
  obtain ⟨t2,ht2,_⟩:=h4.rec_
  obtain ⟨a,b,c⟩:=Zq669 h4.live ht2 hok h00
  refine h4.recd a b c hok rfl rfl rfl (fun e he=>?_) h4.ends
  have:=(run_seq h4.run he).2
  refine Zq518 h4.ok.tags ?_
  unfold endJ
  omega
theorem JAny.open_calm {S:Str} {J:Jn} (h:JAny S J) (ha:S.armed=false):∃ S',openJ S J.r=(0,S',Zq66 J)∧JOK S' (Zq66 J)∧S'.armed=false∧S'.late=[]:=by
 obtain ⟨h1,h2,h3⟩:=h.open
 obtain ⟨t1,t2,t3⟩:=h.trim
 obtain ⟨c1,c2⟩:=Zq119 Zq69 h.live ha t2
 rw [←t1] at c1 c2
 have h4:=t3 c1
 obtain ⟨t,ht,_⟩:=h4.rec_
 have hpl:=Zq162 h4.live ht h2
 obtain ⟨d1,d2⟩:=Zq119 Zq69 h4.live c2 (Zq354 (trimJ S J).2 h2)
 rw [←hpl] at d1 d2
 rw [if_pos c1,if_pos d1] at h1
 refine ⟨_,h1,h3 c1 d1,d2,?_⟩
 have hbar:∀ (l:List DStep) (S0:Str),LiveJ UJn S0→S0.armed=false→(∀ s ∈ l,Zq248 UJn s)→(execS (l++[.bar]) S0).2.late=[]:=by
  intro l
  induction l with
  | nil =>
   intro S0 g1 g2 _
   show (thenE (stepE S0 .bar) (execS [])).2.late=[]
   have hb:Zq32 S0=(false,S0):=by simp [Zq32,g2]
   have e0:stepE S0 .bar=(0,{ S0 with dry:=Zq217 S0,late:=[],wet:=0,deeds:=wrap64 (S0.deeds+1) }):=by
    show Zq14 S0=_
    unfold Zq14
    rw [if_neg (by simp [g1.on]),hb]
    rfl
   unfold thenE
   rw [e0]
   rfl
  | cons s l ih =>
   intro S0 g1 g2 g3
   have hb:(Zq32 S0).1=false:=by simp [Zq32,g2]
   have e0:=Zq118 s g1.on g1.inv.coh hb
   show (thenE (stepE S0 s) (execS (l++[.bar]))).2.late=[]
   unfold thenE
   rw [if_pos e0]
   exact ih _ (Zq242 g1 Zq69 (g3 s (List.mem_cons_self ..)) e0).1 (Zq129 s g2 g1.on).1 fun x hx=>g3 x (List.mem_cons_of_mem _ hx)
 rw [hpl]
 unfold Zq360
 split
 ·exact hbar [] _ h4.live c2 (by simp)
 ·have h1:1≤(recB (Zq102 J.r (endJ J))).length:=by rw [Zq160];omega
  exact hbar [.deed kJ (setD nmJ (recB (Zq102 J.r (endJ J))))] _ h4.live c2 (by
   intro s hs
   rw [List.mem_singleton.1 hs]
   exact ⟨Zq418,.inr (.inr (.inr (.inr ⟨rfl,rfl,h1,Zq126 h2⟩)))⟩)
theorem JAny.open_pre {S:Str} {J:Jn} (h:JAny S J):(Zq18 S ⟨2,0⟩).length≤100∧SeenB S∧JRec S (some J.r)∧J.r.set≤1000000∧((trimJ S (layJ (Zq65 S J.r))).1=0→JRec (trimJ S (layJ (Zq65 S J.r))).2 (some J.r)):=by
 have hs:=h.small
 refine ⟨by have:=h.live.inv.keyCount;omega,h.live.inv.seenB,h.jrec,by omega,fun h0=>?_⟩
 rw [h.started] at h0 ⊢
 exact (h.trim.2.2 h0).jrec
end Go.Proofs.YtpjchngjhijgmaaGreat
namespace Go.Proofs.YtpjchngjhijgmaaGreat
open Go.RowKit
def Zq889 (J:Jn) (k:K4):List En:=(J.l.zip J.at_).filterMap fun x=>if keyOf J.r.shape x.2=k then some x.1 else none
structure RowP (J:Jn) (s:Int) (k:K4) (o:Option TS):Prop where
 pre:rowB o<+:Zq41 (Zq889 J k)
 has:∀ M,M<+:Zq889 J k→(∀ e ∈ M,e.seq≤s)→Zq41 M<+:rowB o
structure JRest (S:Str) (J:Jn) (s:Int):Prop where
 live:LiveJ UJn S
 ok:J.r.Ok
 small:J.r.set+J.l.length≤1000000∧J.l.length≤100000
 run:runs J.l J.r.first
 ents:∀ e ∈ J.l,e.okB=true∧e.bytes∧e.tag=tagOf J.r.tags e.seq
 lay:laid J.r.shape J.r.set J.l J.at_ (layF J.r) J.fill
 rec_:∃ t,get kJ S.seen=some t∧get nmJ t.attr=some (recB J.r)
 rows:∀ k,k≠kJ→RowP J s k (get k S.seen)
 dead:J.dead=false
 safe:0≤J.safe∧J.safe≤3299023255552
end Go.Proofs.YtpjchngjhijgmaaGreat
namespace Go.Proofs.YtpjchngjhijgmaaGreat
open Go.RowKit
structure JWet (S:Str) (J:Jn) (s:Int):Prop where
 ok:JOK S J
 far:s≤endJ J
 rows:∀ k,k≠kJ→AllK S k (RowP J s k)
 rec_:∃ t,AllK S kJ (fun o=>o=some t)∧get nmJ t.attr=some (recB J.r)
end Go.Proofs.YtpjchngjhijgmaaGreat
namespace Go.Proofs.YtpjchngjhijgmaaGreat
open Go.RowKit
section
variable {W w : World} {I : Hp} {l : List HP}
set_option maxRecDepth 4000
set_option maxHeartbeats 8000000
end
end Go.Proofs.YtpjchngjhijgmaaGreat
namespace Go.Proofs.YtpjchngjhijgmaaGreat
open Go.RowKit
theorem JOK.any {S:Str} {J:Jn} (h:JOK S J):JAny S J:=by
 refine ⟨h.live,h.ok,h.small,h.run,h.ents,h.lay,h.rec_,fun k hk=>?_,h.merged,h.dead,h.safe⟩
 have hr:=h.rows k hk
 unfold rowB
 rw [hr]
 split
 ·rename_i q;rw [q];exact List.nil_prefix
 ·exact List.prefix_refl _
section
variable {W w : World} {I : Hp} {l : List HP} {p : Nat} {S : Str}
set_option maxRecDepth 4000
set_option maxHeartbeats 8000000
theorem Zq567 {J:Jn} {m:Nat} (h:St W I w (Zq10 p S::l)) (hJ:JAny S J) (ha:S.armed=false) (hk:Keeps S (m+200)) :
  Calls Tryz.prog 27 #[.pointer (some ⟨p,0,none⟩)] w fun e w'=>∃ I' q S',I.sub I'∧e=.returned (.tuple #[.pointer (some ⟨q,0,none⟩),.int .i64 0])∧St W I' w' (Zq10 p S'::jnHP q p (Zq66 J)::l)∧JOK S' (Zq66 J)∧S'.armed=false∧S'.late=[]∧Keeps S' m:=by
 obtain ⟨q1,q2,q3,q4,q5⟩:=hJ.open_pre
 obtain ⟨S',ho,hj,ha',hl'⟩:=hJ.open_calm ha
 have hto:=hJ.live.told
 have hs:=Zq415 (m:=m) J.r (some J.r) h hJ.live.on (hk.fewer (by omega)) q1 q2 q3 q4 q5
 have hk2:=Zq316 (r:=J.r) (m:=m) (hk.fewer (show m+2+4*(Zq21 S ⟨2,0⟩).length≤m+200 by omega))
 rw [ho] at hs hk2
 refine hs.mono ?_
 rintro e w' ⟨I',hs1,⟨hne,_⟩|⟨_,q,he,h2⟩⟩
 ·exact absurd rfl hne
 ·exact ⟨I',q,S',hs1,he,h2,hj,ha',hl',hk2⟩
end
end Go.Proofs.YtpjchngjhijgmaaGreat
namespace Go.Proofs.YtpjchngjhijgmaaGreat
open Go.RowKit
def setsP (c:Rg):Fl→Int→List Int→List Pl
 | _,_,[]=>[]
 | f,s,n::ns=>(rput c f s n).2.1::setsP c (rput c f s n).1 (s+1) ns
structure Fd (c:Rg) (at':Int) (ps:List (List Int)) (J:Jn) (k:Nat):Prop where
 le:k≤ps.length
 r:J.r=⟨c,at'+1,0,[tag1],[]⟩
 l:J.l=Zq888 [tag1] (at'+1) (ps.take k)
 stop:∀ p,ps[k]?=some p→fitsJ J [(p.length:Int)]=false
def Zq912 (c:Rg) (at':Int) (ps:List (List Int)):List Pl:=setsP c ⟨0,0,0,0,0⟩ (at'+1) (Zq905 ps)
def Zq906 (P:List Pl) (ns:List Int) (q:Pl):Nat→Int
 | 0=>0
 | i+1=>Zq906 P ns q i+if P[i]?=some q then ns.getD i 0+22 else 0
end Go.Proofs.YtpjchngjhijgmaaGreat
namespace Go.Proofs.YtpjchngjhijgmaaGreat
open Go.RowKit
end Go.Proofs.YtpjchngjhijgmaaGreat
namespace Go.Proofs.YtpjchngjhijgmaaGreat
open Go.RowKit
end Go.Proofs.YtpjchngjhijgmaaGreat
