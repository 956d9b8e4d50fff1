import Derived.Test.YtpjchngjhijgmaaGreatTR00
set_option linter.all false
namespace Go.Proofs.YtpjchngjhijgmaaGreat
open Go.RowKit
section
variable {V V' : K4 → Option TS} {m1 : List (K4 × List Int)} {k k' : K4} {ks : List K4} {t : TS} {S : Str}
theorem mendD_in (h:k ∈ UJn):∀ s ∈ mendD V m1 k,Zq216 UJn s:=by
 intro s hs
 unfold mendD at hs
 split at hs
 ·cases hs
 ·split at hs
  ·cases hs
  ·split at hs
   ·rw [List.mem_singleton.1 hs];exact ⟨h,.inr (.inl rfl)⟩
   ·rw [List.mem_singleton.1 hs];exact ⟨h,.inr (.inr (.inr (.inl rfl)))⟩
theorem mendsD_in (h:∀ k ∈ ks,k ∈ UJn):∀ s ∈ Zq861 V m1 ks,Zq216 UJn s:=by
 intro s hs
 rcases List.mem_append.1 hs with hs|hs
 ·obtain ⟨k,hk,hs⟩:=List.mem_flatMap.1 hs
  exact mendD_in (h k hk) s hs
 ·rw [List.mem_singleton.1 hs];exact trivial
theorem mendD_other (h:k'≠k) (V':K4→Option TS):Zq23 (mendD V m1 k) V' k'=V' k':=by
 unfold mendD
 split
 ·rfl
 ·split
  ·rfl
  ·split <;> simp [Zq23,Zq82,h]
theorem mendD_same (hV:V k=some t) (hV':V' k=some t) (hp:Zq12 m1 k<+:t.b):(Zq23 (mendD V m1 k) V' k).map (·.b)=if Zq12 m1 k=[] then none else some (Zq12 m1 k):=by
 unfold mendD
 rw [hV]
 simp only
 by_cases e:t.b=Zq12 m1 k∧Zq12 m1 k≠[]
 ·rw [if_pos e,if_neg e.2]
  show (V' k).map (·.b)=_
  rw [hV',Option.map_some,e.1]
 ·rw [if_neg e]
  by_cases e2:Zq12 m1 k=[]
  ·rw [if_pos e2,if_pos e2]
   simp only [Zq23,Zq82,if_true]
   rfl
  ·rw [if_neg e2,if_neg e2]
   simp only [Zq23,Zq82,if_true,hV']
   show some (t.b.take (min ((Zq12 m1 k).length:Int).toNat t.b.length))=_
   rw [Int.toNat_natCast,Nat.min_eq_left hp.length_le,←List.prefix_iff_eq_take.1 hp]
theorem mendS_plan (h:LiveJ UJn S) (hk:k ∈ UJn) (hV:V k=some t) (ht:get k S.seen=some t) (hp:Zq12 m1 k<+:t.b):fixS m1 k S=execS (mendD V m1 k) S:=by
 have hok:=(Zq81.all k hk).2
 obtain ⟨h1,_⟩:=h.all hok ht
 unfold fixS mendD
 rw [h1,hV]
 simp only
 rw [if_neg (by simp)]
 by_cases e:t.b=Zq12 m1 k∧Zq12 m1 k≠[]
 ·rw [if_pos e,if_pos e]
  rfl
 ·rw [if_neg e,if_neg e]
  by_cases e2:Zq12 m1 k=[]
  ·rw [if_pos e2,if_pos e2,Zq112]
   exact h.drop hok (by rw [ht];rfl)
  ·rw [if_neg e2,if_neg e2,if_pos hp,Zq112,h.trim hok ht]
   have:cutD t (Zq12 m1 k).length=⟨2,(Zq12 m1 k).length,[],⟨#[]⟩⟩:=by
    unfold cutD
    have:=hp.length_le
    rw [show max (0:Int) (min ((Zq12 m1 k).length:Int) (t.b.length:Int))=((Zq12 m1 k).length:Int) by omega]
   rw [this]
theorem mendL_plan:∀ {ks:List K4} {S:Str},LiveJ UJn S→ks.Nodup→(∀ k ∈ ks,k ∈ UJn∧∃ t,V k=some t∧get k S.seen=some t∧Zq12 m1 k<+:t.b)→fixL m1 ks S=execS (Zq861 V m1 ks) S
 | [],S,_,_,_=>(Zq112 .bar S).symm
 | k::ks,S,h,hn,hs=>by
  obtain ⟨h1,t,h2,h3,h4⟩:=hs k (List.mem_cons_self ..)
  have hn':=List.nodup_cons.1 hn
  unfold fixL
  rw [mendS_plan h h1 h2 h3 h4]
  show _=execS ((k::ks).flatMap (mendD V m1)++[.bar]) S
  rw [List.flatMap_cons,List.append_assoc,Zq181]
  unfold thenE
  by_cases h0:(execS (mendD V m1 k) S).1=0
  ·rw [if_neg (by simp [h0]),if_pos h0]
   obtain ⟨h6,h7⟩:=Zq223 Zq81 h (mendD_in h1) h0
   refine mendL_plan h6 hn'.2 fun k' hk'=>?_
   obtain ⟨a,t',b,c,d⟩:=hs k' (List.mem_cons_of_mem _ hk')
   exact ⟨a,t',b,(congrFun h7 k').trans ((mendD_other (fun e:k'=k=>hn'.1 (e ▸ hk')) _).trans c),d⟩
  ·rw [if_pos h0,if_neg h0]
theorem mends_other {k:K4}:∀ {ks:List K4} {V':K4→Option TS},k ∉ ks→Zq23 (Zq861 V m1 ks) V' k=V' k
 | [],V',_=>rfl
 | a::ks,V',h=>by
  show Zq23 ((a::ks).flatMap (mendD V m1)++[.bar]) V' k=_
  rw [List.flatMap_cons,List.append_assoc,Zq115]
  have h1:k≠a:=fun e=>h (e ▸ List.mem_cons_self ..)
  exact (mends_other fun e=>h (List.mem_cons_of_mem _ e)).trans (mendD_other h1 V')
theorem mends_same {k:K4} {t:TS} (hV:V k=some t) (hp:Zq12 m1 k<+:t.b):∀ {ks:List K4} {V':K4→Option TS},ks.Nodup→k ∈ ks→V' k=some t→(Zq23 (Zq861 V m1 ks) V' k).map (·.b)=if Zq12 m1 k=[] then none else some (Zq12 m1 k)
 | [],V',_,h,_=>by cases h
 | a::ks,V',hn,h,hV'=>by
  have hn':=List.nodup_cons.1 hn
  show (Zq23 ((a::ks).flatMap (mendD V m1)++[.bar]) V' k).map (·.b)=_
  rw [List.flatMap_cons,List.append_assoc,Zq115]
  by_cases e:k=a
  ·subst e
   rw [show Zq23 (ks.flatMap (mendD V m1)++[.bar]) (Zq23 (mendD V m1 k) V') k=Zq23 (mendD V m1 k) V' k from mends_other (V:=V) (m1:=m1) (ks:=ks) hn'.1]
   exact mendD_same hV hV' hp
  ·have hk:k ∈ ks:=by
    rcases List.mem_cons.1 h with q|q
    ·exact absurd q e
    ·exact q
   exact mends_same hV hp hn'.2 hk ((mendD_other e V').trans hV')
end
theorem JAny.jrec {S:Str} {J:Jn} (h:JAny S J):JRec S (some J.r):=by
 obtain ⟨t,h1,h2⟩:=h.rec_
 refine ⟨h.ok,?_⟩
 rw [h.live.attr kJ_ok h1,h2]
theorem JAny.started {S:Str} {J:Jn} (h:JAny S J):layJ (Zq75 S J.r)={ J with safe:=0 }:=by
 have h2:=h.small
 have hx:Go.Proofs.YtpjchngjhijgmaaGreat.layX J.r J.l=(J.l,J.at_,J.fill):=Zq377 h.lay (by show J.r.set+_≤_;omega)
 have e1:Zq75 S J.r=⟨J.r,J.l,[],Fl.zero,0,false⟩:=by
  unfold Zq75
  rw [h.merged,Zq385 fun e he=>(h.ents e he).2.2]
 unfold layJ lJ
 rw [e1]
 simp only
 rw [hx]
 cases J
 have:=h.dead
 simp only at this
 simp [this]
theorem JAny.trim {S:Str} {J:Jn} (h:JAny S J):trimJ S J=execS (Zq861 (Zq138 S) (rowsJ J) (Zq18 S ⟨2,0⟩)) S∧(∀ s ∈ Zq861 (Zq138 S) (rowsJ J) (Zq18 S ⟨2,0⟩),Zq216 UJn s)∧((trimJ S J).1=0→JOK (trimJ S J).2 J):=by
 have hks:∀ k ∈ Zq18 S ⟨2,0⟩,k ∈ UJn∧∃ t,Zq138 S k=some t∧get k S.seen=some t∧Zq12 (rowsJ J) k<+:t.b:=fun k hk=>by
  obtain ⟨h1,h2⟩:=(h.live.inv.keys.mem _ _).1 hk
  obtain ⟨t,ht⟩:=Option.isSome_iff_exists.1 h2
  have hne:k≠kJ:=fun e=>by
   rw [e] at h1
   have:=congrArg G2.kind h1
   simp [K4.grp,kJ] at this
  have hr:=h.rows k hne
  rw [ht] at hr
  exact ⟨h.live.inv.getU ht,t,ht,ht,hr⟩
 have hnd:(Zq18 S ⟨2,0⟩).Nodup:=Zq127 (h.live.inv.keys.rise _)
 have hin:=mendsD_in (V:=Zq138 S) (m1:=rowsJ J) fun k hk=>(hks k hk).1
 have hpl:trimJ S J=execS (Zq861 (Zq138 S) (rowsJ J) (Zq18 S ⟨2,0⟩)) S:=by
  unfold trimJ Zq28
  rw [if_pos h.live.on]
  exact mendL_plan h.live hnd hks
 refine ⟨hpl,hin,fun h0=>?_⟩
 rw [hpl] at h0 ⊢
 obtain ⟨h1,h2⟩:=Zq223 Zq81 h.live hin h0
 obtain ⟨t,ht,hat⟩:=h.rec_
 refine ⟨h1,h.ok,h.small,h.run,h.ents,h.lay,⟨t,((congrFun h2 kJ).trans (mends_other fun hk=>?_)).trans ht,hat⟩,fun k hk=>?_,h.dead,h.safe⟩
 ·have:=congrArg G2.kind ((h.live.inv.keys.mem _ _).1 hk).1
  simp [K4.grp,kJ] at this
 ·rw [show get k (execS (Zq861 (Zq138 S) (rowsJ J) (Zq18 S ⟨2,0⟩)) S).2.seen=Zq23 (Zq861 (Zq138 S) (rowsJ J) (Zq18 S ⟨2,0⟩)) (Zq138 S) k from congrFun h2 k]
  by_cases q:k ∈ Zq18 S ⟨2,0⟩
  ·obtain ⟨_,t,a,b,c⟩:=hks k q
   exact mends_same a c hnd q a
  ·rw [mends_other q]
   have hr:=h.rows k hk
   have hg:get k S.seen=none:=by
    cases hg:get k S.seen with
    | none=>rfl
    | some t =>
     exfalso
     refine q ((h.live.inv.keys.mem _ _).2 ⟨?_,by rw [hg];rfl⟩)
     rcases List.mem_cons.1 (h.live.inv.getU hg) with e|hU
     ·exact absurd e hk
     ·obtain ⟨i,_,rfl⟩:=List.mem_map.1 hU
      rfl
   rw [hg] at hr
   rw [if_pos (List.prefix_nil.1 hr)]
   show (get k S.seen).map (·.b)=none
   rw [hg];rfl
theorem JAny.open {S:Str} {J:Jn} (h:JAny S J) :
  openJ S J.r=(if (trimJ S J).1=0 then (if (saveJ (trimJ S J).2 (Zq164 J.r (endJ J))).1=0 then (0,(saveJ (trimJ S J).2 (Zq164 J.r (endJ J))).2,Zq64 J) else (7,(saveJ (trimJ S J).2 (Zq164 J.r (endJ J))).2,deadJ (Zq64 J))) else (7,(trimJ S J).2,deadJ { J with safe:=0 })) ∧
  (Zq164 J.r (endJ J)).Ok∧((trimJ S J).1=0→(saveJ (trimJ S J).2 (Zq164 J.r (endJ J))).1=0→JOK (saveJ (trimJ S J).2 (Zq164 J.r (endJ J))).2 (Zq64 J)):=by
 obtain ⟨h1,h2,h3⟩:=h.trim
 have hoff:=Zq324 (Zq861 (Zq138 S) (rowsJ J) (Zq18 S ⟨2,0⟩)) S
 rw [←h1] at hoff
 have hend:0≤endJ J:=by
  have:=h.ok.first
  unfold endJ
  omega
 have hok:(Zq164 J.r (endJ J)).Ok:=Zq474 h.ok hend
 refine ⟨?_,hok,fun h0 h00=>?_⟩
 ·unfold openJ
  rw [h.started]
  unfold mendJ
  have e0:trimJ S { J with safe:=0 }=trimJ S J:=rfl
  have e1:endJ { J with safe:=0 }=endJ J:=rfl
  have e2:({ J with safe:=0 }:Jn).r=J.r:=rfl
  rw [e0,e1,e2]
  by_cases h0:(trimJ S J).1=0
  ·have h4:=h3 h0
   obtain ⟨t2,ht2,_⟩:=h4.rec_
   have h5:=Zq326 h4.live ht2 hok
   rw [if_neg (by simp [h0]),if_pos h0]
   rcases h5 with e|e
   ·rw [if_pos e,e];rfl
   ·rw [if_neg (by rw [e];decide),e];rfl
  ·rw [if_pos h0,if_neg h0]
   rcases hoff with e|e
   ·exact absurd e h0
   ·rw [e];rfl
 ·have h4:=h3 h0
  obtain ⟨t2,ht2,_⟩:=h4.rec_
  obtain ⟨a,b,c⟩:=Zq258 h4.live ht2 hok h00
  refine h4.recd a b c hok rfl rfl rfl (fun e he=>?_) h4.ends
  have:=(run_seq h4.run he).2
  refine Zq699 h4.ok.tags ?_
  unfold endJ
  omega
theorem JAny.open_calm {S:Str} {J:Jn} (h:JAny S J) (ha:S.armed=false):∃ S',openJ S J.r=(0,S',Zq64 J)∧JOK S' (Zq64 J)∧S'.armed=false∧S'.late=[]:=by
 obtain ⟨h1,h2,h3⟩:=h.open
 obtain ⟨t1,t2,t3⟩:=h.trim
 obtain ⟨c1,c2⟩:=Zq137 Zq81 h.live ha t2
 rw [←t1] at c1 c2
 have h4:=t3 c1
 obtain ⟨t,ht,_⟩:=h4.rec_
 have hpl:=Zq150 h4.live ht h2
 obtain ⟨d1,d2⟩:=Zq137 Zq81 h4.live c2 (Zq325 (trimJ S J).2 h2)
 rw [←hpl] at d1 d2
 rw [if_pos c1,if_pos d1] at h1
 refine ⟨_,h1,h3 c1 d1,d2,?_⟩
 have hbar:∀ (l:List DStep) (S0:Str),LiveJ UJn S0→S0.armed=false→(∀ s ∈ l,Zq216 UJn s)→(execS (l++[.bar]) S0).2.late=[]:=by
  intro l
  induction l with
  | nil =>
   intro S0 g1 g2 _
   show (thenE (stepE S0 .bar) (execS [])).2.late=[]
   have hb:Zq34 S0=(false,S0):=by simp [Zq34,g2]
   have e0:stepE S0 .bar=(0,{ S0 with dry:=Zq202 S0,late:=[],wet:=0,deeds:=wrap64 (S0.deeds+1) }):=by
    show Zq9 S0=_
    unfold Zq9
    rw [if_neg (by simp [g1.on]),hb]
    rfl
   unfold thenE
   rw [e0]
   rfl
  | cons s l ih =>
   intro S0 g1 g2 g3
   have hb:(Zq34 S0).1=false:=by simp [Zq34,g2]
   have e0:=Zq237 s g1.on g1.inv.coh hb
   show (thenE (stepE S0 s) (execS (l++[.bar]))).2.late=[]
   unfold thenE
   rw [if_pos e0]
   exact ih _ (Zq382 g1 Zq81 (g3 s (List.mem_cons_self ..)) e0).1 (Zq384 s g2 g1.on).1 fun x hx=>g3 x (List.mem_cons_of_mem _ hx)
 rw [hpl]
 unfold Zq401
 split
 ·exact hbar [] _ h4.live c2 (by simp)
 ·have h1:1≤(recB (Zq164 J.r (endJ J))).length:=by rw [Zq175];omega
  exact hbar [.deed kJ (setD nmJ (recB (Zq164 J.r (endJ J))))] _ h4.live c2 (by
   intro s hs
   rw [List.mem_singleton.1 hs]
   exact ⟨Zq629,.inr (.inr (.inr (.inr ⟨rfl,rfl,h1,Zq148 h2⟩)))⟩)
theorem JAny.open_pre {S:Str} {J:Jn} (h:JAny S J):(Zq18 S ⟨2,0⟩).length≤100∧SeenB S∧JRec S (some J.r)∧J.r.set≤1000000∧((trimJ S (layJ (Zq75 S J.r))).1=0→JRec (trimJ S (layJ (Zq75 S J.r))).2 (some J.r)):=by
 have hs:=h.small
 refine ⟨by have:=h.live.inv.keyCount;omega,h.live.inv.seenB,h.jrec,by omega,fun h0=>?_⟩
 rw [h.started] at h0 ⊢
 exact (h.trim.2.2 h0).jrec
end Go.Proofs.YtpjchngjhijgmaaGreat
namespace Go.Proofs.YtpjchngjhijgmaaGreat
open Go.RowKit
theorem rows_entsAt (J:Jn) (k:K4):Zq12 (rowsJ J) k=Zq36 (Zq829 J k):=Zq120 J k
theorem entsAt_mem {J:Jn} {k:K4} {e:En} (h:e ∈ Zq829 J k):e ∈ J.l∧∃ (i:Nat) (p:Pl),J.l[i]?=some e∧J.at_[i]?=some p∧keyOf J.r.shape p=k:=by
 obtain ⟨x,hx,hx2⟩:=List.mem_filterMap.1 h
 split at hx2
 ·rename_i hk
  simp only [Option.some.injEq] at hx2
  obtain ⟨i,hi⟩:=List.getElem?_of_mem hx
  rw [show x=(x.1,x.2) from rfl,List.getElem?_zip_eq_some] at hi
  rw [←hx2]
  exact ⟨List.mem_of_getElem? hi.1,i,x.2,hi.1,hi.2,hk⟩
 ·cases hx2
theorem mem_entsAt {J:Jn} {i:Nat} {e:En} {p:Pl} (h1:J.l[i]?=some e) (h2:J.at_[i]?=some p):e ∈ Zq829 J (keyOf J.r.shape p):=by
 refine List.mem_filterMap.2 ⟨(e,p),?_,by simp⟩
 refine List.mem_of_getElem? (i:=i) ?_
 rw [List.getElem?_zip_eq_some]
 exact ⟨h1,h2⟩
theorem entsAt_take (J:Jn) (n:Nat) (f:Fl) (k:K4):Zq829 (lJ J (J.l.take n) (J.at_.take n) f) k<+:Zq829 J k:=by
 unfold Zq829
 show ((J.l.take n).zip (J.at_.take n)).filterMap _<+:_
 have e:(J.l.take n).zip (J.at_.take n)=(J.l.zip J.at_).take n:=by
  rw [List.zip_eq_zipWith,List.zip_eq_zipWith,List.take_zipWith]
 rw [e]
 exact (List.take_prefix n _).filterMap _
theorem read_key {S:Str} (h:LiveJ UJn S) {k:K4} (hk:k ∈ Zq18 S ⟨2,0⟩):∃ t,get k S.seen=some t∧k≠kJ∧(readS S k 0 (lenAt S k)).1=t.b:=by
 obtain ⟨h1,h2⟩:=(h.inv.keys.mem _ _).1 hk
 obtain ⟨t,ht⟩:=Option.isSome_iff_exists.1 h2
 have hne:k≠kJ:=fun e=>by
  rw [e] at h1
  have:=congrArg G2.kind h1
  simp [K4.grp,kJ] at this
 exact ⟨t,ht,hne,by rw [(h.all (Zq81.all k (h.inv.getU ht)).2 ht).1]⟩
theorem key_in {S:Str} (h:LiveJ UJn S) {k:K4} (hne:k≠kJ) (hs:(get k S.seen).isSome=true):k ∈ Zq18 S ⟨2,0⟩:=by
 refine (h.inv.keys.mem _ _).2 ⟨?_,hs⟩
 obtain ⟨t,ht⟩:=Option.isSome_iff_exists.1 hs
 rcases List.mem_cons.1 (h.inv.getU ht) with e|hU
 ·exact absurd e hne
 ·obtain ⟨i,_,rfl⟩:=List.mem_map.1 hU
  rfl
theorem mem_parsed {S:Str} (h:LiveJ UJn S) {e:En}:e ∈ (readRows S).flatMap (fun r=>(allB r).1)↔∃ k,k≠kJ∧e ∈ (allB (rowB (get k S.seen))).1:=by
 unfold readRows Zq28
 rw [if_pos h.on,List.mem_flatMap]
 constructor
 ·rintro ⟨r,hr,he⟩
  obtain ⟨k,hk,rfl⟩:=List.mem_map.1 hr
  obtain ⟨t,ht,hne,hb⟩:=read_key h hk
  refine ⟨k,hne,?_⟩
  rw [ht]
  rw [hb] at he
  exact he
 ·rintro ⟨k,hne,he⟩
  cases hg:get k S.seen with
  | none =>
   rw [hg] at he
   exact absurd he (by show e ∉ (allB []).1;rw [show (allB []).1=[] from rfl];simp)
  | some t =>
   have hk:=key_in h hne (by rw [hg];rfl)
   obtain ⟨t2,ht2,_,hb⟩:=read_key h hk
   refine ⟨_,List.mem_map.2 ⟨k,hk,rfl⟩,?_⟩
   rw [hb]
   rw [ht2] at he
   exact he
end Go.Proofs.YtpjchngjhijgmaaGreat
namespace Go.Proofs.YtpjchngjhijgmaaGreat
open Go.RowKit
theorem xor32 (a b:Int):bits .xor .u32 a b=((BitVec.ofInt 32 a ^^^ BitVec.ofInt 32 b).toNat:Nat):=by
 have e:bits .xor .u32 a b=IntKind.u32.wrap ((BitVec.ofInt 32 a ^^^ BitVec.ofInt 32 b).toNat:Nat):=rfl
 have:=(BitVec.ofInt 32 a ^^^ BitVec.ofInt 32 b).isLt
 rw [e,Zq312]
 omega
theorem ofInt32_inj {a b:Int} (ha:isU32 a) (hb:isU32 b) (h:BitVec.ofInt 32 a=BitVec.ofInt 32 b):a=b:=by
 have h1:=congrArg BitVec.toNat h
 rw [BitVec.toNat_ofInt,BitVec.toNat_ofInt] at h1
 unfold isU32 at ha hb
 have e1:((2 ^ 32:Nat):Int)=4294967296:=rfl
 rw [e1] at h1
 omega
theorem xor32_inj {a b p:Int} (ha:isU32 a) (hb:isU32 b) (h:bits .xor .u32 a p=bits .xor .u32 b p):a=b:=by
 rw [xor32,xor32] at h
 have h1:BitVec.ofInt 32 a ^^^ BitVec.ofInt 32 p=BitVec.ofInt 32 b ^^^ BitVec.ofInt 32 p:=BitVec.eq_of_toNat_eq (by omega)
 have h2:=congrArg (· ^^^ BitVec.ofInt 32 p) h1
 simp only [BitVec.xor_assoc,BitVec.xor_self,BitVec.xor_zero] at h2
 exact ofInt32_inj ha hb h2
theorem xor32_comm (a b:Int):bits .xor .u32 a b=bits .xor .u32 b a:=by rw [xor32,xor32,BitVec.xor_comm]
theorem xor_poly {m:Int} (h:0≤m∧m<2147483648):2147483648≤bits .xor .u32 m 2197175160:=by
 rw [xor32]
 have h1:(BitVec.ofInt 32 m ^^^ BitVec.ofInt 32 2197175160).msb=true:=by
  rw [BitVec.msb_xor]
  have a1:(BitVec.ofInt 32 m).msb=false:=by
   rw [BitVec.msb_eq_decide,decide_eq_false_iff_not,BitVec.toNat_ofInt]
   have e1:((2 ^ 32:Nat):Int)=4294967296:=rfl
   rw [e1]
   have e2:(2:Nat) ^ (32 - 1)=2147483648:=rfl
   rw [e2]
   omega
  have a2:(BitVec.ofInt 32 2197175160).msb=true:=by decide
  rw [a1,a2];rfl
 rw [BitVec.msb_eq_decide,decide_eq_true_eq] at h1
 have e2:(2:Nat) ^ (32 - 1)=2147483648:=rfl
 rw [e2] at h1
 omega
theorem crcBit_inj {a b:Int} (ha:isU32 a) (hb:isU32 b) (h:Zq397 a=Zq397 b):a=b:=by
 unfold isU32 at ha hb
 unfold Zq397 at h
 split at h
 ·rename_i q1
  split at h
  ·rename_i q2
   have:=xor32_inj (a:=a / 2) (b:=b / 2) (by unfold isU32;omega) (by unfold isU32;omega) h
   omega
  ·have:=xor_poly (m:=a / 2) (by omega)
   omega
 ·split at h
  ·have:=xor_poly (m:=b / 2) (by omega)
   omega
  ·omega
theorem crcN_inj:∀ (n:Nat) {a b:Int},isU32 a→isU32 b→crcN n a=crcN n b→a=b
 | 0,_,_,_,_,h=>h
 | n+1,_,_,ha,hb,h=>crcN_inj n ha hb (crcBit_inj (Zq414 ha n) (Zq414 hb n) h)
theorem byte_u32 {x:Int} (h:isByte x):isU32 x:=by unfold isByte at h;unfold isU32;omega
theorem crcNext_left {a b x:Int} (ha:isU32 a) (hb:isU32 b) (h:Zq139 a x=Zq139 b x):a=b:=xor32_inj ha hb (crcN_inj 8 (u32_xor _ _) (u32_xor _ _) h)
theorem crcNext_right {c x y:Int} (hx:isByte x) (hy:isByte y) (h:Zq139 c x=Zq139 c y):x=y:=by
 have h1:=crcN_inj 8 (u32_xor _ _) (u32_xor _ _) h
 rw [xor32_comm c x,xor32_comm c y] at h1
 exact xor32_inj (byte_u32 hx) (byte_u32 hy) h1
theorem crcFold_inj:∀ (l:List Int) {a b:Int},isU32 a→isU32 b→l.foldl Zq139 a=l.foldl Zq139 b→a=b
 | [],_,_,_,_,h=>h
 | x::l,_,_,ha,hb,h=>crcNext_left ha hb (crcFold_inj l (Zq507 _ _) (Zq507 _ _) h)
theorem crcOf_set {b:List Int} {i:Nat} {x y:Int} (hx:b[i]?=some x) (hbx:isByte x) (hby:isByte y) (hne:x≠y):crcOf (b.set i y)≠crcOf b:=by
 intro h
 obtain ⟨hil,hie⟩:=List.getElem?_eq_some_iff.1 hx
 have h0:isU32 4294967295:=by unfold isU32;omega
 have e1:b.set i y=b.take i++y::b.drop (i+1):=by rw [List.set_eq_take_append_cons_drop,if_pos hil]
 have e2:b=b.take i++x::b.drop (i+1):=by
  conv=>lhs;rw [←List.take_append_drop i b,List.drop_eq_getElem_cons hil,hie]
 rw [e1] at h
 have h2:crcOf (b.take i++y::b.drop (i+1))=crcOf (b.take i++x::b.drop (i+1)):=by rw [h];conv=>lhs;rw [e2]
 unfold crcOf at h2
 rw [xor32_comm,xor32_comm 4294967295 (List.foldl _ _ _)] at h2
 have h3:=xor32_inj (Zq278 _ _ h0) (Zq278 _ _ h0) h2
 rw [List.foldl_append,List.foldl_append,List.foldl_cons,List.foldl_cons] at h3
 have h4:=crcFold_inj _ (Zq507 _ _) (Zq507 _ _) h3
 exact hne (crcNext_right hby hbx h4).symm
theorem getB_inj:∀ {a b:List Int},a.length=b.length→(∀ x ∈ a,isByte x)→(∀ x ∈ b,isByte x)→getB a=getB b→a=b
 | [],[],_,_,_,_=>rfl
 | [],_::_,h,_,_,_=>by simp at h
 | _::_,[],h,_,_,_=>by simp at h
 | x::a,y::b,hl,ha,hb,h=>by
  have hx:=ha x (List.mem_cons_self ..)
  have hy:=hb y (List.mem_cons_self ..)
  unfold isByte at hx hy
  unfold getB at h
  have h1:x=y:=by omega
  have h2:getB a=getB b:=by omega
  rw [h1,getB_inj (by simpa using hl) (fun z hz=>ha z (List.mem_cons_of_mem _ hz)) (fun z hz=>hb z (List.mem_cons_of_mem _ hz)) h2]
theorem frame_rotten {e:En} (h:e.okB=true) (hbt:e.bytes) (rest:List Int) {i:Nat} {x y:Int} (hx:(Zq46 e)[i]?=some x) (h16:i≠16∧i≠17) (hy:isByte y) (hne:x≠y):(takeR ((Zq46 e).set i y++rest)).2.2≠0:=by
 intro h0
 have hil:=(List.getElem?_eq_some_iff.1 hx).1
 have hfl:=Zq33 e
 have hhl:=Zq129 e
 have hbx:isByte x:=Zq424 hbt x (List.mem_of_getElem? hx)
 rw [En.okB_iff] at h
 have hlen2:(((Zq46 e).set i y++rest).drop 16).take 2=putB e.data.length 2:=by
  have p4:=(Zq609 e (putB (crcOf (headB e)) 4)).2.2.2.1
  rw [←p4]
  refine List.ext_getElem? fun j=>?_
  rw [List.getElem?_take,List.getElem?_take]
  by_cases hj:j<2
  ·rw [if_pos hj,if_pos hj,List.getElem?_drop,List.getElem?_drop,List.getElem?_append_left (by rw [List.length_set];omega),List.getElem?_set_ne (by omega)]
   rfl
  ·rw [if_neg hj,if_neg hj]
 have hlen:lenR ((Zq46 e).set i y++rest)=e.data.length:=by
  unfold lenR
  rw [hlen2]
  exact Zq89 (by omega) (by have:(2:Int) ^ (8*2)=65536:=rfl;omega)
 unfold takeR at h0
 split at h0
 ·cases h0
 split at h0
 ·cases h0
 split at h0
 ·cases h0
 split at h0
 ·cases h0
 rename_i h4
 rw [hlen,Int.toNat_natCast] at h4
 have h4':getB ((((Zq46 e).set i y++rest).drop (18+e.data.length)).take 4)=crcOf (((Zq46 e).set i y++rest).take (18+e.data.length)):=by
  apply Classical.byContradiction
  exact h4
 have hcl:=Zq32 (crcOf (headB e)) 4
 have hcg:getB (putB (crcOf (headB e)) 4)=crcOf (headB e):=Zq89 (Zq472 _).1 (by have:(2:Int) ^ (8*4)=4294967296:=rfl;have:=(Zq472 (headB e)).2;omega)
 by_cases hi:i<18+e.data.length
 ·have e1:(Zq46 e).set i y=(headB e).set i y++putB (crcOf (headB e)) 4:=by
   unfold Zq46
   rw [List.set_append_left _ _ (by omega)]
  have hsl:((headB e).set i y).length=18+e.data.length:=by rw [List.length_set,hhl]
  rw [e1,List.append_assoc,←hsl,List.drop_left,List.take_left,List.take_left' hcl,hcg] at h4'
  refine crcOf_set (b:=headB e) (i:=i) (x:=x) ?_ hbx hy hne h4'.symm
  unfold Zq46 at hx
  rwa [List.getElem?_append_left (by omega)] at hx
 ·have e1:(Zq46 e).set i y=headB e++(putB (crcOf (headB e)) 4).set (i - (18+e.data.length)) y:=by
   unfold Zq46
   rw [List.set_append_right _ _ (by omega),hhl]
  rw [e1,List.append_assoc,←hhl,List.drop_left,List.take_left,List.take_left' (by rw [List.length_set,hcl])] at h4'
  replace h4':getB ((putB (crcOf (headB e)) 4).set (i - (headB e).length) y)=getB (putB (crcOf (headB e)) 4):=h4'.trans hcg.symm
  have hbs:∀ z ∈ (putB (crcOf (headB e)) 4).set (i - (headB e).length) y,isByte z:=fun z hz=>by
   rcases List.mem_or_eq_of_mem_set hz with q|q
   ·exact Zq78 _ _ z q
   ·rw [q];exact hy
  have h5:=getB_inj (by rw [List.length_set]) hbs (Zq78 _ _) h4'
  unfold Zq46 at hx
  rw [List.getElem?_append_right (by omega)] at hx
  have h6:((putB (crcOf (headB e)) 4).set (i - (headB e).length) y)[i - (headB e).length]?=some y:=List.getElem?_set_self (by rw [hcl];omega)
  rw [h5,hx] at h6
  exact hne (Option.some.inj h6)
end Go.Proofs.YtpjchngjhijgmaaGreat
