import Derived.Test.YtpjchngjhijgmaaGreatJM40
set_option linter.all false
namespace Go.Proofs.YtpjchngjhijgmaaGreat
open Go.RowKit
structure JOK (S:Str) (J:Jn):Prop where
 live:LiveJ UJn S
 ok:J.r.Ok
 small:J.r.set+J.l.length≤1000000∧J.l.length≤100000
 run:runs J.l J.r.first
 ents:∀ e ∈ J.l,e.okB=true∧e.bytes∧e.tag=tagOf J.r.tags e.seq
 lay:laid J.r.shape J.r.set J.l J.at_ (layF J.r) J.fill
 rec_:∃ t,get kJ S.seen=some t∧get nmJ t.attr=some (recB J.r)
 rows:∀ k,k≠kJ→(get k S.seen).map (·.b)=if Zq19 (rowsJ J) k=[] then none else some (Zq19 (rowsJ J) k)
 dead:J.dead=false
 safe:0≤J.safe∧J.safe≤3299023255552
theorem JOK.at {S:Str} {J:Jn} (h:JOK S J):LaidAt J.r.shape J.r.set J.l J.at_ J.fill:=by
 have h1:=h.ok.set
 have h2:=h.small
 exact Zq869 h.ok.shape h.lay h1.1 (by omega)
theorem JOK.jb {S:Str} {J:Jn} (h:JOK S J):JB J:=⟨h.ok,h.small.2,h.at.len,h.at.ok,h.safe⟩
theorem JOK.okB {S:Str} {J:Jn} (h:JOK S J):∀ e ∈ J.l,e.okB=true:=fun e he=>(h.ents e he).1
theorem kJ_ok:kJ.ok=true:=rfl
theorem JOK.jrec {S:Str} {J:Jn} (h:JOK S J):JRec S (some J.r):=by
 obtain ⟨t,h1,h2⟩:=h.rec_
 refine ⟨h.ok,?_⟩
 rw [h.live.attr kJ_ok h1,h2]
theorem JOK.layX {S:Str} {J:Jn} (h:JOK S J):layX J.r J.l=(J.l,J.at_,J.fill):=by
 have h2:=h.small
 exact Zq276 h.lay (by show J.r.set+_≤_;omega)
theorem JOK.inRow {S:Str} {J:Jn} (h:JOK S J) {i:Nat} {e:En} {p:Pl} (he:J.l[i]?=some e) (hp:J.at_[i]?=some p):∃ a b,Zq19 (rowsJ J) (keyOf J.r.shape p)=Zq41 (a++e::b)∧∀ x ∈ a++e::b,x ∈ J.l:=by
 unfold rowsJ
 rw [Zq173]
 have hw:Zq19 ([]:List (K4 × List Int)) (keyOf J.r.shape p)=[]:=by simp [Zq19,get]
 rw [hw,Zl3]
 obtain ⟨L,hL⟩:∃ L,L=(J.l.zip J.at_).filterMap fun x=>if keyOf J.r.shape x.2=keyOf J.r.shape p then some x.1 else none:=⟨_,rfl⟩
 rw [←hL]
 have hm:e ∈ L:=by
  rw [hL,List.mem_filterMap]
  refine ⟨(e,p),?_,by rw [if_pos rfl]⟩
  refine List.mem_of_getElem? (i:=i) ?_
  rw [List.getElem?_zip_eq_some]
  exact ⟨he,hp⟩
 have hs:∀ x ∈ L,x ∈ J.l:=by
  intro x hx
  rw [hL,List.mem_filterMap] at hx
  obtain ⟨y,hy,hy2⟩:=hx
  split at hy2
  ·simp only [Option.some.injEq] at hy2
   rw [←hy2]
   exact (List.of_mem_zip hy).1
  ·cases hy2
 obtain ⟨a,b,hab⟩:=List.append_of_mem hm
 exact ⟨a,b,by rw [hab],fun x hx=>hs x (by rw [hab];exact hx)⟩
theorem JOK.rowEnts {S:Str} {J:Jn} (h:JOK S J) (k:K4):∃ L:List En,Zq19 (rowsJ J) k=Zq41 L∧(∀ x ∈ L,x ∈ J.l)∧(allB (Zq19 (rowsJ J) k)).1=L:=by
 obtain ⟨L,hL⟩:∃ L,L=(J.l.zip J.at_).filterMap fun x=>if keyOf J.r.shape x.2=k then some x.1 else none:=⟨_,rfl⟩
 have hw:Zq19 (rowsJ J) k=Zq41 L:=by
  unfold rowsJ
  rw [Zq173]
  have hw:Zq19 ([]:List (K4 × List Int)) k=[]:=by simp [Zq19,get]
  rw [hw,Zl3,hL]
 have hs:∀ x ∈ L,x ∈ J.l:=by
  intro x hx
  rw [hL,List.mem_filterMap] at hx
  obtain ⟨y,hy,hy2⟩:=hx
  split at hy2
  ·simp only [Option.some.injEq] at hy2
   rw [←hy2]
   exact (List.of_mem_zip hy).1
  ·cases hy2
 exact ⟨L,hw,hs,by rw [hw];exact Zq210 fun x hx=>h.okB x (hs x hx)⟩
theorem JOK.key {S:Str} {J:Jn} (h:JOK S J) {k:K4} (hk:k ∈ Zq18 S ⟨2,0⟩):∃ t,get k S.seen=some t∧t.b=Zq19 (rowsJ J) k∧Zq19 (rowsJ J) k≠[]∧k.ok=true:=by
 obtain ⟨h1,h2⟩:=(h.live.inv.keys.mem _ _).1 hk
 obtain ⟨t,ht⟩:=Option.isSome_iff_exists.1 h2
 have hne:k≠kJ:=fun e=>by
  rw [e] at h1
  have:=congrArg G2.kind h1
  simp [K4.grp,kJ] at this
 have hr:=h.rows k hne
 rw [ht] at hr
 simp only [Option.map_some] at hr
 split at hr
 ·cases hr
 ·rename_i hw
  exact ⟨t,ht,by simpa using hr,hw,(Zq69.all k (h.live.inv.getU ht)).2⟩
theorem JOK.keyMem {S:Str} {J:Jn} (h:JOK S J) {k:K4} (hg:k.grp=⟨2,0⟩) (hw:Zq19 (rowsJ J) k≠[]):k ∈ Zq18 S ⟨2,0⟩:=by
 refine (h.live.inv.keys.mem _ _).2 ⟨hg,?_⟩
 have hne:k≠kJ:=fun e=>by
  rw [e] at hg
  have:=congrArg G2.kind hg
  simp [K4.grp,kJ] at this
 have hr:=h.rows k hne
 rw [if_neg hw] at hr
 cases hs:get k S.seen with
 | none=>rw [hs] at hr;cases hr
 | some t=>rfl
theorem JOK.fix {S:Str} {J:Jn} (h:JOK S J) {k:K4} (hk:k ∈ Zq18 S ⟨2,0⟩):fixS (rowsJ J) k S=(0,S):=by
 obtain ⟨t,ht,hb,hw,hok⟩:=h.key hk
 obtain ⟨h1,_⟩:=h.live.all hok ht
 unfold fixS
 rw [h1]
 simp only
 rw [if_neg (by simp),if_pos ⟨hb,hw⟩]
theorem JOK.fixAll {S:Str} {J:Jn} (h:JOK S J):∀ {ks:List K4},(∀ k ∈ ks,k ∈ Zq18 S ⟨2,0⟩)→fixL (rowsJ J) ks S=Zq14 S
 | [],_=>rfl
 | k::ks,hs=>by
  unfold fixL
  rw [h.fix (hs k (List.mem_cons_self ..)),if_neg (by simp)]
  exact h.fixAll fun k' hk'=>hs k' (List.mem_cons_of_mem _ hk')
theorem JOK.trim {S:Str} {J:Jn} (h:JOK S J):trimJ S J=Zq14 S:=by
 unfold trimJ
 refine h.fixAll fun k hk=>?_
 unfold Zq21 at hk
 rw [if_pos h.live.on] at hk
 exact hk
theorem JOK.readRows {S:Str} {J:Jn} (h:JOK S J):readRows S=(Zq18 S ⟨2,0⟩).map (Zq19 (rowsJ J)):=by
 unfold Go.Proofs.YtpjchngjhijgmaaGreat.readRows Zq21
 rw [if_pos h.live.on]
 refine List.map_congr_left fun k hk=>?_
 obtain ⟨t,ht,hb,hw,hok⟩:=h.key hk
 rw [(h.live.all hok ht).1]
 exact hb
theorem JOK.merged {S:Str} {J:Jn} (h:JOK S J):Zq177 (Go.Proofs.YtpjchngjhijgmaaGreat.readRows S) J.r.first=J.l:=by
 refine Zq653 h.ok.first.1 h.run (fun e he=>?_) fun e he _ _=>?_
 ·obtain ⟨i,hi⟩:=List.getElem?_of_mem he
  have hil:=(List.getElem?_eq_some_iff.1 hi).1
  obtain ⟨p,hp⟩:∃ p,J.at_[i]?=some p:=⟨_,List.getElem?_eq_getElem (by rw [h.at.len];exact hil)⟩
  obtain ⟨a,b,hw,hs⟩:=h.inRow hi hp
  have hne:Zq19 (rowsJ J) (keyOf J.r.shape p)≠[]:=by
   rw [hw]
   intro q
   have:=congrArg List.length q
   rw [Zq209,Zq149,List.length_append,List.length_append,Zq38] at this
   simp at this
  have hk:=h.keyMem (k:=keyOf J.r.shape p) rfl hne
  rw [h.readRows]
  refine List.mem_flatMap.2 ⟨_,List.mem_map.2 ⟨_,hk,rfl⟩,?_⟩
  rw [hw,Zq210 fun x hx=>h.okB x (hs x hx)]
  simp
 ·rw [h.readRows] at he
  obtain ⟨r,hr,her⟩:=List.mem_flatMap.1 he
  obtain ⟨k,hk,rfl⟩:=List.mem_map.1 hr
  obtain ⟨L,_,hs,ha⟩:=h.rowEnts k
  rw [ha] at her
  exact hs e her
theorem Zq279 {ts:List Tag}:∀ {es:List En},(∀ e ∈ es,e.tag=tagOf ts e.seq)→tagged ts es=es
 | [],_=>rfl
 | x::es,h=>by
  unfold tagged
  rw [List.takeWhile_cons,if_pos (decide_eq_true (h x (List.mem_cons_self ..)))]
  have:=Zq279 (ts:=ts) (es:=es) fun e he=>h e (List.mem_cons_of_mem _ he)
  unfold tagged at this
  rw [this]
theorem JOK.started {S:Str} {J:Jn} (h:JOK S J):layJ (Zq65 S J.r)={ J with safe:=0 }:=by
 have e1:Zq65 S J.r=⟨J.r,J.l,[],Fl.zero,0,false⟩:=by
  unfold Zq65
  rw [h.merged,Zq279 fun e he=>(h.ents e he).2.2]
 unfold layJ lJ
 rw [e1]
 simp only
 rw [h.layX]
 cases J
 have:=h.dead
 simp only at this
 simp [this]
end Go.Proofs.YtpjchngjhijgmaaGreat
namespace Go.Proofs.YtpjchngjhijgmaaGreat
open Go.RowKit
theorem Zq825 (S:Str) (s:DStep):(stepE S s).1=0∨(stepE S s).1=7:=by
 cases s with
 | deed k d=>exact Zq874 _
 | bar =>
  show (Zq14 S).1=0∨(Zq14 S).1=7
  unfold Zq14
  split
  ·exact .inr rfl
  ·split
   ·exact .inr rfl
   ·exact .inl rfl
theorem Zq353:∀ (l:List DStep) (S:Str),(execS l S).1=0∨(execS l S).1=7
 | [],S=>.inl rfl
 | s::l,S=>by
  show (thenE (stepE S s) (execS l)).1=0∨(thenE (stepE S s) (execS l)).1=7
  unfold thenE
  split
  ·exact Zq353 l _
  ·exact Zq825 S s
def Zq360 (S:Str) (r:Rc):List DStep:=if attrS S kJ nmJ=(recB r,0) then [.bar] else [.deed kJ (setD nmJ (recB r)),.bar]
theorem Zq354 (S:Str) {r:Rc} (hr:r.Ok):∀ s ∈ Zq360 S r,Zq248 UJn s:=by
 intro s hs
 have h1:1≤(recB r).length:=by rw [Zq160];omega
 unfold Zq360 at hs
 split at hs
 ·rw [List.mem_singleton.1 hs];exact trivial
 ·rcases List.mem_cons.1 hs with rfl|hs
  ·exact ⟨Zq418,.inr (.inr (.inr (.inr ⟨rfl,rfl,h1,Zq126 hr⟩)))⟩
  ·rw [List.mem_singleton.1 hs];exact trivial
theorem Zq162 {S:Str} {r:Rc} (h:LiveJ UJn S) {t:TS} (ht:get kJ S.seen=some t) (hr:r.Ok):saveJ S r=execS (Zq360 S r) S:=by
 have h1:1≤(recB r).length:=by rw [Zq160];omega
 have hs:=h.set Zq69 kJ_ok ht h1 (Zq126 hr)
 unfold saveJ Zq360
 by_cases ha:attrS S kJ nmJ=(recB r,0)
 ·rw [if_pos ha,if_pos ha]
  exact (Zq117 .bar S).symm
 ·rw [if_neg ha,if_neg ha,hs]
  show _=thenE (stepE S (.deed kJ (setD nmJ (recB r)))) (execS [.bar])
  unfold thenE
  by_cases h0:(stepE S (.deed kJ (setD nmJ (recB r)))).1=0
  ·rw [if_neg (by simp [h0]),if_pos h0]
   exact (Zq117 .bar _).symm
  ·rw [if_pos h0,if_neg h0]
theorem Zq669 {S:Str} {r:Rc} (h:LiveJ UJn S) {t:TS} (ht:get kJ S.seen=some t) (hr:r.Ok) (h0:(saveJ S r).1=0) :
  LiveJ UJn (saveJ S r).2∧(∃ t',get kJ (saveJ S r).2.seen=some t'∧get nmJ t'.attr=some (recB r))∧∀ k,k≠kJ→get k (saveJ S r).2.seen=get k S.seen:=by
 have h1:1≤(recB r).length:=by rw [Zq160];omega
 have hne:recB r≠[]:=fun q=>by rw [q] at h1;simp at h1
 rw [Zq162 h ht hr] at h0 ⊢
 obtain ⟨h2,h3⟩:=Zq214 Zq69 h (Zq354 S hr) h0
 refine ⟨h2,?_⟩
 have hv:∀ k,get k (execS (Zq360 S r) S).2.seen=Zq26 (Zq360 S r) (Zq91 S) k:=fun k=>congrFun h3 k
 unfold Zq360 at hv ⊢
 by_cases ha:attrS S kJ nmJ=(recB r,0)
 ·rw [if_pos ha] at hv ⊢
  refine ⟨⟨t,(hv kJ).trans ht,?_⟩,fun k _=>hv k⟩
  have h4:=h.attr kJ_ok ht
  rw [ha] at h4
  cases hg:get nmJ t.attr with
  | none=>rw [hg] at h4;simp at h4
  | some v =>
   rw [hg] at h4
   simp only [Prod.mk.injEq,and_true] at h4
   rw [h4]
 ·rw [if_neg ha] at hv ⊢
  have hs:stepD (some t) (setD nmJ (recB r))=some { t with attr:=Zq83 t.attr nmJ (recB r) }:=rfl
  have e1:Zq26 [.deed kJ (setD nmJ (recB r)),.bar] (Zq91 S) kJ=stepD (Zq91 S kJ) (setD nmJ (recB r)):=by simp [Zq26,Zq81]
  have e2:∀ k,k≠kJ→Zq26 [.deed kJ (setD nmJ (recB r)),.bar] (Zq91 S) k=Zq91 S k:=fun k hk=>by simp [Zq26,Zq81,hk]
  have e3:stepD (Zq91 S kJ) (setD nmJ (recB r))=some { t with attr:=Zq83 t.attr nmJ (recB r) }:=by
   rw [show Zq91 S kJ=some t from ht]
   exact hs
  refine ⟨⟨_,(hv kJ).trans (e1.trans e3),?_⟩,fun k hk=>(hv k).trans (e2 k hk)⟩
  ·show get nmJ (Zq83 t.attr nmJ (recB r))=_
   unfold Zq83
   rw [if_neg hne]
   exact Zq44
theorem Zq517 {S:Str} {r:Rc} (h:LiveJ UJn S) {t:TS} (ht:get kJ S.seen=some t) (hr:r.Ok):(saveJ S r).1=0∨(saveJ S r).1=7:=by
 rw [Zq162 h ht hr]
 exact Zq353 _ _
theorem JOK.recd {S S':Str} {J:Jn} {r:Rc} {n:Int} (h:JOK S J) (hl:LiveJ UJn S') (hr:∃ t,get kJ S'.seen=some t∧get nmJ t.attr=some (recB r)) (hs:∀ k,k≠kJ→get k S'.seen=get k S.seen)
  (ok:r.Ok) (e1:r.shape=J.r.shape) (e2:r.first=J.r.first) (e3:r.set=J.r.set) (ht:∀ e ∈ J.l,tagOf r.tags e.seq=tagOf J.r.tags e.seq) (hn:0≤n∧n≤3299023255552):JOK S' { J with r:=r,safe:=n }:=by
 refine ⟨hl,ok,?_,?_,?_,?_,hr,?_,h.dead,hn⟩
 ·show r.set+_≤_∧_
  rw [e3];exact h.small
 ·show runs J.l r.first
  rw [e2];exact h.run
 ·intro e he
  obtain ⟨h1,h2,h3⟩:=h.ents e he
  exact ⟨h1,h2,h3.trans (ht e he).symm⟩
 ·show laid r.shape r.set J.l J.at_ ⟨r.set,0,0,0,0⟩ J.fill
  rw [e1,e3];exact h.lay
 ·intro k hk
  have:rowsJ { J with r:=r,safe:=n }=rowsJ J:=by unfold rowsJ;show Zq235 r.shape _ _ _=_;rw [e1]
  rw [this,hs k hk]
  exact h.rows k hk
theorem run_seq:∀ {es:List En} {s:Int} {e:En},runs es s→e ∈ es→s≤e.seq∧e.seq<s+es.length
 | [],_,_,_,h=>by cases h
 | x::es,s,e,h,he=>by
  obtain ⟨h1,h2⟩:=h
  rcases List.mem_cons.1 he with rfl|he
  ·simp only [List.length_cons];omega
  ·have:=run_seq h2 he
   simp only [List.length_cons];omega
theorem Zq419 {l:List Tag} (h:Zq98 l l.length=true):∀ (j:Nat) (t:Tag),l[j]?=some t→∀ (i:Nat) (x:Tag),l[i]?=some x→i≤j→x.at_≤t.at_
 | 0,t,ht,i,x,hx,hi=>by
  obtain rfl:i=0:=by omega
  rw [ht] at hx
  cases hx
  exact Int.le_refl _
 | j+1,t,ht,i,x,hx,hi=>by
  by_cases q:i=j+1
  ·subst q
   rw [ht] at hx
   cases hx
   exact Int.le_refl _
  have hj:j+1<l.length:=(List.getElem?_eq_some_iff.1 ht).1
  have hy:l[j]?=some l[j]:=List.getElem?_eq_getElem (by omega)
  have h1:=Zq419 h j _ hy i x hx (by omega)
  have h2:=Zq172 h (show j+1+1≤l.length by omega)
  rw [Zq85 ht (Zq172 h (by omega))] at h2
  unfold tagOk at h2
  simp only [Bool.and_eq_true,decide_eq_true_eq] at h2
  have h3:=h2.2
  unfold Zq89 at h3
  have h4:=h3.2.1
  rw [Zq249 hy,Zq221] at h4
  omega
theorem Zq465 {a:List Tag} {s:Int}:∀ {b:List Tag},(∀ t ∈ b,s≤t.at_)→tagOf (a++b) s=tagOf a s:=by
 intro b
 induction b generalizing a with
 | nil=>intro _;rw [List.append_nil]
 | cons t b ih =>
  intro h
  have e:a++t::b=(a++[t])++b:=by simp
  have:=h t (List.mem_cons_self ..)
  rw [e,ih fun x hx=>h x (List.mem_cons_of_mem _ hx),Zq395,if_neg (by omega)]
theorem Zq355 {l:List Tag} (h:∀ (j:Nat) (t:Tag),l[j]?=some t→∀ (i:Nat) (x:Tag),l[i]?=some x→i≤j→x.at_≤t.at_) {e:Int}:∀ t ∈ l.dropWhile (fun t=>decide (t.at_≤e)),e<t.at_:=by
 induction l with
 | nil=>intro t ht;simp at ht
 | cons a l ih =>
  intro t ht
  rw [List.dropWhile_cons] at ht
  by_cases q:a.at_≤e
  ·rw [if_pos (decide_eq_true q)] at ht
   exact ih (fun j t ht i x hx hij=>h (j+1) t (by simpa using ht) (i+1) x (by simpa using hx) (by omega)) t ht
  ·rw [if_neg (by simpa using q)] at ht
   obtain ⟨j,hj⟩:=List.getElem?_of_mem ht
   have:=h j t hj 0 a (by simp) (by omega)
   omega
theorem Zq518 {l:List Tag} (h:Zq43 l=true) {e s:Int} (hs:s≤e+1):tagOf (Zq36 l e) s=tagOf l s:=by
 unfold Zq43 at h
 simp only [Bool.and_eq_true] at h
 have h1:=Zq355 (Zq419 h.2) (e:=e)
 have e1:=List.takeWhile_append_dropWhile (p:=fun t:Tag=>decide (t.at_≤e)) (l:=l)
 unfold Zq36
 conv=>rhs;rw [←e1]
 refine (Zq465 fun t ht=>?_).symm
 have:=h1 t ht
 omega
def Zq66 (J:Jn):Jn:={ J with r:=Zq102 J.r (endJ J),safe:=endJ J }
theorem JOK.ends {S:Str} {J:Jn} (h:JOK S J):0≤endJ J∧endJ J≤3299023255552:=by
 have h1:=h.ok.first
 have h2:=h.small
 unfold endJ
 omega
theorem JOK.open_calm {S:Str} {J:Jn} (h:JOK S J) (ha:S.armed=false):∃ S',openJ S J.r=(0,S',Zq66 J)∧JOK S' (Zq66 J)∧S'.armed=false:=by
 unfold openJ
 rw [h.started]
 have hend:=h.ends
 have htr:trimJ S { J with safe:=0 }=Zq14 S:=h.trim
 have hb:Zq32 S=(false,S):=by simp [Zq32,ha]
 obtain ⟨h0,h1,h2⟩:(Zq14 S).1=0∧LiveJ UJn (Zq14 S).2∧∀ k,get k (Zq14 S).2.seen=get k S.seen:=by
  have e0:(stepE S .bar).1=0:=Zq118 .bar h.live.on h.live.inv.coh (by rw [hb])
  obtain ⟨a,b,_⟩:=Zq242 h.live Zq69 (s:=.bar) trivial e0
  exact ⟨e0,a,fun k=>congrFun b k⟩
 have ha1:(Zq14 S).2.armed=false:=(Zq129 .bar ha h.live.on).1
 obtain ⟨t,ht,hat⟩:=h.rec_
 have ht1:get kJ (Zq14 S).2.seen=some t:=(h2 kJ).trans ht
 have hok:(Zq102 J.r (endJ J)).Ok:=Zq351 h.ok hend.1
 have hpl:=Zq162 h1 ht1 hok
 obtain ⟨h3,h4⟩:=Zq119 Zq69 h1 ha1 (Zq354 (Zq14 S).2 hok)
 rw [←hpl] at h3 h4
 obtain ⟨h5,h6,h7⟩:=Zq669 h1 ht1 hok h3
 refine ⟨(saveJ (Zq14 S).2 (Zq102 J.r (endJ J))).2,?_,?_,h4⟩
 ·unfold mendJ
  rw [htr,if_neg (by simp [h0])]
  have e1:endJ { J with safe:=0 }=endJ J:=rfl
  have e2:({ J with safe:=0 }:Jn).r=J.r:=rfl
  simp only [e1,e2,h3]
  rfl
 ·refine h.recd h5 h6 (fun k hk=>(h7 k hk).trans (h2 k)) hok rfl rfl rfl (fun e he=>?_) hend
  have:=(run_seq h.run he).2
  refine Zq518 h.ok.tags ?_
  unfold endJ
  omega
end Go.Proofs.YtpjchngjhijgmaaGreat
