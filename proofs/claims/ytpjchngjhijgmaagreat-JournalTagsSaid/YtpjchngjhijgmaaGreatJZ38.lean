import Derived.Test.YtpjchngjhijgmaaGreatJZ37
set_option linter.all false
namespace Go.Proofs.YtpjchngjhijgmaaGreat
open Go.RowKit
structure JOK (S:Str) (J:Jn):Prop where
 live:LiveJ UJn S
 ok:J.r.Ok
 small:J.r.set+J.l.length≤1000000∧J.l.length≤100000
 run:runs J.l J.r.first
 ents:∀ e ∈ J.l,e.okB=true∧e.bytes∧e.tag=tagOf J.r.tags e.seq
 lay:laid J.r.shape J.r.set J.l J.at_ (layF J.r) J.fill
 rec_:∃ t,get kJ S.seen=some t∧get nmJ t.attr=some (recB J.r)
 rows:∀ k,k≠kJ→(get k S.seen).map (·.b)=if Zq21 (rowsJ J) k=[] then none else some (Zq21 (rowsJ J) k)
 dead:J.dead=false
 safe:0≤J.safe∧J.safe≤3299023255552
theorem JOK.at {S:Str} {J:Jn} (h:JOK S J):LaidAt J.r.shape J.r.set J.l J.at_ J.fill:=by
 have h1:=h.ok.set
 have h2:=h.small
 exact Zq808 h.ok.shape h.lay h1.1 (by omega)
theorem JOK.jb {S:Str} {J:Jn} (h:JOK S J):JB J:=⟨h.ok,h.small.2,h.at.len,h.at.ok,h.safe⟩
theorem JOK.okB {S:Str} {J:Jn} (h:JOK S J):∀ e ∈ J.l,e.okB=true:=fun e he=>(h.ents e he).1
theorem kJ_ok:kJ.ok=true:=rfl
theorem JOK.jrec {S:Str} {J:Jn} (h:JOK S J):JRec S (some J.r):=by
 obtain ⟨t,h1,h2⟩:=h.rec_
 refine ⟨h.ok,?_⟩
 rw [h.live.attr kJ_ok h1,h2]
theorem JOK.layX {S:Str} {J:Jn} (h:JOK S J):layX J.r J.l=(J.l,J.at_,J.fill):=by
 have h2:=h.small
 exact Zq302 h.lay (by show J.r.set+_≤_;omega)
theorem JOK.inRow {S:Str} {J:Jn} (h:JOK S J) {i:Nat} {e:En} {p:Pl} (he:J.l[i]?=some e) (hp:J.at_[i]?=some p):∃ a b,Zq21 (rowsJ J) (keyOf J.r.shape p)=Zq24 (a++e::b)∧∀ x ∈ a++e::b,x ∈ J.l:=by
 unfold rowsJ
 rw [Zq182]
 have hw:Zq21 ([]:List (K4 × List Int)) (keyOf J.r.shape p)=[]:=by simp [Zq21,get]
 rw [hw,Zl3]
 obtain ⟨L,hL⟩:∃ L,L=(J.l.zip J.at_).filterMap fun x=>if keyOf J.r.shape x.2=keyOf J.r.shape p then some x.1 else none:=⟨_,rfl⟩
 rw [←hL]
 have hm:e ∈ L:=by
  rw [hL,List.mem_filterMap]
  refine ⟨(e,p),?_,by rw [if_pos rfl]⟩
  refine List.mem_of_getElem? (i:=i) ?_
  rw [List.getElem?_zip_eq_some]
  exact ⟨he,hp⟩
 have hs:∀ x ∈ L,x ∈ J.l:=by
  intro x hx
  rw [hL,List.mem_filterMap] at hx
  obtain ⟨y,hy,hy2⟩:=hx
  split at hy2
  ·simp only [Option.some.injEq] at hy2
   rw [←hy2]
   exact (List.of_mem_zip hy).1
  ·cases hy2
 obtain ⟨a,b,hab⟩:=List.append_of_mem hm
 exact ⟨a,b,by rw [hab],fun x hx=>hs x (by rw [hab];exact hx)⟩
theorem JOK.rowEnts {S:Str} {J:Jn} (h:JOK S J) (k:K4):∃ L:List En,Zq21 (rowsJ J) k=Zq24 L∧(∀ x ∈ L,x ∈ J.l)∧(allB (Zq21 (rowsJ J) k)).1=L:=by
 obtain ⟨L,hL⟩:∃ L,L=(J.l.zip J.at_).filterMap fun x=>if keyOf J.r.shape x.2=k then some x.1 else none:=⟨_,rfl⟩
 have hw:Zq21 (rowsJ J) k=Zq24 L:=by
  unfold rowsJ
  rw [Zq182]
  have hw:Zq21 ([]:List (K4 × List Int)) k=[]:=by simp [Zq21,get]
  rw [hw,Zl3,hL]
 have hs:∀ x ∈ L,x ∈ J.l:=by
  intro x hx
  rw [hL,List.mem_filterMap] at hx
  obtain ⟨y,hy,hy2⟩:=hx
  split at hy2
  ·simp only [Option.some.injEq] at hy2
   rw [←hy2]
   exact (List.of_mem_zip hy).1
  ·cases hy2
 exact ⟨L,hw,hs,by rw [hw];exact Zq154 fun x hx=>h.okB x (hs x hx)⟩
theorem JOK.key {S:Str} {J:Jn} (h:JOK S J) {k:K4} (hk:k ∈ Zq20 S ⟨2,0⟩):∃ t,get k S.seen=some t∧t.b=Zq21 (rowsJ J) k∧Zq21 (rowsJ J) k≠[]∧k.ok=true:=by
 obtain ⟨h1,h2⟩:=(h.live.inv.keys.mem _ _).1 hk
 obtain ⟨t,ht⟩:=Option.isSome_iff_exists.1 h2
 have hne:k≠kJ:=fun e=>by
  rw [e] at h1
  have:=congrArg G2.kind h1
  simp [K4.grp,kJ] at this
 have hr:=h.rows k hne
 rw [ht] at hr
 simp only [Option.map_some] at hr
 split at hr
 ·cases hr
 ·rename_i hw
  exact ⟨t,ht,by simpa using hr,hw,(Zq82.all k (h.live.inv.getU ht)).2⟩
theorem JOK.keyMem {S:Str} {J:Jn} (h:JOK S J) {k:K4} (hg:k.grp=⟨2,0⟩) (hw:Zq21 (rowsJ J) k≠[]):k ∈ Zq20 S ⟨2,0⟩:=by
 refine (h.live.inv.keys.mem _ _).2 ⟨hg,?_⟩
 have hne:k≠kJ:=fun e=>by
  rw [e] at hg
  have:=congrArg G2.kind hg
  simp [K4.grp,kJ] at this
 have hr:=h.rows k hne
 rw [if_neg hw] at hr
 cases hs:get k S.seen with
 | none=>rw [hs] at hr;cases hr
 | some t=>rfl
theorem JOK.fix {S:Str} {J:Jn} (h:JOK S J) {k:K4} (hk:k ∈ Zq20 S ⟨2,0⟩):fixS (rowsJ J) k S=(0,S):=by
 obtain ⟨t,ht,hb,hw,hok⟩:=h.key hk
 obtain ⟨h1,_⟩:=h.live.all hok ht
 unfold fixS
 rw [h1]
 simp only
 rw [if_neg (by simp),if_pos ⟨hb,hw⟩]
theorem JOK.fixAll {S:Str} {J:Jn} (h:JOK S J):∀ {ks:List K4},(∀ k ∈ ks,k ∈ Zq20 S ⟨2,0⟩)→fixL (rowsJ J) ks S=Zq16 S
 | [],_=>rfl
 | k::ks,hs=>by
  unfold fixL
  rw [h.fix (hs k (List.mem_cons_self ..)),if_neg (by simp)]
  exact h.fixAll fun k' hk'=>hs k' (List.mem_cons_of_mem _ hk')
theorem JOK.trim {S:Str} {J:Jn} (h:JOK S J):trimJ S J=Zq16 S:=by
 unfold trimJ
 refine h.fixAll fun k hk=>?_
 unfold Zq35 at hk
 rw [if_pos h.live.on] at hk
 exact hk
theorem JOK.readRows {S:Str} {J:Jn} (h:JOK S J):readRows S=(Zq20 S ⟨2,0⟩).map (Zq21 (rowsJ J)):=by
 unfold Go.Proofs.YtpjchngjhijgmaaGreat.readRows Zq35
 rw [if_pos h.live.on]
 refine List.map_congr_left fun k hk=>?_
 obtain ⟨t,ht,hb,hw,hok⟩:=h.key hk
 rw [(h.live.all hok ht).1]
 exact hb
theorem JOK.merged {S:Str} {J:Jn} (h:JOK S J):Zq172 (Go.Proofs.YtpjchngjhijgmaaGreat.readRows S) J.r.first=J.l:=by
 refine Zq437 h.ok.first.1 h.run (fun e he=>?_) fun e he _ _=>?_
 ·obtain ⟨i,hi⟩:=List.getElem?_of_mem he
  have hil:=(List.getElem?_eq_some_iff.1 hi).1
  obtain ⟨p,hp⟩:∃ p,J.at_[i]?=some p:=⟨_,List.getElem?_eq_getElem (by rw [h.at.len];exact hil)⟩
  obtain ⟨a,b,hw,hs⟩:=h.inRow hi hp
  have hne:Zq21 (rowsJ J) (keyOf J.r.shape p)≠[]:=by
   rw [hw]
   intro q
   have:=congrArg List.length q
   rw [Zq38,Zq72,List.length_append,List.length_append,Zq26] at this
   simp at this
  have hk:=h.keyMem (k:=keyOf J.r.shape p) rfl hne
  rw [h.readRows]
  refine List.mem_flatMap.2 ⟨_,List.mem_map.2 ⟨_,hk,rfl⟩,?_⟩
  rw [hw,Zq154 fun x hx=>h.okB x (hs x hx)]
  simp
 ·rw [h.readRows] at he
  obtain ⟨r,hr,her⟩:=List.mem_flatMap.1 he
  obtain ⟨k,hk,rfl⟩:=List.mem_map.1 hr
  obtain ⟨L,_,hs,ha⟩:=h.rowEnts k
  rw [ha] at her
  exact hs e her
theorem Zq305 {ts:List Tag}:∀ {es:List En},(∀ e ∈ es,e.tag=tagOf ts e.seq)→tagged ts es=es
 | [],_=>rfl
 | x::es,h=>by
  unfold tagged
  rw [List.takeWhile_cons,if_pos (decide_eq_true (h x (List.mem_cons_self ..)))]
  have:=Zq305 (ts:=ts) (es:=es) fun e he=>h e (List.mem_cons_of_mem _ he)
  unfold tagged at this
  rw [this]
theorem JOK.started {S:Str} {J:Jn} (h:JOK S J):layJ (Zq74 S J.r)={ J with safe:=0 }:=by
 have e1:Zq74 S J.r=⟨J.r,J.l,[],Fl.zero,0,false⟩:=by
  unfold Zq74
  rw [h.merged,Zq305 fun e he=>(h.ents e he).2.2]
 unfold layJ lJ
 rw [e1]
 simp only
 rw [h.layX]
 cases J
 have:=h.dead
 simp only at this
 simp [this]
end Go.Proofs.YtpjchngjhijgmaaGreat
namespace Go.Proofs.YtpjchngjhijgmaaGreat
open Go.RowKit
theorem Zq699 (S:Str) (s:DStep):(stepE S s).1=0∨(stepE S s).1=7:=by
 cases s with
 | deed k d=>exact Zq814 _
 | bar =>
  show (Zq16 S).1=0∨(Zq16 S).1=7
  unfold Zq16
  split
  ·exact .inr rfl
  ·split
   ·exact .inr rfl
   ·exact .inl rfl
theorem Zq387:∀ (l:List DStep) (S:Str),(execS l S).1=0∨(execS l S).1=7
 | [],S=>.inl rfl
 | s::l,S=>by
  show (thenE (stepE S s) (execS l)).1=0∨(thenE (stepE S s) (execS l)).1=7
  unfold thenE
  split
  ·exact Zq387 l _
  ·exact Zq699 S s
def Zq396 (S:Str) (r:Rc):List DStep:=if attrS S kJ nmJ=(recB r,0) then [.bar] else [.deed kJ (setD nmJ (recB r)),.bar]
theorem Zq388 (S:Str) {r:Rc} (hr:r.Ok):∀ s ∈ Zq396 S r,Zq267 UJn s:=by
 intro s hs
 have h1:1≤(recB r).length:=by rw [Zq166];omega
 unfold Zq396 at hs
 split at hs
 ·rw [List.mem_singleton.1 hs];exact trivial
 ·rcases List.mem_cons.1 hs with rfl|hs
  ·exact ⟨Zq589,.inr (.inr (.inr (.inr ⟨rfl,rfl,h1,Zq139 hr⟩)))⟩
  ·rw [List.mem_singleton.1 hs];exact trivial
theorem Zq169 {S:Str} {r:Rc} (h:LiveJ UJn S) {t:TS} (ht:get kJ S.seen=some t) (hr:r.Ok):saveJ S r=execS (Zq396 S r) S:=by
 have h1:1≤(recB r).length:=by rw [Zq166];omega
 have hs:=h.set Zq82 kJ_ok ht h1 (Zq139 hr)
 unfold saveJ Zq396
 by_cases ha:attrS S kJ nmJ=(recB r,0)
 ·rw [if_pos ha,if_pos ha]
  exact (Zq105 .bar S).symm
 ·rw [if_neg ha,if_neg ha,hs]
  show _=thenE (stepE S (.deed kJ (setD nmJ (recB r)))) (execS [.bar])
  unfold thenE
  by_cases h0:(stepE S (.deed kJ (setD nmJ (recB r)))).1=0
  ·rw [if_neg (by simp [h0]),if_pos h0]
   exact (Zq105 .bar _).symm
  ·rw [if_pos h0,if_neg h0]
theorem Zq700 {S:Str} {r:Rc} (h:LiveJ UJn S) {t:TS} (ht:get kJ S.seen=some t) (hr:r.Ok) (h0:(saveJ S r).1=0) :
  LiveJ UJn (saveJ S r).2∧(∃ t',get kJ (saveJ S r).2.seen=some t'∧get nmJ t'.attr=some (recB r))∧∀ k,k≠kJ→get k (saveJ S r).2.seen=get k S.seen:=by
 have h1:1≤(recB r).length:=by rw [Zq166];omega
 have hne:recB r≠[]:=fun q=>by rw [q] at h1;simp at h1
 rw [Zq169 h ht hr] at h0 ⊢
 obtain ⟨h2,h3⟩:=Zq258 Zq82 h (Zq388 S hr) h0
 refine ⟨h2,?_⟩
 have hv:∀ k,get k (execS (Zq396 S r) S).2.seen=Zq29 (Zq396 S r) (Zq103 S) k:=fun k=>congrFun h3 k
 unfold Zq396 at hv ⊢
 by_cases ha:attrS S kJ nmJ=(recB r,0)
 ·rw [if_pos ha] at hv ⊢
  refine ⟨⟨t,(hv kJ).trans ht,?_⟩,fun k _=>hv k⟩
  have h4:=h.attr kJ_ok ht
  rw [ha] at h4
  cases hg:get nmJ t.attr with
  | none=>rw [hg] at h4;simp at h4
  | some v =>
   rw [hg] at h4
   simp only [Prod.mk.injEq,and_true] at h4
   rw [h4]
 ·rw [if_neg ha] at hv ⊢
  have hs:stepD (some t) (setD nmJ (recB r))=some { t with attr:=Zq97 t.attr nmJ (recB r) }:=rfl
  have e1:Zq29 [.deed kJ (setD nmJ (recB r)),.bar] (Zq103 S) kJ=stepD (Zq103 S kJ) (setD nmJ (recB r)):=by simp [Zq29,Zq95]
  have e2:∀ k,k≠kJ→Zq29 [.deed kJ (setD nmJ (recB r)),.bar] (Zq103 S) k=Zq103 S k:=fun k hk=>by simp [Zq29,Zq95,hk]
  have e3:stepD (Zq103 S kJ) (setD nmJ (recB r))=some { t with attr:=Zq97 t.attr nmJ (recB r) }:=by
   rw [show Zq103 S kJ=some t from ht]
   exact hs
  refine ⟨⟨_,(hv kJ).trans (e1.trans e3),?_⟩,fun k hk=>(hv k).trans (e2 k hk)⟩
  ·show get nmJ (Zq97 t.attr nmJ (recB r))=_
   unfold Zq97
   rw [if_neg hne]
   exact Zq54
theorem Zq550 {S:Str} {r:Rc} (h:LiveJ UJn S) {t:TS} (ht:get kJ S.seen=some t) (hr:r.Ok):(saveJ S r).1=0∨(saveJ S r).1=7:=by
 rw [Zq169 h ht hr]
 exact Zq387 _ _
theorem JOK.recd {S S':Str} {J:Jn} {r:Rc} {n:Int} (h:JOK S J) (hl:LiveJ UJn S') (hr:∃ t,get kJ S'.seen=some t∧get nmJ t.attr=some (recB r)) (hs:∀ k,k≠kJ→get k S'.seen=get k S.seen)
  (ok:r.Ok) (e1:r.shape=J.r.shape) (e2:r.first=J.r.first) (e3:r.set=J.r.set) (ht:∀ e ∈ J.l,tagOf r.tags e.seq=tagOf J.r.tags e.seq) (hn:0≤n∧n≤3299023255552):JOK S' { J with r:=r,safe:=n }:=by
 refine ⟨hl,ok,?_,?_,?_,?_,hr,?_,h.dead,hn⟩
 ·show r.set+_≤_∧_
  rw [e3];exact h.small
 ·show runs J.l r.first
  rw [e2];exact h.run
 ·intro e he
  obtain ⟨h1,h2,h3⟩:=h.ents e he
  exact ⟨h1,h2,h3.trans (ht e he).symm⟩
 ·show laid r.shape r.set J.l J.at_ ⟨r.set,0,0,0,0⟩ J.fill
  rw [e1,e3];exact h.lay
 ·intro k hk
  have:rowsJ { J with r:=r,safe:=n }=rowsJ J:=by unfold rowsJ;show Zq247 r.shape _ _ _=_;rw [e1]
  rw [this,hs k hk]
  exact h.rows k hk
theorem run_seq:∀ {es:List En} {s:Int} {e:En},runs es s→e ∈ es→s≤e.seq∧e.seq<s+es.length
 | [],_,_,_,h=>by cases h
 | x::es,s,e,h,he=>by
  obtain ⟨h1,h2⟩:=h
  rcases List.mem_cons.1 he with rfl|he
  ·simp only [List.length_cons];omega
  ·have:=run_seq h2 he
   simp only [List.length_cons];omega
theorem Zq456 {l:List Tag} (h:Zq123 l l.length=true):∀ (j:Nat) (t:Tag),l[j]?=some t→∀ (i:Nat) (x:Tag),l[i]?=some x→i≤j→x.at_≤t.at_
 | 0,t,ht,i,x,hx,hi=>by
  obtain rfl:i=0:=by omega
  rw [ht] at hx
  cases hx
  exact Int.le_refl _
 | j+1,t,ht,i,x,hx,hi=>by
  by_cases q:i=j+1
  ·subst q
   rw [ht] at hx
   cases hx
   exact Int.le_refl _
  have hj:j+1<l.length:=(List.getElem?_eq_some_iff.1 ht).1
  have hy:l[j]?=some l[j]:=List.getElem?_eq_getElem (by omega)
  have h1:=Zq456 h j _ hy i x hx (by omega)
  have h2:=Zq180 h (show j+1+1≤l.length by omega)
  rw [Zq137 ht (Zq180 h (by omega))] at h2
  unfold tagOk at h2
  simp only [Bool.and_eq_true,decide_eq_true_eq] at h2
  have h3:=h2.2
  unfold Zq122 at h3
  have h4:=h3.2.1
  rw [Zq359 hy,Zq321] at h4
  omega
theorem Zq499 {a:List Tag} {s:Int}:∀ {b:List Tag},(∀ t ∈ b,s≤t.at_)→tagOf (a++b) s=tagOf a s:=by
 intro b
 induction b generalizing a with
 | nil=>intro _;rw [List.append_nil]
 | cons t b ih =>
  intro h
  have e:a++t::b=(a++[t])++b:=by simp
  have:=h t (List.mem_cons_self ..)
  rw [e,ih fun x hx=>h x (List.mem_cons_of_mem _ hx),Zq429,if_neg (by omega)]
theorem Zq389 {l:List Tag} (h:∀ (j:Nat) (t:Tag),l[j]?=some t→∀ (i:Nat) (x:Tag),l[i]?=some x→i≤j→x.at_≤t.at_) {e:Int}:∀ t ∈ l.dropWhile (fun t=>decide (t.at_≤e)),e<t.at_:=by
 induction l with
 | nil=>intro t ht;simp at ht
 | cons a l ih =>
  intro t ht
  rw [List.dropWhile_cons] at ht
  by_cases q:a.at_≤e
  ·rw [if_pos (decide_eq_true q)] at ht
   exact ih (fun j t ht i x hx hij=>h (j+1) t (by simpa using ht) (i+1) x (by simpa using hx) (by omega)) t ht
  ·rw [if_neg (by simpa using q)] at ht
   obtain ⟨j,hj⟩:=List.getElem?_of_mem ht
   have:=h j t hj 0 a (by simp) (by omega)
   omega
theorem Zq551 {l:List Tag} (h:Zq70 l=true) {e s:Int} (hs:s≤e+1):tagOf (Zq48 l e) s=tagOf l s:=by
 unfold Zq70 at h
 simp only [Bool.and_eq_true] at h
 have h1:=Zq389 (Zq456 h.2) (e:=e)
 have e1:=List.takeWhile_append_dropWhile (p:=fun t:Tag=>decide (t.at_≤e)) (l:=l)
 unfold Zq48
 conv=>rhs;rw [←e1]
 refine (Zq499 fun t ht=>?_).symm
 have:=h1 t ht
 omega
def Zq40 (J:Jn):Jn:={ J with r:=Zq85 J.r (endJ J),safe:=endJ J }
theorem JOK.ends {S:Str} {J:Jn} (h:JOK S J):0≤endJ J∧endJ J≤3299023255552:=by
 have h1:=h.ok.first
 have h2:=h.small
 unfold endJ
 omega
theorem JOK.open_calm {S:Str} {J:Jn} (h:JOK S J) (ha:S.armed=false):∃ S',openJ S J.r=(0,S',Zq40 J)∧JOK S' (Zq40 J)∧S'.armed=false:=by
 unfold openJ
 rw [h.started]
 have hend:=h.ends
 have htr:trimJ S { J with safe:=0 }=Zq16 S:=h.trim
 have hb:Zq34 S=(false,S):=by simp [Zq34,ha]
 obtain ⟨h0,h1,h2⟩:(Zq16 S).1=0∧LiveJ UJn (Zq16 S).2∧∀ k,get k (Zq16 S).2.seen=get k S.seen:=by
  have e0:(stepE S .bar).1=0:=Zq222 .bar h.live.on h.live.inv.coh (by rw [hb])
  obtain ⟨a,b,_⟩:=Zq347 h.live Zq82 (s:=.bar) trivial e0
  exact ⟨e0,a,fun k=>congrFun b k⟩
 have ha1:(Zq16 S).2.armed=false:=(Zq223 .bar ha h.live.on).1
 obtain ⟨t,ht,hat⟩:=h.rec_
 have ht1:get kJ (Zq16 S).2.seen=some t:=(h2 kJ).trans ht
 have hok:(Zq85 J.r (endJ J)).Ok:=Zq384 h.ok hend.1
 have hpl:=Zq169 h1 ht1 hok
 obtain ⟨h3,h4⟩:=Zq132 Zq82 h1 ha1 (Zq388 (Zq16 S).2 hok)
 rw [←hpl] at h3 h4
 obtain ⟨h5,h6,h7⟩:=Zq700 h1 ht1 hok h3
 refine ⟨(saveJ (Zq16 S).2 (Zq85 J.r (endJ J))).2,?_,?_,h4⟩
 ·unfold mendJ
  rw [htr,if_neg (by simp [h0])]
  have e1:endJ { J with safe:=0 }=endJ J:=rfl
  have e2:({ J with safe:=0 }:Jn).r=J.r:=rfl
  simp only [e1,e2,h3]
  rfl
 ·refine h.recd h5 h6 (fun k hk=>(h7 k hk).trans (h2 k)) hok rfl rfl rfl (fun e he=>?_) hend
  have:=(run_seq h.run he).2
  refine Zq551 h.ok.tags ?_
  unfold endJ
  omega
end Go.Proofs.YtpjchngjhijgmaaGreat
namespace Go.Proofs.YtpjchngjhijgmaaGreat
open Go.RowKit
theorem Zq457 (c:Rg) (p:Pl):∀ (es:List En) (ps:List Pl),(∀ q ∈ ps,keyOf c q=keyOf c p→q=p)→((es.zip ps).filterMap fun x=>if keyOf c x.2=keyOf c p then some x.1 else none)=Zq53 p es ps
 | [],[],_=>rfl
 | [],_::_,_=>rfl
 | _::_,[],_=>rfl
 | e::es,q::ps,h=>by
  have ih:=Zq457 c p es ps fun q hq=>h q (List.mem_cons_of_mem _ hq)
  rw [List.zip_cons_cons,List.filterMap_cons]
  unfold Zq53
  by_cases e1:q=p
  ·subst e1
   simp only [if_true]
   rw [ih]
  ·have:keyOf c q≠keyOf c p:=fun e2=>e1 (h q (List.mem_cons_self ..) e2)
   simp only [this,e1,if_false]
   exact ih
theorem Zq170 (J:Jn) (k:K4):Zq21 (rowsJ J) k=Zq24 ((J.l.zip J.at_).filterMap fun x=>if keyOf J.r.shape x.2=k then some x.1 else none):=by
 unfold rowsJ
 rw [Zq182]
 have hw:Zq21 ([]:List (K4 × List Int)) k=[]:=by simp [Zq21,get]
 rw [hw,Zl3]
theorem JOK.place {S:Str} {J:Jn} (h:JOK S J) {q:Pl} (hq:q ∈ J.at_):J.r.set≤q.set∧q.set<J.r.set+J.r.shape.sets∧q.set≤J.fill.set∧q.set≤1000000000∧0≤q.obj∧q.obj<J.r.shape.splay:=by
 have hA:=h.at
 have hs:=h.small
 obtain ⟨i,hi⟩:=List.getElem?_of_mem hq
 have hil:=(List.getElem?_eq_some_iff.1 hi).1
 have he:J.l[i]?=some (J.l[i]'(by rw [←hA.len];exact hil)):=List.getElem?_eq_getElem _
 obtain ⟨h1,h2,h3⟩:=hA.pl i _ q he hi
 have h4:=hA.inside
 have h5:=hA.from_
 have h6:=Zq447 h.ok.shape (J.l[i]'(by rw [←hA.len];exact hil)).seq
 rw [h3]
 omega
theorem JOK.wantPlace {S:Str} {J:Jn} (h:JOK S J) {p:Pl} (h1:J.r.set≤p.set∧p.set<J.r.set+J.r.shape.sets) (h2:0≤p.obj∧p.obj<J.r.shape.splay):Zq21 (rowsJ J) (keyOf J.r.shape p)=Zq24 (Zq53 p J.l J.at_):=by
 rw [Zq170]
 refine congrArg Zq24 (Zq457 _ _ _ _ fun q hq e=>?_)
 obtain ⟨a,b,c,d,e1,e2⟩:=h.place hq
 have hc:=Rg.ok h.ok.shape
 have hs:=h.small
 have hs0:=h.ok.set
 have e':=congrArg K4.num e
 exact Zq845 h.ok.shape hs0.1 ⟨a,b,d⟩ ⟨e1,e2⟩ ⟨h1.1,h1.2,by omega⟩ h2 e'
theorem Zq852 {c:Rg} {f:Fl} {seq n:Int} (h:(rput c f seq n).1≠Fl.zero):(rput c f seq n).2.2.2=true:=by
 unfold rput at h ⊢
 split
 ·rename_i q
  rw [if_pos q] at h
  exact absurd rfl h
 ·split <;> rfl
theorem JOK.fits {S:Str} {J:Jn} (h:JOK S J) {n:Int} (hf:fitsJ J [n]=true):∃ g p nx,rput J.r.shape J.fill (endJ J+1) n=(g,p,nx,true)∧g.set - J.r.set<J.r.shape.sets:=by
 unfold fitsJ at hf
 unfold Zq393 at hf
 split at hf
 ·cases hf
 ·rename_i h1
  split at hf
  ·cases hf
  ·rename_i h2
   have h3:=Zq852 h1
   refine ⟨_,_,_,Prod.ext rfl (Prod.ext rfl (Prod.ext rfl h3)),?_⟩
   exact (show _ from by omega:(rput J.r.shape J.fill (endJ J+1) n).1.set - J.r.set<J.r.shape.sets)
theorem JOK.appRoom {S:Str} {J:Jn} (h:JOK S J) {n:Int} {g:Fl} {p:Pl} {nx:Bool} (hr:rput J.r.shape J.fill (endJ J+1) n=(g,p,nx,true)) (hin:g.set - J.r.set<J.r.shape.sets) :
  Zq21 (rowsJ J) (keyOf J.r.shape p)=Zq24 (Zq53 p J.l J.at_)∧(Zq21 (rowsJ J) (keyOf J.r.shape p)).length+(22+n)≤J.r.shape.size∧J.r.set≤p.set∧p.set<J.r.set+J.r.shape.sets∧0≤p.obj∧p.obj<J.r.shape.splay:=by
 have hA:=h.at
 have hs:=h.small
 have h5:=hA.from_
 have hst:=Zq181 hr (by omega)
 have hm:=Zq447 h.ok.shape (endJ J+1)
 have hno:=Zq446 (show (rput J.r.shape J.fill (endJ J+1) n).2.2.2=true by rw [hr])
 have hle:=hst.set_le
 have hp:=hst.place
 have hp1:p.set=g.set:=by rw [hp]
 have hp2:p.obj=(endJ J+1) % J.r.shape.splay:=by rw [hp]
 have hw:=h.wantPlace (p:=p) (by omega) (by omega)
 refine ⟨hw,?_,by omega,by omega,by omega,by omega⟩
 rw [hw,Zq235]
 cases nx with
 | false =>
  obtain ⟨e1,e2⟩:=hst.same rfl
  have h6:=e2 ((endJ J+1) % J.r.shape.splay) hm.1 (by omega)
  rw [if_pos rfl] at h6
  have h7:=hA.used ((endJ J+1) % J.r.shape.splay) hm.1 (by omega)
  have h8:=Fl.get_le hst.ok ((endJ J+1) % J.r.shape.splay)
  have e3:p=⟨J.fill.set,(endJ J+1) % J.r.shape.splay⟩:=by rw [hp,e1]
  rw [e3]
  omega
 | true =>
  obtain ⟨e1,e2,e3,e4⟩:=hst.next rfl
  have h6:=e3 ((endJ J+1) % J.r.shape.splay) hm.1 (by omega)
  rw [if_pos rfl] at h6
  have h8:=Fl.get_le hst.ok ((endJ J+1) % J.r.shape.splay)
  have:Zq53 p J.l J.at_=[]:=Zq202 fun q hq e=>by
   have:=(h.place hq).2.2.1
   rw [e] at this
   omega
  rw [this]
  show (0:Int)+_≤_
  omega
theorem Zq779 {J:Jn} (hl:J.at_.length=J.l.length) (e:En) (p:Pl) (g:Fl) (k:K4):Zq21 (rowsJ (addJ J e p g)) k=Zq21 (rowsJ J) k++if keyOf J.r.shape p=k then Zq23 e else []:=by
 rw [Zq170,Zq170]
 show Zq24 (((J.l++[e]).zip (J.at_++[p])).filterMap _)=_
 rw [List.zip_append hl.symm,List.filterMap_append,Zq38]
 congr 1
 by_cases q:keyOf J.r.shape p=k
 ·rw [if_pos q]
  show Zq24 ((([e].zip [p]).filterMap fun x=>if keyOf J.r.shape x.2=k then some x.1 else none))=_
  simp [q,Zq24]
 ·rw [if_neg q]
  show Zq24 ((([e].zip [p]).filterMap fun x=>if keyOf J.r.shape x.2=k then some x.1 else none))=_
  simp [q,Zq24]
theorem Zq853 {c:Rg} {s0:Int} {e:En} {p:Pl} {f g:Fl} {nx:Bool} (h:rput c f e.seq e.data.length=(g,p,nx,true)) (hin:g.set - s0<c.sets):laid c s0 [e] [p] f g:=⟨g,nx,h,hin,rfl⟩
theorem Zq552:∀ {es:List En} {s:Int} {e:En},runs es s→e.seq=s+es.length→runs (es++[e]) s
 | [],s,e,_,he=>⟨by simpa using he,trivial⟩
 | x::es,s,e,h,he=>⟨h.1,Zq552 h.2 (by rw [he];simp only [List.length_cons];omega)⟩
theorem JOK.added {S S':Str} {J:Jn} {e:En} {g:Fl} {p:Pl} {nx:Bool} (h:JOK S J) (hl:LiveJ UJn S') (he:e.okB=true∧e.bytes) (hs:e.seq=endJ J+1) (ht:e.tag=tagOf J.r.tags e.seq)
  (hr:rput J.r.shape J.fill e.seq e.data.length=(g,p,nx,true)) (hin:g.set - J.r.set<J.r.shape.sets) (hn:J.r.set+J.l.length<1000000∧J.l.length<100000)
  (hk:get kJ S'.seen=get kJ S.seen) (hp:(get (keyOf J.r.shape p) S'.seen).map (·.b)=some (Zq21 (rowsJ J) (keyOf J.r.shape p)++Zq23 e)) (ho:∀ k,k≠kJ→k≠keyOf J.r.shape p→get k S'.seen=get k S.seen):JOK S' (addJ J e p g):=by
 have hA:=h.at
 refine ⟨hl,h.ok,?_,?_,?_,?_,?_,?_,h.dead,h.safe⟩
 ·show J.r.set+((J.l++[e]).length:Int)≤_∧(J.l++[e]).length≤_
  rw [List.length_append,List.length_singleton]
  omega
 ·exact Zq552 (s:=J.r.first) h.run (by rw [hs];unfold endJ;omega)
 ·intro x hx
  rcases List.mem_append.1 hx with hx|hx
  ·exact h.ents x hx
  ·rw [List.mem_singleton.1 hx]
   exact ⟨he.1,he.2,ht⟩
 ·exact Zq343 h.lay (Zq853 hr hin)
 ·obtain ⟨t,h1,h2⟩:=h.rec_
  exact ⟨t,hk.trans h1,h2⟩
 ·intro k hne
  rw [Zq779 hA.len]
  by_cases q:keyOf J.r.shape p=k
  ·subst q
   rw [hp,if_pos rfl,if_neg]
   intro q
   have:=congrArg List.length q
   rw [List.length_append,Zq26] at this
   simp at this
  ·rw [if_neg q,List.append_nil,ho k hne fun e=>q e.symm]
   exact h.rows k hne
theorem Zq238 (b p:List Int):layB b b.length p=b++p:=by
 unfold layB
 split
 ·rename_i e;rw [e,List.append_nil]
 ·rw [show b.length+p.length - b.length=p.length by omega,List.take_left',List.drop_of_length_le (by omega),List.append_nil]
  rfl
def appsJ (S:Str) (k:K4) (b:List Int) (fr:List Int):List DStep:=match get k S.seen with
 | none=>[.deed k madeD,.deed k (Zq111 0 fr)]
 | some _=>[.deed k (Zq111 b.length fr)]
theorem Zq701 {S:Str} {k:K4} {b fr:List Int} (hk:k ∈ UJn) (hb:∀ y ∈ fr,isByte y) (hn:b.length+fr.length≤4096):∀ s ∈ appsJ S k b fr,Zq267 UJn s:=by
 intro s hs
 unfold appsJ at hs
 split at hs
 ·rcases List.mem_cons.1 hs with rfl|hs
  ·exact ⟨hk,.inl rfl⟩
  ·rw [List.mem_singleton.1 hs]
   exact ⟨hk,.inr (.inr (.inl ⟨rfl,Int.le_refl 0,by show (0:Int)+(fr.length:Int)≤_;omega,hb⟩))⟩
 ·rw [List.mem_singleton.1 hs]
  exact ⟨hk,.inr (.inr (.inl ⟨rfl,by show (0:Int)≤(b.length:Int);omega,by show (b.length:Int)+(fr.length:Int)≤_;omega,hb⟩))⟩
theorem Zq458 {S:Str} (h:LiveJ UJn S) {k:K4} {b fr:List Int} (hk:k ∈ UJn) (hs:(get k S.seen).map (·.b)=if b=[] then none else some b) (hn:b.length+fr.length≤4096) :
  execS (appsJ S k b fr) S=if (madeS S k).1≠0 then madeS S k else Zq50 (madeS S k).2 k fr:=by
 have hok:=(Zq82.all k hk).2
 unfold appsJ
 cases hg:get k S.seen with
 | none =>
  have hw:whyS S k=4:=by rw [h.why hok,hg];rfl
  have hm:=h.make Zq82 hok hg
  have hmd:madeS S k=stepE S (.deed k madeD):=by
   unfold madeS
   rw [hw,if_pos (by omega),hm]
  rw [hmd]
  show thenE (stepE S (.deed k madeD)) (execS [.deed k (Zq111 0 fr)])=_
  unfold thenE
  by_cases h0:(stepE S (.deed k madeD)).1=0
  ·rw [if_pos h0,if_neg (by simp [h0]),Zq105]
   obtain ⟨h1,h2⟩:=Zq455 h Zq82 hk (.inl rfl) h0
   have h3:=h2 k
   rw [if_pos rfl,hg] at h3
   have h4:get k (stepE S (.deed k madeD)).2.seen=some ⟨[],[]⟩:=h3
   exact (h1.append Zq82 hok h4 (p:=fr) (by show 0+_≤_;omega)).symm
  ·rw [if_neg h0,if_pos h0]
 | some t =>
  rw [hg] at hs
  simp only [Option.map_some] at hs
  have hb:t.b=b:=by
   split at hs
   ·cases hs
   ·simpa using hs
  have hw:whyS S k=0:=by rw [h.why hok,hg];rfl
  have hmd:madeS S k=(0,S):=by
   unfold madeS
   rw [hw,if_neg (by omega)]
  rw [hmd]
  simp only
  rw [if_neg (by omega),Zq105,h.append Zq82 hok hg (p:=fr) (by rw [hb];omega),hb]
theorem Zq702 {S:Str} (h:LiveJ UJn S) {k:K4} {b fr:List Int} (hk:k ∈ UJn) (hs:(get k S.seen).map (·.b)=if b=[] then none else some b) (hb:∀ y ∈ fr,isByte y) (hn:b.length+fr.length≤4096) (h0:(execS (appsJ S k b fr) S).1=0) :
  LiveJ UJn (execS (appsJ S k b fr) S).2∧(get k (execS (appsJ S k b fr) S).2.seen).map (·.b)=some (b++fr)∧∀ k',k'≠k→get k' (execS (appsJ S k b fr) S).2.seen=get k' S.seen:=by
 obtain ⟨h2,h3⟩:=Zq258 Zq82 h (Zq701 hk hb hn) h0
 have hv:∀ k',get k' (execS (appsJ S k b fr) S).2.seen=Zq29 (appsJ S k b fr) (Zq103 S) k':=fun k'=>congrFun h3 k'
 refine ⟨h2,?_,fun k' hk'=>?_⟩
 ·rw [hv k]
  unfold appsJ
  cases hg:get k S.seen with
  | none =>
   rw [hg] at hs
   have he:b=[]:=by
    by_cases q:b=[]
    ·exact q
    ·rw [if_neg q] at hs;cases hs
   subst he
   simp only [Zq29,Zq95,if_true]
   show some (layB [] 0 fr)=_
   exact congrArg some (Zq238 [] fr)
  | some t =>
   rw [hg] at hs
   simp only [Option.map_some] at hs
   have hb:t.b=b:=by
    split at hs
    ·cases hs
    ·simpa using hs
   simp only [Zq29,Zq95,if_true]
   rw [show Zq103 S k=some t from hg]
   show some (layB t.b (b.length:Int).toNat fr)=_
   rw [hb,Int.toNat_natCast,Zq238]
 ·rw [hv k']
  unfold appsJ
  split <;> simp [Zq29,Zq95,hk',Zq103]
theorem JOK.append {S:Str} {J:Jn} {d:List Int} (h:JOK S J) (hd:1≤d.length∧d.length≤90) (hb:∀ y ∈ d,isByte y) (hf:fitsJ J [(d.length:Int)]=true) (hn:J.r.set+J.l.length<1000000∧J.l.length<100000) :
  ∃ g p nx,rput J.r.shape J.fill (endJ J+1) d.length=(g,p,nx,true)∧g.set - J.r.set<J.r.shape.sets ∧
   (∀ s ∈ appsJ S (keyOf J.r.shape p) (Zq21 (rowsJ J) (keyOf J.r.shape p)) (Zq23 (newE J d)),Zq267 UJn s) ∧
   Zq44 S J d=(if (execS (appsJ S (keyOf J.r.shape p) (Zq21 (rowsJ J) (keyOf J.r.shape p)) (Zq23 (newE J d))) S).1=0 then ((endJ J+1,0),(execS (appsJ S (keyOf J.r.shape p) (Zq21 (rowsJ J) (keyOf J.r.shape p)) (Zq23 (newE J d))) S).2,addJ J (newE J d) p g)
    else ((0,7),(execS (appsJ S (keyOf J.r.shape p) (Zq21 (rowsJ J) (keyOf J.r.shape p)) (Zq23 (newE J d))) S).2,deadJ J)) ∧
   ((execS (appsJ S (keyOf J.r.shape p) (Zq21 (rowsJ J) (keyOf J.r.shape p)) (Zq23 (newE J d))) S).1=0→JOK (execS (appsJ S (keyOf J.r.shape p) (Zq21 (rowsJ J) (keyOf J.r.shape p)) (Zq23 (newE J d))) S).2 (addJ J (newE J d) p g)):=by
 obtain ⟨g,p,nx,hr,hin⟩:=h.fits hf
 obtain ⟨hw,hroom,hp1,hp2,hp3,hp4⟩:=h.appRoom hr hin
 have hcc:=Rg.ok h.ok.shape
 have hno:=Zq446 (show (rput J.r.shape J.fill (endJ J+1) d.length).2.2.2=true by rw [hr])
 have htag:=Zq694 h.ok.tags (seq:=endJ J+1) hno.2.2.1.1
 have hE:(newE J d).okB=true:=by
  rw [En.okB_iff]
  exact ⟨htag,hno.2.2.1,hd.1,hd.2⟩
 have hlen:(Zq21 (rowsJ J) (keyOf J.r.shape p)).length+(Zq23 (newE J d)).length≤4096:=by
  rw [Zq26]
  show _+(22+d.length)≤_
  omega
 have hkm:=Zq276 h.ok.shape p
 have hfb:=Zq492 (e:=newE J d) hb
 have hrow:=h.rows (keyOf J.r.shape p) Zq157
 have hpl:=Zq458 h.live hkm hrow hlen
 have hoff:=Zq387 (appsJ S (keyOf J.r.shape p) (Zq21 (rowsJ J) (keyOf J.r.shape p)) (Zq23 (newE J d))) S
 refine ⟨g,p,nx,hr,hin,Zq701 hkm hfb hlen,?_,fun h0=>?_⟩
 ·have hmay:mayJ S J=0:=by unfold mayJ;rw [h.dead,h.live.on];simp
  unfold Zq44
  rw [if_neg (by simp [hmay]),if_neg (by omega),if_neg (by simp [hf]),hr]
  simp only
  rw [hpl] at hoff ⊢
  obtain ⟨M,hM⟩:∃ x,x=madeS S (keyOf J.r.shape p):=⟨_,rfl⟩
  rw [←hM] at hoff ⊢
  obtain ⟨A,hA⟩:∃ x,x=Zq50 M.2 (keyOf J.r.shape p) (Zq23 (newE J d)):=⟨_,rfl⟩
  rw [←hA] at hoff ⊢
  by_cases h1:M.1=0
  ·simp only [ne_eq,h1,not_true_eq_false,if_false] at hoff ⊢
   by_cases h2:A.1=0
   ·simp only [h2,not_true_eq_false,if_false,if_true]
   ·rcases hoff with e|e
    ·exact absurd e h2
    ·simp [e,endsJ]
  ·simp only [ne_eq,h1,not_false_eq_true,if_true,if_false] at hoff ⊢
   rcases hoff with e|e
   ·exact e.elim
   ·simp [e,endsJ]
 ·obtain ⟨h1,h2,h3⟩:=Zq702 h.live hkm hrow hfb hlen h0
  exact h.added h1 ⟨hE,hb⟩ rfl rfl hr hin hn (h3 kJ fun e=>Zq157 e.symm) h2 fun k _ hk=>h3 k hk
end Go.Proofs.YtpjchngjhijgmaaGreat
namespace Go.Proofs.YtpjchngjhijgmaaGreat
open Go.RowKit
theorem JOK.may {S:Str} {J:Jn} (h:JOK S J):mayJ S J=0:=by unfold mayJ;rw [h.dead,h.live.on];simp
theorem JOK.may2 {S:Str} {J:Jn} (h:JOK S J):mayJ2 S J=J:=Zq274 h.may
theorem Zq590 (S:Str):(Zq16 S).1=0∨(Zq16 S).1=7:=Zq699 S .bar
theorem JOK.moved {S S':Str} {J:Jn} (h:JOK S J) (hl:LiveJ UJn S') (hs:∀ k,get k S'.seen=get k S.seen) {n:Int} (hn:0≤n∧n≤3299023255552):JOK S' { J with safe:=n }:=by
 obtain ⟨t,h1,h2⟩:=h.rec_
 exact h.recd hl ⟨t,(hs kJ).trans h1,h2⟩ (fun k _=>hs k) h.ok rfl rfl rfl (fun _ _=>rfl) hn
theorem JOK.barrier {S:Str} {J:Jn} (h:JOK S J) (h0:(Zq16 S).1=0):LiveJ UJn (Zq16 S).2∧∀ k,get k (Zq16 S).2.seen=get k S.seen:=by
 obtain ⟨a,b,_⟩:=Zq347 h.live Zq82 (s:=.bar) trivial h0
 exact ⟨a,fun k=>congrFun b k⟩
theorem JOK.flush {S:Str} {J:Jn} (h:JOK S J):Zq471 S J=(if (Zq16 S).1=0 then (0,(Zq16 S).2,safeJ J) else (7,(Zq16 S).2,deadJ J))∧((Zq16 S).1=0→JOK (Zq16 S).2 (safeJ J)):=by
 refine ⟨?_,fun h0=>?_⟩
 ·unfold Zq471
  rw [if_neg (by simp [h.may])]
  rcases Zq590 S with e|e
  ·simp [e]
  ·simp [e,endsJ]
 ·obtain ⟨a,b⟩:=h.barrier h0
  exact h.moved a b h.ends
end Go.Proofs.YtpjchngjhijgmaaGreat
