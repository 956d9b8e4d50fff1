import Derived.Test.YtpjchngjhijgmaaGreatJQ35
set_option linter.all false
namespace Go.Proofs.YtpjchngjhijgmaaGreat
open Go.RowKit
theorem Zq630 (S:Str) (s:DStep):(stepE S s).1=0∨(stepE S s).1=7:=by
 cases s with
 | deed k d=>exact Zq728 _
 | bar =>
  show (Zq9 S).1=0∨(Zq9 S).1=7
  unfold Zq9
  split
  ·exact .inr rfl
  ·split
   ·exact .inr rfl
   ·exact .inl rfl
theorem Zq324:∀ (l:List DStep) (S:Str),(execS l S).1=0∨(execS l S).1=7
 | [],S=>.inl rfl
 | s::l,S=>by
  show (thenE (stepE S s) (execS l)).1=0∨(thenE (stepE S s) (execS l)).1=7
  unfold thenE
  split
  ·exact Zq324 l _
  ·exact Zq630 S s
def Zq401 (S:Str) (r:Rc):List DStep:=if attrS S kJ nmJ=(recB r,0) then [.bar] else [.deed kJ (setD nmJ (recB r)),.bar]
theorem Zq325 (S:Str) {r:Rc} (hr:r.Ok):∀ s ∈ Zq401 S r,Zq216 UJn s:=by
 intro s hs
 have h1:1≤(recB r).length:=by rw [Zq175];omega
 unfold Zq401 at hs
 split at hs
 ·rw [List.mem_singleton.1 hs];exact trivial
 ·rcases List.mem_cons.1 hs with rfl|hs
  ·exact ⟨Zq629,.inr (.inr (.inr (.inr ⟨rfl,rfl,h1,Zq148 hr⟩)))⟩
  ·rw [List.mem_singleton.1 hs];exact trivial
theorem Zq150 {S:Str} {r:Rc} (h:LiveJ UJn S) {t:TS} (ht:get kJ S.seen=some t) (hr:r.Ok):saveJ S r=execS (Zq401 S r) S:=by
 have h1:1≤(recB r).length:=by rw [Zq175];omega
 have hs:=h.set Zq81 kJ_ok ht h1 (Zq148 hr)
 unfold saveJ Zq401
 by_cases ha:attrS S kJ nmJ=(recB r,0)
 ·rw [if_pos ha,if_pos ha]
  exact (Zq112 .bar S).symm
 ·rw [if_neg ha,if_neg ha,hs]
  show _=thenE (stepE S (.deed kJ (setD nmJ (recB r)))) (execS [.bar])
  unfold thenE
  by_cases h0:(stepE S (.deed kJ (setD nmJ (recB r)))).1=0
  ·rw [if_neg (by simp [h0]),if_pos h0]
   exact (Zq112 .bar _).symm
  ·rw [if_pos h0,if_neg h0]
theorem Zq258 {S:Str} {r:Rc} (h:LiveJ UJn S) {t:TS} (ht:get kJ S.seen=some t) (hr:r.Ok) (h0:(saveJ S r).1=0) :
  LiveJ UJn (saveJ S r).2∧(∃ t',get kJ (saveJ S r).2.seen=some t'∧get nmJ t'.attr=some (recB r))∧∀ k,k≠kJ→get k (saveJ S r).2.seen=get k S.seen:=by
 have h1:1≤(recB r).length:=by rw [Zq175];omega
 have hne:recB r≠[]:=fun q=>by rw [q] at h1;simp at h1
 rw [Zq150 h ht hr] at h0 ⊢
 obtain ⟨h2,h3⟩:=Zq223 Zq81 h (Zq325 S hr) h0
 refine ⟨h2,?_⟩
 have hv:∀ k,get k (execS (Zq401 S r) S).2.seen=Zq23 (Zq401 S r) (Zq138 S) k:=fun k=>congrFun h3 k
 unfold Zq401 at hv ⊢
 by_cases ha:attrS S kJ nmJ=(recB r,0)
 ·rw [if_pos ha] at hv ⊢
  refine ⟨⟨t,(hv kJ).trans ht,?_⟩,fun k _=>hv k⟩
  have h4:=h.attr kJ_ok ht
  rw [ha] at h4
  cases hg:get nmJ t.attr with
  | none=>rw [hg] at h4;simp at h4
  | some v =>
   rw [hg] at h4
   simp only [Prod.mk.injEq,and_true] at h4
   rw [h4]
 ·rw [if_neg ha] at hv ⊢
  have hs:stepD (some t) (setD nmJ (recB r))=some { t with attr:=Zq84 t.attr nmJ (recB r) }:=rfl
  have e1:Zq23 [.deed kJ (setD nmJ (recB r)),.bar] (Zq138 S) kJ=stepD (Zq138 S kJ) (setD nmJ (recB r)):=by simp [Zq23,Zq82]
  have e2:∀ k,k≠kJ→Zq23 [.deed kJ (setD nmJ (recB r)),.bar] (Zq138 S) k=Zq138 S k:=fun k hk=>by simp [Zq23,Zq82,hk]
  have e3:stepD (Zq138 S kJ) (setD nmJ (recB r))=some { t with attr:=Zq84 t.attr nmJ (recB r) }:=by
   rw [show Zq138 S kJ=some t from ht]
   exact hs
  refine ⟨⟨_,(hv kJ).trans (e1.trans e3),?_⟩,fun k hk=>(hv k).trans (e2 k hk)⟩
  ·show get nmJ (Zq84 t.attr nmJ (recB r))=_
   unfold Zq84
   rw [if_neg hne]
   exact Zq44
theorem Zq326 {S:Str} {r:Rc} (h:LiveJ UJn S) {t:TS} (ht:get kJ S.seen=some t) (hr:r.Ok):(saveJ S r).1=0∨(saveJ S r).1=7:=by
 rw [Zq150 h ht hr]
 exact Zq324 _ _
theorem JOK.recd {S S':Str} {J:Jn} {r:Rc} {n:Int} (h:JOK S J) (hl:LiveJ UJn S') (hr:∃ t,get kJ S'.seen=some t∧get nmJ t.attr=some (recB r)) (hs:∀ k,k≠kJ→get k S'.seen=get k S.seen)
  (ok:r.Ok) (e1:r.shape=J.r.shape) (e2:r.first=J.r.first) (e3:r.set=J.r.set) (ht:∀ e ∈ J.l,tagOf r.tags e.seq=tagOf J.r.tags e.seq) (hn:0≤n∧n≤3299023255552):JOK S' { J with r:=r,safe:=n }:=by
 refine ⟨hl,ok,?_,?_,?_,?_,hr,?_,h.dead,hn⟩
 ·show r.set+_≤_∧_
  rw [e3];exact h.small
 ·show runs J.l r.first
  rw [e2];exact h.run
 ·intro e he
  obtain ⟨h1,h2,h3⟩:=h.ents e he
  exact ⟨h1,h2,h3.trans (ht e he).symm⟩
 ·show laid r.shape r.set J.l J.at_ ⟨r.set,0,0,0,0⟩ J.fill
  rw [e1,e3];exact h.lay
 ·intro k hk
  have:rowsJ { J with r:=r,safe:=n }=rowsJ J:=by unfold rowsJ;show Zq214 r.shape _ _ _=_;rw [e1]
  rw [this,hs k hk]
  exact h.rows k hk
theorem run_seq:∀ {es:List En} {s:Int} {e:En},runs es s→e ∈ es→s≤e.seq∧e.seq<s+es.length
 | [],_,_,_,h=>by cases h
 | x::es,s,e,h,he=>by
  obtain ⟨h1,h2⟩:=h
  rcases List.mem_cons.1 he with rfl|he
  ·simp only [List.length_cons];omega
  ·have:=run_seq h2 he
   simp only [List.length_cons];omega
theorem Zq386 {l:List Tag} (h:Zq103 l l.length=true):∀ (j:Nat) (t:Tag),l[j]?=some t→∀ (i:Nat) (x:Tag),l[i]?=some x→i≤j→x.at_≤t.at_
 | 0,t,ht,i,x,hx,hi=>by
  obtain rfl:i=0:=by omega
  rw [ht] at hx
  cases hx
  exact Int.le_refl _
 | j+1,t,ht,i,x,hx,hi=>by
  by_cases q:i=j+1
  ·subst q
   rw [ht] at hx
   cases hx
   exact Int.le_refl _
  have hj:j+1<l.length:=(List.getElem?_eq_some_iff.1 ht).1
  have hy:l[j]?=some l[j]:=List.getElem?_eq_getElem (by omega)
  have h1:=Zq386 h j _ hy i x hx (by omega)
  have h2:=Zq158 h (show j+1+1≤l.length by omega)
  rw [Zq117 ht (Zq158 h (by omega))] at h2
  unfold tagOk at h2
  simp only [Bool.and_eq_true,decide_eq_true_eq] at h2
  have h3:=h2.2
  unfold Zq102 at h3
  have h4:=h3.2.1
  rw [Zq299 hy,Zq272] at h4
  omega
theorem Zq434 {a:List Tag} {s:Int}:∀ {b:List Tag},(∀ t ∈ b,s≤t.at_)→tagOf (a++b) s=tagOf a s:=by
 intro b
 induction b generalizing a with
 | nil=>intro _;rw [List.append_nil]
 | cons t b ih =>
  intro h
  have e:a++t::b=(a++[t])++b:=by simp
  have:=h t (List.mem_cons_self ..)
  rw [e,ih fun x hx=>h x (List.mem_cons_of_mem _ hx),Zq360,if_neg (by omega)]
theorem Zq327 {l:List Tag} (h:∀ (j:Nat) (t:Tag),l[j]?=some t→∀ (i:Nat) (x:Tag),l[i]?=some x→i≤j→x.at_≤t.at_) {e:Int}:∀ t ∈ l.dropWhile (fun t=>decide (t.at_≤e)),e<t.at_:=by
 induction l with
 | nil=>intro t ht;simp at ht
 | cons a l ih =>
  intro t ht
  rw [List.dropWhile_cons] at ht
  by_cases q:a.at_≤e
  ·rw [if_pos (decide_eq_true q)] at ht
   exact ih (fun j t ht i x hx hij=>h (j+1) t (by simpa using ht) (i+1) x (by simpa using hx) (by omega)) t ht
  ·rw [if_neg (by simpa using q)] at ht
   obtain ⟨j,hj⟩:=List.getElem?_of_mem ht
   have:=h j t hj 0 a (by simp) (by omega)
   omega
theorem Zq699 {l:List Tag} (h:Zq58 l=true) {e s:Int} (hs:s≤e+1):tagOf (Zq43 l e) s=tagOf l s:=by
 unfold Zq58 at h
 simp only [Bool.and_eq_true] at h
 have h1:=Zq327 (Zq386 h.2) (e:=e)
 have e1:=List.takeWhile_append_dropWhile (p:=fun t:Tag=>decide (t.at_≤e)) (l:=l)
 unfold Zq43
 conv=>rhs;rw [←e1]
 refine (Zq434 fun t ht=>?_).symm
 have:=h1 t ht
 omega
def Zq64 (J:Jn):Jn:={ J with r:=Zq164 J.r (endJ J),safe:=endJ J }
theorem JOK.ends {S:Str} {J:Jn} (h:JOK S J):0≤endJ J∧endJ J≤3299023255552:=by
 have h1:=h.ok.first
 have h2:=h.small
 unfold endJ
 omega
theorem JOK.open_calm {S:Str} {J:Jn} (h:JOK S J) (ha:S.armed=false):∃ S',openJ S J.r=(0,S',Zq64 J)∧JOK S' (Zq64 J)∧S'.armed=false:=by
 unfold openJ
 rw [h.started]
 have hend:=h.ends
 have htr:trimJ S { J with safe:=0 }=Zq9 S:=h.trim
 have hb:Zq34 S=(false,S):=by simp [Zq34,ha]
 obtain ⟨h0,h1,h2⟩:(Zq9 S).1=0∧LiveJ UJn (Zq9 S).2∧∀ k,get k (Zq9 S).2.seen=get k S.seen:=by
  have e0:(stepE S .bar).1=0:=Zq237 .bar h.live.on h.live.inv.coh (by rw [hb])
  obtain ⟨a,b,_⟩:=Zq382 h.live Zq81 (s:=.bar) trivial e0
  exact ⟨e0,a,fun k=>congrFun b k⟩
 have ha1:(Zq9 S).2.armed=false:=(Zq384 .bar ha h.live.on).1
 obtain ⟨t,ht,hat⟩:=h.rec_
 have ht1:get kJ (Zq9 S).2.seen=some t:=(h2 kJ).trans ht
 have hok:(Zq164 J.r (endJ J)).Ok:=Zq474 h.ok hend.1
 have hpl:=Zq150 h1 ht1 hok
 obtain ⟨h3,h4⟩:=Zq137 Zq81 h1 ha1 (Zq325 (Zq9 S).2 hok)
 rw [←hpl] at h3 h4
 obtain ⟨h5,h6,h7⟩:=Zq258 h1 ht1 hok h3
 refine ⟨(saveJ (Zq9 S).2 (Zq164 J.r (endJ J))).2,?_,?_,h4⟩
 ·unfold mendJ
  rw [htr,if_neg (by simp [h0])]
  have e1:endJ { J with safe:=0 }=endJ J:=rfl
  have e2:({ J with safe:=0 }:Jn).r=J.r:=rfl
  simp only [e1,e2,h3]
  rfl
 ·refine h.recd h5 h6 (fun k hk=>(h7 k hk).trans (h2 k)) hok rfl rfl rfl (fun e he=>?_) hend
  have:=(run_seq h.run he).2
  refine Zq699 h.ok.tags ?_
  unfold endJ
  omega
end Go.Proofs.YtpjchngjhijgmaaGreat
namespace Go.Proofs.YtpjchngjhijgmaaGreat
open Go.RowKit
theorem Zq387 (c:Rg) (p:Pl):∀ (es:List En) (ps:List Pl),(∀ q ∈ ps,keyOf c q=keyOf c p→q=p)→((es.zip ps).filterMap fun x=>if keyOf c x.2=keyOf c p then some x.1 else none)=Zq86 p es ps
 | [],[],_=>rfl
 | [],_::_,_=>rfl
 | _::_,[],_=>rfl
 | e::es,q::ps,h=>by
  have ih:=Zq387 c p es ps fun q hq=>h q (List.mem_cons_of_mem _ hq)
  rw [List.zip_cons_cons,List.filterMap_cons]
  unfold Zq86
  by_cases e1:q=p
  ·subst e1
   simp only [if_true]
   rw [ih]
  ·have:keyOf c q≠keyOf c p:=fun e2=>e1 (h q (List.mem_cons_self ..) e2)
   simp only [this,e1,if_false]
   exact ih
theorem Zq120 (J:Jn) (k:K4):Zq12 (rowsJ J) k=Zq36 ((J.l.zip J.at_).filterMap fun x=>if keyOf J.r.shape x.2=k then some x.1 else none):=by
 unfold rowsJ
 rw [Zq159]
 have hw:Zq12 ([]:List (K4 × List Int)) k=[]:=by simp [Zq12,get]
 rw [hw,Zl3]
theorem JOK.place {S:Str} {J:Jn} (h:JOK S J) {q:Pl} (hq:q ∈ J.at_):J.r.set≤q.set∧q.set<J.r.set+J.r.shape.sets∧q.set≤J.fill.set∧q.set≤1000000000∧0≤q.obj∧q.obj<J.r.shape.splay:=by
 have hA:=h.at
 have hs:=h.small
 obtain ⟨i,hi⟩:=List.getElem?_of_mem hq
 have hil:=(List.getElem?_eq_some_iff.1 hi).1
 have he:J.l[i]?=some (J.l[i]'(by rw [←hA.len];exact hil)):=List.getElem?_eq_getElem _
 obtain ⟨h1,h2,h3⟩:=hA.pl i _ q he hi
 have h4:=hA.inside
 have h5:=hA.from_
 have h6:=Zq475 h.ok.shape (J.l[i]'(by rw [←hA.len];exact hil)).seq
 rw [h3]
 omega
theorem JOK.wantPlace {S:Str} {J:Jn} (h:JOK S J) {p:Pl} (h1:J.r.set≤p.set∧p.set<J.r.set+J.r.shape.sets) (h2:0≤p.obj∧p.obj<J.r.shape.splay):Zq12 (rowsJ J) (keyOf J.r.shape p)=Zq36 (Zq86 p J.l J.at_):=by
 rw [Zq120]
 refine congrArg Zq36 (Zq387 _ _ _ _ fun q hq e=>?_)
 obtain ⟨a,b,c,d,e1,e2⟩:=h.place hq
 have hc:=Rg.ok h.ok.shape
 have hs:=h.small
 have hs0:=h.ok.set
 have e':=congrArg K4.num e
 exact Zq619 h.ok.shape hs0.1 ⟨a,b,d⟩ ⟨e1,e2⟩ ⟨h1.1,h1.2,by omega⟩ h2 e'
theorem Zq771 {c:Rg} {f:Fl} {seq n:Int} (h:(rput c f seq n).1≠Fl.zero):(rput c f seq n).2.2.2=true:=by
 unfold rput at h ⊢
 split
 ·rename_i q
  rw [if_pos q] at h
  exact absurd rfl h
 ·split <;> rfl
theorem JOK.fits {S:Str} {J:Jn} (h:JOK S J) {n:Int} (hf:fitsJ J [n]=true):∃ g p nx,rput J.r.shape J.fill (endJ J+1) n=(g,p,nx,true)∧g.set - J.r.set<J.r.shape.sets:=by
 unfold fitsJ at hf
 unfold Zq262 at hf
 split at hf
 ·cases hf
 ·rename_i h1
  split at hf
  ·cases hf
  ·rename_i h2
   have h3:=Zq771 h1
   refine ⟨_,_,_,Prod.ext rfl (Prod.ext rfl (Prod.ext rfl h3)),?_⟩
   exact (show _ from by omega:(rput J.r.shape J.fill (endJ J+1) n).1.set - J.r.set<J.r.shape.sets)
theorem JOK.appRoom {S:Str} {J:Jn} (h:JOK S J) {n:Int} {g:Fl} {p:Pl} {nx:Bool} (hr:rput J.r.shape J.fill (endJ J+1) n=(g,p,nx,true)) (hin:g.set - J.r.set<J.r.shape.sets) :
  Zq12 (rowsJ J) (keyOf J.r.shape p)=Zq36 (Zq86 p J.l J.at_)∧(Zq12 (rowsJ J) (keyOf J.r.shape p)).length+(22+n)≤J.r.shape.size∧J.r.set≤p.set∧p.set<J.r.set+J.r.shape.sets∧0≤p.obj∧p.obj<J.r.shape.splay:=by
 have hA:=h.at
 have hs:=h.small
 have h5:=hA.from_
 have hst:=Zq72 hr (by omega)
 have hm:=Zq475 h.ok.shape (endJ J+1)
 have hno:=Zq288 (show (rput J.r.shape J.fill (endJ J+1) n).2.2.2=true by rw [hr])
 have hle:=hst.set_le
 have hp:=hst.place
 have hp1:p.set=g.set:=by rw [hp]
 have hp2:p.obj=(endJ J+1) % J.r.shape.splay:=by rw [hp]
 have hw:=h.wantPlace (p:=p) (by omega) (by omega)
 refine ⟨hw,?_,by omega,by omega,by omega,by omega⟩
 rw [hw,Zq525]
 cases nx with
 | false =>
  obtain ⟨e1,e2⟩:=hst.same rfl
  have h6:=e2 ((endJ J+1) % J.r.shape.splay) hm.1 (by omega)
  rw [if_pos rfl] at h6
  have h7:=hA.used ((endJ J+1) % J.r.shape.splay) hm.1 (by omega)
  have h8:=Fl.get_le hst.ok ((endJ J+1) % J.r.shape.splay)
  have e3:p=⟨J.fill.set,(endJ J+1) % J.r.shape.splay⟩:=by rw [hp,e1]
  rw [e3]
  omega
 | true =>
  obtain ⟨e1,e2,e3,e4⟩:=hst.next rfl
  have h6:=e3 ((endJ J+1) % J.r.shape.splay) hm.1 (by omega)
  rw [if_pos rfl] at h6
  have h8:=Fl.get_le hst.ok ((endJ J+1) % J.r.shape.splay)
  have:Zq86 p J.l J.at_=[]:=Zq179 fun q hq e=>by
   have:=(h.place hq).2.2.1
   rw [e] at this
   omega
  rw [this]
  show (0:Int)+_≤_
  omega
theorem Zq700 {J:Jn} (hl:J.at_.length=J.l.length) (e:En) (p:Pl) (g:Fl) (k:K4):Zq12 (rowsJ (addJ J e p g)) k=Zq12 (rowsJ J) k++if keyOf J.r.shape p=k then Zq46 e else []:=by
 rw [Zq120,Zq120]
 show Zq36 (((J.l++[e]).zip (J.at_++[p])).filterMap _)=_
 rw [List.zip_append hl.symm,List.filterMap_append,Zq196]
 congr 1
 by_cases q:keyOf J.r.shape p=k
 ·rw [if_pos q]
  show Zq36 ((([e].zip [p]).filterMap fun x=>if keyOf J.r.shape x.2=k then some x.1 else none))=_
  simp [q,Zq36]
 ·rw [if_neg q]
  show Zq36 ((([e].zip [p]).filterMap fun x=>if keyOf J.r.shape x.2=k then some x.1 else none))=_
  simp [q,Zq36]
theorem Zq772 {c:Rg} {s0:Int} {e:En} {p:Pl} {f g:Fl} {nx:Bool} (h:rput c f e.seq e.data.length=(g,p,nx,true)) (hin:g.set - s0<c.sets):laid c s0 [e] [p] f g:=⟨g,nx,h,hin,rfl⟩
theorem Zq481:∀ {es:List En} {s:Int} {e:En},runs es s→e.seq=s+es.length→runs (es++[e]) s
 | [],s,e,_,he=>⟨by simpa using he,trivial⟩
 | x::es,s,e,h,he=>⟨h.1,Zq481 h.2 (by rw [he];simp only [List.length_cons];omega)⟩
theorem JOK.added {S S':Str} {J:Jn} {e:En} {g:Fl} {p:Pl} {nx:Bool} (h:JOK S J) (hl:LiveJ UJn S') (he:e.okB=true∧e.bytes) (hs:e.seq=endJ J+1) (ht:e.tag=tagOf J.r.tags e.seq)
  (hr:rput J.r.shape J.fill e.seq e.data.length=(g,p,nx,true)) (hin:g.set - J.r.set<J.r.shape.sets) (hn:J.r.set+J.l.length<1000000∧J.l.length<100000)
  (hk:get kJ S'.seen=get kJ S.seen) (hp:(get (keyOf J.r.shape p) S'.seen).map (·.b)=some (Zq12 (rowsJ J) (keyOf J.r.shape p)++Zq46 e)) (ho:∀ k,k≠kJ→k≠keyOf J.r.shape p→get k S'.seen=get k S.seen):JOK S' (addJ J e p g):=by
 have hA:=h.at
 refine ⟨hl,h.ok,?_,?_,?_,?_,?_,?_,h.dead,h.safe⟩
 ·show J.r.set+((J.l++[e]).length:Int)≤_∧(J.l++[e]).length≤_
  rw [List.length_append,List.length_singleton]
  omega
 ·exact Zq481 (s:=J.r.first) h.run (by rw [hs];unfold endJ;omega)
 ·intro x hx
  rcases List.mem_append.1 hx with hx|hx
  ·exact h.ents x hx
  ·rw [List.mem_singleton.1 hx]
   exact ⟨he.1,he.2,ht⟩
 ·exact Zq287 h.lay (Zq772 hr hin)
 ·obtain ⟨t,h1,h2⟩:=h.rec_
  exact ⟨t,hk.trans h1,h2⟩
 ·intro k hne
  rw [Zq700 hA.len]
  by_cases q:keyOf J.r.shape p=k
  ·subst q
   rw [hp,if_pos rfl,if_neg]
   intro q
   have:=congrArg List.length q
   rw [List.length_append,Zq33] at this
   simp at this
  ·rw [if_neg q,List.append_nil,ho k hne fun e=>q e.symm]
   exact h.rows k hne
theorem Zq631 (b p:List Int):layB b b.length p=b++p:=by
 unfold layB
 split
 ·rename_i e;rw [e,List.append_nil]
 ·rw [show b.length+p.length - b.length=p.length by omega,List.take_left',List.drop_of_length_le (by omega),List.append_nil]
  rfl
def appsJ (S:Str) (k:K4) (b:List Int) (fr:List Int):List DStep:=match get k S.seen with
 | none=>[.deed k madeD,.deed k (Zq141 0 fr)]
 | some _=>[.deed k (Zq141 b.length fr)]
theorem Zq632 {S:Str} {k:K4} {b fr:List Int} (hk:k ∈ UJn) (hb:∀ y ∈ fr,isByte y) (hn:b.length+fr.length≤4096):∀ s ∈ appsJ S k b fr,Zq216 UJn s:=by
 intro s hs
 unfold appsJ at hs
 split at hs
 ·rcases List.mem_cons.1 hs with rfl|hs
  ·exact ⟨hk,.inl rfl⟩
  ·rw [List.mem_singleton.1 hs]
   exact ⟨hk,.inr (.inr (.inl ⟨rfl,Int.le_refl 0,by show (0:Int)+(fr.length:Int)≤_;omega,hb⟩))⟩
 ·rw [List.mem_singleton.1 hs]
  exact ⟨hk,.inr (.inr (.inl ⟨rfl,by show (0:Int)≤(b.length:Int);omega,by show (b.length:Int)+(fr.length:Int)≤_;omega,hb⟩))⟩
theorem Zq388 {S:Str} (h:LiveJ UJn S) {k:K4} {b fr:List Int} (hk:k ∈ UJn) (hs:(get k S.seen).map (·.b)=if b=[] then none else some b) (hn:b.length+fr.length≤4096) :
  execS (appsJ S k b fr) S=if (madeS S k).1≠0 then madeS S k else Zq45 (madeS S k).2 k fr:=by
 have hok:=(Zq81.all k hk).2
 unfold appsJ
 cases hg:get k S.seen with
 | none =>
  have hw:whyS S k=4:=by rw [h.why hok,hg];rfl
  have hm:=h.make Zq81 hok hg
  have hmd:madeS S k=stepE S (.deed k madeD):=by
   unfold madeS
   rw [hw,if_pos (by omega),hm]
  rw [hmd]
  show thenE (stepE S (.deed k madeD)) (execS [.deed k (Zq141 0 fr)])=_
  unfold thenE
  by_cases h0:(stepE S (.deed k madeD)).1=0
  ·rw [if_pos h0,if_neg (by simp [h0]),Zq112]
   obtain ⟨h1,h2⟩:=Zq383 h Zq81 hk (.inl rfl) h0
   have h3:=h2 k
   rw [if_pos rfl,hg] at h3
   have h4:get k (stepE S (.deed k madeD)).2.seen=some ⟨[],[]⟩:=h3
   exact (h1.append Zq81 hok h4 (p:=fr) (by show 0+_≤_;omega)).symm
  ·rw [if_neg h0,if_pos h0]
 | some t =>
  rw [hg] at hs
  simp only [Option.map_some] at hs
  have hb:t.b=b:=by
   split at hs
   ·cases hs
   ·simpa using hs
  have hw:whyS S k=0:=by rw [h.why hok,hg];rfl
  have hmd:madeS S k=(0,S):=by
   unfold madeS
   rw [hw,if_neg (by omega)]
  rw [hmd]
  simp only
  rw [if_neg (by omega),Zq112,h.append Zq81 hok hg (p:=fr) (by rw [hb];omega),hb]
theorem Zq633 {S:Str} (h:LiveJ UJn S) {k:K4} {b fr:List Int} (hk:k ∈ UJn) (hs:(get k S.seen).map (·.b)=if b=[] then none else some b) (hb:∀ y ∈ fr,isByte y) (hn:b.length+fr.length≤4096) (h0:(execS (appsJ S k b fr) S).1=0) :
  LiveJ UJn (execS (appsJ S k b fr) S).2∧(get k (execS (appsJ S k b fr) S).2.seen).map (·.b)=some (b++fr)∧∀ k',k'≠k→get k' (execS (appsJ S k b fr) S).2.seen=get k' S.seen:=by
 obtain ⟨h2,h3⟩:=Zq223 Zq81 h (Zq632 hk hb hn) h0
 have hv:∀ k',get k' (execS (appsJ S k b fr) S).2.seen=Zq23 (appsJ S k b fr) (Zq138 S) k':=fun k'=>congrFun h3 k'
 refine ⟨h2,?_,fun k' hk'=>?_⟩
 ·rw [hv k]
  unfold appsJ
  cases hg:get k S.seen with
  | none =>
   rw [hg] at hs
   have he:b=[]:=by
    by_cases q:b=[]
    ·exact q
    ·rw [if_neg q] at hs;cases hs
   subst he
   simp only [Zq23,Zq82,if_true]
   show some (layB [] 0 fr)=_
   exact congrArg some (Zq631 [] fr)
  | some t =>
   rw [hg] at hs
   simp only [Option.map_some] at hs
   have hb:t.b=b:=by
    split at hs
    ·cases hs
    ·simpa using hs
   simp only [Zq23,Zq82,if_true]
   rw [show Zq138 S k=some t from hg]
   show some (layB t.b (b.length:Int).toNat fr)=_
   rw [hb,Int.toNat_natCast,Zq631]
 ·rw [hv k']
  unfold appsJ
  split <;> simp [Zq23,Zq82,hk',Zq138]
theorem JOK.append {S:Str} {J:Jn} {d:List Int} (h:JOK S J) (hd:1≤d.length∧d.length≤90) (hb:∀ y ∈ d,isByte y) (hf:fitsJ J [(d.length:Int)]=true) (hn:J.r.set+J.l.length<1000000∧J.l.length<100000) :
  ∃ g p nx,rput J.r.shape J.fill (endJ J+1) d.length=(g,p,nx,true)∧g.set - J.r.set<J.r.shape.sets ∧
   (∀ s ∈ appsJ S (keyOf J.r.shape p) (Zq12 (rowsJ J) (keyOf J.r.shape p)) (Zq46 (newE J d)),Zq216 UJn s) ∧
   Zq39 S J d=(if (execS (appsJ S (keyOf J.r.shape p) (Zq12 (rowsJ J) (keyOf J.r.shape p)) (Zq46 (newE J d))) S).1=0 then ((endJ J+1,0),(execS (appsJ S (keyOf J.r.shape p) (Zq12 (rowsJ J) (keyOf J.r.shape p)) (Zq46 (newE J d))) S).2,addJ J (newE J d) p g)
    else ((0,7),(execS (appsJ S (keyOf J.r.shape p) (Zq12 (rowsJ J) (keyOf J.r.shape p)) (Zq46 (newE J d))) S).2,deadJ J)) ∧
   ((execS (appsJ S (keyOf J.r.shape p) (Zq12 (rowsJ J) (keyOf J.r.shape p)) (Zq46 (newE J d))) S).1=0→JOK (execS (appsJ S (keyOf J.r.shape p) (Zq12 (rowsJ J) (keyOf J.r.shape p)) (Zq46 (newE J d))) S).2 (addJ J (newE J d) p g)):=by
 obtain ⟨g,p,nx,hr,hin⟩:=h.fits hf
 obtain ⟨hw,hroom,hp1,hp2,hp3,hp4⟩:=h.appRoom hr hin
 have hcc:=Rg.ok h.ok.shape
 have hno:=Zq288 (show (rput J.r.shape J.fill (endJ J+1) d.length).2.2.2=true by rw [hr])
 have htag:=Zq626 h.ok.tags (seq:=endJ J+1) hno.2.2.1.1
 have hE:(newE J d).okB=true:=by
  rw [En.okB_iff]
  exact ⟨htag,hno.2.2.1,hd.1,hd.2⟩
 have hlen:(Zq12 (rowsJ J) (keyOf J.r.shape p)).length+(Zq46 (newE J d)).length≤4096:=by
  rw [Zq33]
  show _+(22+d.length)≤_
  omega
 have hkm:=Zq323 h.ok.shape p
 have hfb:=Zq424 (e:=newE J d) hb
 have hrow:=h.rows (keyOf J.r.shape p) Zq433
 have hpl:=Zq388 h.live hkm hrow hlen
 have hoff:=Zq324 (appsJ S (keyOf J.r.shape p) (Zq12 (rowsJ J) (keyOf J.r.shape p)) (Zq46 (newE J d))) S
 refine ⟨g,p,nx,hr,hin,Zq632 hkm hfb hlen,?_,fun h0=>?_⟩
 ·have hmay:mayJ S J=0:=by unfold mayJ;rw [h.dead,h.live.on];simp
  unfold Zq39
  rw [if_neg (by simp [hmay]),if_neg (by omega),if_neg (by simp [hf]),hr]
  simp only
  rw [hpl] at hoff ⊢
  obtain ⟨M,hM⟩:∃ x,x=madeS S (keyOf J.r.shape p):=⟨_,rfl⟩
  rw [←hM] at hoff ⊢
  obtain ⟨A,hA⟩:∃ x,x=Zq45 M.2 (keyOf J.r.shape p) (Zq46 (newE J d)):=⟨_,rfl⟩
  rw [←hA] at hoff ⊢
  by_cases h1:M.1=0
  ·simp only [ne_eq,h1,not_true_eq_false,if_false] at hoff ⊢
   by_cases h2:A.1=0
   ·simp only [h2,not_true_eq_false,if_false,if_true]
   ·rcases hoff with e|e
    ·exact absurd e h2
    ·simp [e,endsJ]
  ·simp only [ne_eq,h1,not_false_eq_true,if_true,if_false] at hoff ⊢
   rcases hoff with e|e
   ·exact e.elim
   ·simp [e,endsJ]
 ·obtain ⟨h1,h2,h3⟩:=Zq633 h.live hkm hrow hfb hlen h0
  exact h.added h1 ⟨hE,hb⟩ rfl rfl hr hin hn (h3 kJ fun e=>Zq433 e.symm) h2 fun k _ hk=>h3 k hk
end Go.Proofs.YtpjchngjhijgmaaGreat
namespace Go.Proofs.YtpjchngjhijgmaaGreat
open Go.RowKit
theorem JOK.may {S:Str} {J:Jn} (h:JOK S J):mayJ S J=0:=by unfold mayJ;rw [h.dead,h.live.on];simp
theorem Zq291 (S:Str):(Zq9 S).1=0∨(Zq9 S).1=7:=Zq630 S .bar
theorem JOK.moved {S S':Str} {J:Jn} (h:JOK S J) (hl:LiveJ UJn S') (hs:∀ k,get k S'.seen=get k S.seen) {n:Int} (hn:0≤n∧n≤3299023255552):JOK S' { J with safe:=n }:=by
 obtain ⟨t,h1,h2⟩:=h.rec_
 exact h.recd hl ⟨t,(hs kJ).trans h1,h2⟩ (fun k _=>hs k) h.ok rfl rfl rfl (fun _ _=>rfl) hn
theorem JOK.barrier {S:Str} {J:Jn} (h:JOK S J) (h0:(Zq9 S).1=0):LiveJ UJn (Zq9 S).2∧∀ k,get k (Zq9 S).2.seen=get k S.seen:=by
 obtain ⟨a,b,_⟩:=Zq382 h.live Zq81 (s:=.bar) trivial h0
 exact ⟨a,fun k=>congrFun b k⟩
theorem JOK.flush {S:Str} {J:Jn} (h:JOK S J):Zq399 S J=(if (Zq9 S).1=0 then (0,(Zq9 S).2,safeJ J) else (7,(Zq9 S).2,deadJ J))∧((Zq9 S).1=0→JOK (Zq9 S).2 (safeJ J)):=by
 refine ⟨?_,fun h0=>?_⟩
 ·unfold Zq399
  rw [if_neg (by simp [h.may])]
  rcases Zq291 S with e|e
  ·simp [e]
  ·simp [e,endsJ]
 ·obtain ⟨a,b⟩:=h.barrier h0
  exact h.moved a b h.ends
theorem JOK.keep {S:Str} {J:Jn} {r:Rc} (h:JOK S J) (ok:r.Ok):keepJ S J r=(if (saveJ S r).1=0 then (0,(saveJ S r).2,recJ J r) else (7,(saveJ S r).2,deadJ J)) ∧
  (r.shape=J.r.shape→r.first=J.r.first→r.set=J.r.set→(∀ e ∈ J.l,tagOf r.tags e.seq=tagOf J.r.tags e.seq)→(saveJ S r).1=0→JOK (saveJ S r).2 (recJ J r)):=by
 obtain ⟨t,ht,hat⟩:=h.rec_
 refine ⟨?_,fun e1 e2 e3 e4 h0=>?_⟩
 ·unfold keepJ
  rcases Zq326 h.live ht ok with e|e
  ·simp [e,endsJ]
  ·simp [e,endsJ]
 ·obtain ⟨a,b,c⟩:=Zq258 h.live ht ok h0
  exact h.recd (n:=J.safe) a b c ok e1 e2 e3 e4 h.safe
end Go.Proofs.YtpjchngjhijgmaaGreat
namespace Go.Proofs.YtpjchngjhijgmaaGreat
open Go.RowKit
def Zq125 (ks:List K4):List DStep:=ks.map (fun k=>DStep.deed k goneD)++[.bar]
theorem Zq259 {ks:List K4} (h:∀ k ∈ ks,k ∈ UJn):∀ s ∈ Zq125 ks,Zq216 UJn s:=by
 intro s hs
 rcases List.mem_append.1 hs with hs|hs
 ·obtain ⟨k,hk,rfl⟩:=List.mem_map.1 hs
  exact ⟨h k hk,.inr (.inl rfl)⟩
 ·rw [List.mem_singleton.1 hs];exact trivial
theorem Zq292:∀ {ks:List K4} {S:Str},LiveJ UJn S→ks.Nodup→(∀ k ∈ ks,k ∈ UJn∧(get k S.seen).isSome=true)→Zq228 ks S=execS (Zq125 ks) S
 | [],S,_,_,_=>(Zq112 .bar S).symm
 | k::ks,S,h,hn,hs=>by
  obtain ⟨h1,h2⟩:=hs k (List.mem_cons_self ..)
  have hn':=List.nodup_cons.1 hn
  rw [Zq282,h.drop (Zq81.all k h1).2 h2]
  show _=thenE (stepE S (.deed k goneD)) (execS (Zq125 ks))
  unfold thenE
  by_cases h0:(stepE S (.deed k goneD)).1=0
  ·rw [if_neg (by simp [h0]),if_pos h0]
   obtain ⟨h3,h4⟩:=Zq383 h Zq81 h1 (.inr (.inl rfl)) h0
   refine Zq292 h3 hn'.2 fun k' hk'=>⟨(hs k' (List.mem_cons_of_mem _ hk')).1,?_⟩
   rw [h4 k',if_neg (fun e:k'=k=>hn'.1 (e ▸ hk'))]
   exact (hs k' (List.mem_cons_of_mem _ hk')).2
  ·rw [if_pos h0,if_neg h0]
theorem Zq121 {S:Str} (h:LiveJ UJn S):∀ k ∈ Zq18 S ⟨2,0⟩,k ∈ UJn∧(get k S.seen).isSome=true:=fun k hk=>by
 obtain ⟨_,h2⟩:=(h.inv.keys.mem _ _).1 hk
 obtain ⟨t,ht⟩:=Option.isSome_iff_exists.1 h2
 exact ⟨h.inv.getU ht,h2⟩
theorem Zq293 {S:Str} (h:LiveJ UJn S):Zq67 S=execS (Zq125 (Zq18 S ⟨2,0⟩)) S:=by
 unfold Zq67 Zq28
 rw [if_pos h.on]
 exact Zq292 h (Zq127 (h.inv.keys.rise _)) (Zq121 h)
theorem Zq211:∀ (ks:List K4) (V:K4→Option TS) (k:K4),Zq23 (Zq125 ks) V k=if k ∈ ks then none else V k
 | [],V,k=>by simp [Zq125,Zq23,Zq82]
 | a::ks,V,k=>by
  show Zq23 (Zq125 ks) (Zq82 (.deed a goneD) V) k=_
  rw [Zq211 ks]
  by_cases h:k ∈ ks
  ·rw [if_pos h,if_pos (List.mem_cons_of_mem _ h)]
  ·rw [if_neg h]
   by_cases e:k=a
   ·subst e
    rw [if_pos (List.mem_cons_self ..)]
    show (if k=k then stepD (V k) goneD else V k)=none
    rw [if_pos rfl]
    rfl
   ·rw [if_neg (by simp [e,h])]
    exact if_neg e
theorem Zq816 {S:Str} (h:LiveJ UJn S) {k:K4} (hk:k≠kJ):Zq23 (Zq125 (Zq18 S ⟨2,0⟩)) (Zq138 S) k=none:=by
 rw [Zq211]
 split
 ·rfl
 ·rename_i hn
  cases hg:Zq138 S k with
  | none=>rfl
  | some t =>
   exfalso
   have hU:=h.inv.getU (k:=k) (t:=t) hg
   refine hn ((h.inv.keys.mem _ _).2 ⟨?_,by rw [show get k S.seen=some t from hg];rfl⟩)
   rcases List.mem_cons.1 hU with e|hU
   ·exact absurd e hk
   ·obtain ⟨i,_,rfl⟩:=List.mem_map.1 hU
    rfl
theorem Zq831 {S:Str}:Zq23 (Zq125 (Zq18 S ⟨2,0⟩)) (Zq138 S) kJ=(if kJ ∈ Zq18 S ⟨2,0⟩ then none else get kJ S.seen):=Zq211 _ _ _
def Zq538 (ks:List K4) (r:Rc):List DStep:=Zq125 ks++[.deed kJ madeD,.deed kJ (setD nmJ (recB r)),.bar]
theorem Zq482 {S:Str} (h:LiveJ UJn S) {r:Rc} (hr:r.Ok):∀ s ∈ Zq538 (Zq18 S ⟨2,0⟩) r,Zq216 UJn s:=by
 intro s hs
 have h1:1≤(recB r).length:=by rw [Zq175];omega
 rcases List.mem_append.1 hs with hs|hs
 ·exact Zq259 (fun k hk=>(Zq121 h k hk).1) s hs
 ·simp only [List.mem_cons,List.not_mem_nil,or_false] at hs
  rcases hs with rfl|rfl|rfl
  ·exact ⟨Zq629,.inl rfl⟩
  ·exact ⟨Zq629,.inr (.inr (.inr (.inr ⟨rfl,rfl,h1,Zq148 hr⟩)))⟩
  ·exact trivial
theorem Zq389 {S:Str} {c:Rg} {at':Int} {ts:List Tag} (h:LiveJ UJn S) (hg:goodM c at' ts=true) (hn:get kJ S.seen=none):makeJ S c at' ts false=execS (Zq538 (Zq18 S ⟨2,0⟩) (newR c at' ts)) S:=by
 have hok:=Zq479 hg
 unfold makeJ
 rw [if_neg (by simp [h.on]),if_neg (by simp [hg]),if_neg (by simp),Zq293 h]
 unfold Zq538
 rw [Zq181]
 obtain ⟨X,hX⟩:∃ x,x=execS (Zq125 (Zq18 S ⟨2,0⟩)) S:=⟨_,rfl⟩
 have hXok:=fun h0=>Zq223 Zq81 h (Zq259 fun k hk=>(Zq121 h k hk).1) (show (execS (Zq125 (Zq18 S ⟨2,0⟩)) S).1=0 from h0)
 rw [←hX] at hXok ⊢
 unfold thenE
 by_cases h0:X.1=0
 ·rw [if_neg (by simp [h0]),if_pos h0]
  obtain ⟨h1,h2⟩:=hXok h0
  have h3:get kJ X.2.seen=none:=by
   refine (congrFun h2 kJ).trans (Zq831.trans ?_)
   rw [hn];simp
  rw [h1.make Zq81 kJ_ok h3]
  show _=thenE (stepE X.2 (.deed kJ madeD)) (execS [.deed kJ (setD nmJ (recB (newR c at' ts))),.bar])
  unfold thenE
  by_cases h4:(stepE X.2 (.deed kJ madeD)).1=0
  ·rw [if_neg (by simp [h4]),if_pos h4]
   obtain ⟨h5,h6⟩:=Zq383 h1 Zq81 Zq629 (.inl rfl) h4
   have h7:=h6 kJ
   rw [if_pos rfl,h3] at h7
   have h8:get kJ (stepE X.2 (.deed kJ madeD)).2.seen=some ⟨[],[]⟩:=h7
   rw [Zq150 h5 h8 hok]
   unfold Zq401
   rw [if_neg]
   rw [h5.attr kJ_ok h8]
   simp [get]
  ·rw [if_pos h4,if_neg h4]
 ·rw [if_pos h0,if_neg h0]
def Zq99 (c:Rg) (at':Int) (ts:List Tag):Jn:=⟨newR c at' ts,[],[],layF (newR c at' ts),0,false⟩
theorem Zq773 {S:Str} {c:Rg} {at':Int} {ts:List Tag} (h:LiveJ UJn S) (hg:goodM c at' ts=true) (hn:get kJ S.seen=none) (h0:(makeJ S c at' ts false).1=0):JOK (makeJ S c at' ts false).2 (Zq99 c at' ts):=by
 have hok:=Zq479 hg
 have h1:1≤(recB (newR c at' ts)).length:=by rw [Zq175];omega
 have hne:recB (newR c at' ts)≠[]:=fun q=>by rw [q] at h1;simp at h1
 rw [Zq389 h hg hn] at h0 ⊢
 obtain ⟨h2,h3⟩:=Zq223 Zq81 h (Zq482 h hok) h0
 have hv:∀ k,get k (execS (Zq538 (Zq18 S ⟨2,0⟩) (newR c at' ts)) S).2.seen=Zq23 (Zq538 (Zq18 S ⟨2,0⟩) (newR c at' ts)) (Zq138 S) k:=fun k=>congrFun h3 k
 have hap:∀ (a b:List DStep) (V:K4→Option TS),Zq23 (a++b) V=Zq23 b (Zq23 a V):=fun a=>by
  induction a with
  | nil=>exact fun _ _=>rfl
  | cons s a ih=>exact fun b V=>ih b _
 unfold Zq538 at hv ⊢
 rw [hap] at hv
 refine ⟨h2,hok,?_,trivial,(fun e he=>by cases he),rfl,?_,fun k hk=>?_,rfl,?_⟩
 ·show (0:Int)+((0:Nat):Int)≤_∧0≤_
  omega
 ·refine ⟨⟨[],Zq84 [] nmJ (recB (newR c at' ts))⟩,(hv kJ).trans ?_,?_⟩
  ·simp only [Zq23,Zq82,if_true]
   rfl
  ·show get nmJ (Zq84 [] nmJ (recB (newR c at' ts)))=some (recB (newR c at' ts))
   unfold Zq84
   rw [if_neg hne]
   exact Zq44
 ·have hw:Zq12 (rowsJ (Zq99 c at' ts)) k=[]:=by rw [Zq120];rfl
  rw [hw,if_pos rfl,hv k]
  simp only [Zq23,Zq82,hk,if_false]
  rw [Zq816 h hk]
  rfl
 ·show (0:Int)≤0∧(0:Int)≤3299023255552
  omega
end Go.Proofs.YtpjchngjhijgmaaGreat
