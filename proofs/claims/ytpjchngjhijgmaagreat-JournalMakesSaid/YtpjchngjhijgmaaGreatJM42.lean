import Derived.Test.YtpjchngjhijgmaaGreatJM41
set_option linter.all false
namespace Go.Proofs.YtpjchngjhijgmaaGreat
open Go.RowKit
theorem Zq420 (c:Rg) (p:Pl):∀ (es:List En) (ps:List Pl),(∀ q ∈ ps,keyOf c q=keyOf c p→q=p)→((es.zip ps).filterMap fun x=>if keyOf c x.2=keyOf c p then some x.1 else none)=Zq84 p es ps
 | [],[],_=>rfl
 | [],_::_,_=>rfl
 | _::_,[],_=>rfl
 | e::es,q::ps,h=>by
  have ih:=Zq420 c p es ps fun q hq=>h q (List.mem_cons_of_mem _ hq)
  rw [List.zip_cons_cons,List.filterMap_cons]
  unfold Zq84
  by_cases e1:q=p
  ·subst e1
   simp only [if_true]
   rw [ih]
  ·have:keyOf c q≠keyOf c p:=fun e2=>e1 (h q (List.mem_cons_self ..) e2)
   simp only [this,e1,if_false]
   exact ih
theorem Zq215 (J:Jn) (k:K4):Zq19 (rowsJ J) k=Zq41 ((J.l.zip J.at_).filterMap fun x=>if keyOf J.r.shape x.2=k then some x.1 else none):=by
 unfold rowsJ
 rw [Zq173]
 have hw:Zq19 ([]:List (K4 × List Int)) k=[]:=by simp [Zq19,get]
 rw [hw,Zl3]
theorem JOK.place {S:Str} {J:Jn} (h:JOK S J) {q:Pl} (hq:q ∈ J.at_):J.r.set≤q.set∧q.set<J.r.set+J.r.shape.sets∧q.set≤J.fill.set∧q.set≤1000000000∧0≤q.obj∧q.obj<J.r.shape.splay:=by
 have hA:=h.at
 have hs:=h.small
 obtain ⟨i,hi⟩:=List.getElem?_of_mem hq
 have hil:=(List.getElem?_eq_some_iff.1 hi).1
 have he:J.l[i]?=some (J.l[i]'(by rw [←hA.len];exact hil)):=List.getElem?_eq_getElem _
 obtain ⟨h1,h2,h3⟩:=hA.pl i _ q he hi
 have h4:=hA.inside
 have h5:=hA.from_
 have h6:=Zq510 h.ok.shape (J.l[i]'(by rw [←hA.len];exact hil)).seq
 rw [h3]
 omega
theorem JOK.wantPlace {S:Str} {J:Jn} (h:JOK S J) {p:Pl} (h1:J.r.set≤p.set∧p.set<J.r.set+J.r.shape.sets) (h2:0≤p.obj∧p.obj<J.r.shape.splay):Zq19 (rowsJ J) (keyOf J.r.shape p)=Zq41 (Zq84 p J.l J.at_):=by
 rw [Zq215]
 refine congrArg Zq41 (Zq420 _ _ _ _ fun q hq e=>?_)
 obtain ⟨a,b,c,d,e1,e2⟩:=h.place hq
 have hc:=Rg.ok h.ok.shape
 have hs:=h.small
 have hs0:=h.ok.set
 have e':=congrArg K4.num e
 exact Zq819 h.ok.shape hs0.1 ⟨a,b,d⟩ ⟨e1,e2⟩ ⟨h1.1,h1.2,by omega⟩ h2 e'
theorem Zq826 {c:Rg} {f:Fl} {seq n:Int} (h:(rput c f seq n).1≠Fl.zero):(rput c f seq n).2.2.2=true:=by
 unfold rput at h ⊢
 split
 ·rename_i q
  rw [if_pos q] at h
  exact absurd rfl h
 ·split <;> rfl
theorem JOK.fits {S:Str} {J:Jn} (h:JOK S J) {n:Int} (hf:fitsJ J [n]=true):∃ g p nx,rput J.r.shape J.fill (endJ J+1) n=(g,p,nx,true)∧g.set - J.r.set<J.r.shape.sets:=by
 unfold fitsJ at hf
 unfold Zq430 at hf
 split at hf
 ·cases hf
 ·rename_i h1
  split at hf
  ·cases hf
  ·rename_i h2
   have h3:=Zq826 h1
   refine ⟨_,_,_,Prod.ext rfl (Prod.ext rfl (Prod.ext rfl h3)),?_⟩
   exact (show _ from by omega:(rput J.r.shape J.fill (endJ J+1) n).1.set - J.r.set<J.r.shape.sets)
theorem JOK.appRoom {S:Str} {J:Jn} (h:JOK S J) {n:Int} {g:Fl} {p:Pl} {nx:Bool} (hr:rput J.r.shape J.fill (endJ J+1) n=(g,p,nx,true)) (hin:g.set - J.r.set<J.r.shape.sets) :
  Zq19 (rowsJ J) (keyOf J.r.shape p)=Zq41 (Zq84 p J.l J.at_)∧(Zq19 (rowsJ J) (keyOf J.r.shape p)).length+(22+n)≤J.r.shape.size∧J.r.set≤p.set∧p.set<J.r.set+J.r.shape.sets∧0≤p.obj∧p.obj<J.r.shape.splay:=by
 have hA:=h.at
 have hs:=h.small
 have h5:=hA.from_
 have hst:=Zq211 hr (by omega)
 have hm:=Zq510 h.ok.shape (endJ J+1)
 have hno:=Zq412 (show (rput J.r.shape J.fill (endJ J+1) n).2.2.2=true by rw [hr])
 have hle:=hst.set_le
 have hp:=hst.place
 have hp1:p.set=g.set:=by rw [hp]
 have hp2:p.obj=(endJ J+1) % J.r.shape.splay:=by rw [hp]
 have hw:=h.wantPlace (p:=p) (by omega) (by omega)
 refine ⟨hw,?_,by omega,by omega,by omega,by omega⟩
 rw [hw,Zq559]
 cases nx with
 | false =>
  obtain ⟨e1,e2⟩:=hst.same rfl
  have h6:=e2 ((endJ J+1) % J.r.shape.splay) hm.1 (by omega)
  rw [if_pos rfl] at h6
  have h7:=hA.used ((endJ J+1) % J.r.shape.splay) hm.1 (by omega)
  have h8:=Fl.get_le hst.ok ((endJ J+1) % J.r.shape.splay)
  have e3:p=⟨J.fill.set,(endJ J+1) % J.r.shape.splay⟩:=by rw [hp,e1]
  rw [e3]
  omega
 | true =>
  obtain ⟨e1,e2,e3,e4⟩:=hst.next rfl
  have h6:=e3 ((endJ J+1) % J.r.shape.splay) hm.1 (by omega)
  rw [if_pos rfl] at h6
  have h8:=Fl.get_le hst.ok ((endJ J+1) % J.r.shape.splay)
  have:Zq84 p J.l J.at_=[]:=Zq188 fun q hq e=>by
   have:=(h.place hq).2.2.1
   rw [e] at this
   omega
  rw [this]
  show (0:Int)+_≤_
  omega
theorem Zq751 {J:Jn} (hl:J.at_.length=J.l.length) (e:En) (p:Pl) (g:Fl) (k:K4):Zq19 (rowsJ (addJ J e p g)) k=Zq19 (rowsJ J) k++if keyOf J.r.shape p=k then Zq46 e else []:=by
 rw [Zq215,Zq215]
 show Zq41 (((J.l++[e]).zip (J.at_++[p])).filterMap _)=_
 rw [List.zip_append hl.symm,List.filterMap_append,Zq209]
 congr 1
 by_cases q:keyOf J.r.shape p=k
 ·rw [if_pos q]
  show Zq41 ((([e].zip [p]).filterMap fun x=>if keyOf J.r.shape x.2=k then some x.1 else none))=_
  simp [q,Zq41]
 ·rw [if_neg q]
  show Zq41 ((([e].zip [p]).filterMap fun x=>if keyOf J.r.shape x.2=k then some x.1 else none))=_
  simp [q,Zq41]
theorem Zq827 {c:Rg} {s0:Int} {e:En} {p:Pl} {f g:Fl} {nx:Bool} (h:rput c f e.seq e.data.length=(g,p,nx,true)) (hin:g.set - s0<c.sets):laid c s0 [e] [p] f g:=⟨g,nx,h,hin,rfl⟩
theorem Zq519:∀ {es:List En} {s:Int} {e:En},runs es s→e.seq=s+es.length→runs (es++[e]) s
 | [],s,e,_,he=>⟨by simpa using he,trivial⟩
 | x::es,s,e,h,he=>⟨h.1,Zq519 h.2 (by rw [he];simp only [List.length_cons];omega)⟩
theorem JOK.added {S S':Str} {J:Jn} {e:En} {g:Fl} {p:Pl} {nx:Bool} (h:JOK S J) (hl:LiveJ UJn S') (he:e.okB=true∧e.bytes) (hs:e.seq=endJ J+1) (ht:e.tag=tagOf J.r.tags e.seq)
  (hr:rput J.r.shape J.fill e.seq e.data.length=(g,p,nx,true)) (hin:g.set - J.r.set<J.r.shape.sets) (hn:J.r.set+J.l.length<1000000∧J.l.length<100000)
  (hk:get kJ S'.seen=get kJ S.seen) (hp:(get (keyOf J.r.shape p) S'.seen).map (·.b)=some (Zq19 (rowsJ J) (keyOf J.r.shape p)++Zq46 e)) (ho:∀ k,k≠kJ→k≠keyOf J.r.shape p→get k S'.seen=get k S.seen):JOK S' (addJ J e p g):=by
 have hA:=h.at
 refine ⟨hl,h.ok,?_,?_,?_,?_,?_,?_,h.dead,h.safe⟩
 ·show J.r.set+((J.l++[e]).length:Int)≤_∧(J.l++[e]).length≤_
  rw [List.length_append,List.length_singleton]
  omega
 ·exact Zq519 (s:=J.r.first) h.run (by rw [hs];unfold endJ;omega)
 ·intro x hx
  rcases List.mem_append.1 hx with hx|hx
  ·exact h.ents x hx
  ·rw [List.mem_singleton.1 hx]
   exact ⟨he.1,he.2,ht⟩
 ·exact Zq310 h.lay (Zq827 hr hin)
 ·obtain ⟨t,h1,h2⟩:=h.rec_
  exact ⟨t,hk.trans h1,h2⟩
 ·intro k hne
  rw [Zq751 hA.len]
  by_cases q:keyOf J.r.shape p=k
  ·subst q
   rw [hp,if_pos rfl,if_neg]
   intro q
   have:=congrArg List.length q
   rw [List.length_append,Zq38] at this
   simp at this
  ·rw [if_neg q,List.append_nil,ho k hne fun e=>q e.symm]
   exact h.rows k hne
theorem Zq670 (b p:List Int):layB b b.length p=b++p:=by
 unfold layB
 split
 ·rename_i e;rw [e,List.append_nil]
 ·rw [show b.length+p.length - b.length=p.length by omega,List.take_left',List.drop_of_length_le (by omega),List.append_nil]
  rfl
def appsJ (S:Str) (k:K4) (b:List Int) (fr:List Int):List DStep:=match get k S.seen with
 | none=>[.deed k madeD,.deed k (Zq165 0 fr)]
 | some _=>[.deed k (Zq165 b.length fr)]
theorem Zq671 {S:Str} {k:K4} {b fr:List Int} (hk:k ∈ UJn) (hb:∀ y ∈ fr,isByte y) (hn:b.length+fr.length≤4096):∀ s ∈ appsJ S k b fr,Zq248 UJn s:=by
 intro s hs
 unfold appsJ at hs
 split at hs
 ·rcases List.mem_cons.1 hs with rfl|hs
  ·exact ⟨hk,.inl rfl⟩
  ·rw [List.mem_singleton.1 hs]
   exact ⟨hk,.inr (.inr (.inl ⟨rfl,Int.le_refl 0,by show (0:Int)+(fr.length:Int)≤_;omega,hb⟩))⟩
 ·rw [List.mem_singleton.1 hs]
  exact ⟨hk,.inr (.inr (.inl ⟨rfl,by show (0:Int)≤(b.length:Int);omega,by show (b.length:Int)+(fr.length:Int)≤_;omega,hb⟩))⟩
theorem Zq421 {S:Str} (h:LiveJ UJn S) {k:K4} {b fr:List Int} (hk:k ∈ UJn) (hs:(get k S.seen).map (·.b)=if b=[] then none else some b) (hn:b.length+fr.length≤4096) :
  execS (appsJ S k b fr) S=if (madeS S k).1≠0 then madeS S k else Zq56 (madeS S k).2 k fr:=by
 have hok:=(Zq69.all k hk).2
 unfold appsJ
 cases hg:get k S.seen with
 | none =>
  have hw:whyS S k=4:=by rw [h.why hok,hg];rfl
  have hm:=h.make Zq69 hok hg
  have hmd:madeS S k=stepE S (.deed k madeD):=by
   unfold madeS
   rw [hw,if_pos (by omega),hm]
  rw [hmd]
  show thenE (stepE S (.deed k madeD)) (execS [.deed k (Zq165 0 fr)])=_
  unfold thenE
  by_cases h0:(stepE S (.deed k madeD)).1=0
  ·rw [if_pos h0,if_neg (by simp [h0]),Zq117]
   obtain ⟨h1,h2⟩:=Zq313 h Zq69 hk (.inl rfl) h0
   have h3:=h2 k
   rw [if_pos rfl,hg] at h3
   have h4:get k (stepE S (.deed k madeD)).2.seen=some ⟨[],[]⟩:=h3
   exact (h1.append Zq69 hok h4 (p:=fr) (by show 0+_≤_;omega)).symm
  ·rw [if_neg h0,if_pos h0]
 | some t =>
  rw [hg] at hs
  simp only [Option.map_some] at hs
  have hb:t.b=b:=by
   split at hs
   ·cases hs
   ·simpa using hs
  have hw:whyS S k=0:=by rw [h.why hok,hg];rfl
  have hmd:madeS S k=(0,S):=by
   unfold madeS
   rw [hw,if_neg (by omega)]
  rw [hmd]
  simp only
  rw [if_neg (by omega),Zq117,h.append Zq69 hok hg (p:=fr) (by rw [hb];omega),hb]
theorem Zq672 {S:Str} (h:LiveJ UJn S) {k:K4} {b fr:List Int} (hk:k ∈ UJn) (hs:(get k S.seen).map (·.b)=if b=[] then none else some b) (hb:∀ y ∈ fr,isByte y) (hn:b.length+fr.length≤4096) (h0:(execS (appsJ S k b fr) S).1=0) :
  LiveJ UJn (execS (appsJ S k b fr) S).2∧(get k (execS (appsJ S k b fr) S).2.seen).map (·.b)=some (b++fr)∧∀ k',k'≠k→get k' (execS (appsJ S k b fr) S).2.seen=get k' S.seen:=by
 obtain ⟨h2,h3⟩:=Zq214 Zq69 h (Zq671 hk hb hn) h0
 have hv:∀ k',get k' (execS (appsJ S k b fr) S).2.seen=Zq26 (appsJ S k b fr) (Zq91 S) k':=fun k'=>congrFun h3 k'
 refine ⟨h2,?_,fun k' hk'=>?_⟩
 ·rw [hv k]
  unfold appsJ
  cases hg:get k S.seen with
  | none =>
   rw [hg] at hs
   have he:b=[]:=by
    by_cases q:b=[]
    ·exact q
    ·rw [if_neg q] at hs;cases hs
   subst he
   simp only [Zq26,Zq81,if_true]
   show some (layB [] 0 fr)=_
   exact congrArg some (Zq670 [] fr)
  | some t =>
   rw [hg] at hs
   simp only [Option.map_some] at hs
   have hb:t.b=b:=by
    split at hs
    ·cases hs
    ·simpa using hs
   simp only [Zq26,Zq81,if_true]
   rw [show Zq91 S k=some t from hg]
   show some (layB t.b (b.length:Int).toNat fr)=_
   rw [hb,Int.toNat_natCast,Zq670]
 ·rw [hv k']
  unfold appsJ
  split <;> simp [Zq26,Zq81,hk',Zq91]
theorem JOK.append {S:Str} {J:Jn} {d:List Int} (h:JOK S J) (hd:1≤d.length∧d.length≤90) (hb:∀ y ∈ d,isByte y) (hf:fitsJ J [(d.length:Int)]=true) (hn:J.r.set+J.l.length<1000000∧J.l.length<100000) :
  ∃ g p nx,rput J.r.shape J.fill (endJ J+1) d.length=(g,p,nx,true)∧g.set - J.r.set<J.r.shape.sets ∧
   (∀ s ∈ appsJ S (keyOf J.r.shape p) (Zq19 (rowsJ J) (keyOf J.r.shape p)) (Zq46 (newE J d)),Zq248 UJn s) ∧
   Zq99 S J d=(if (execS (appsJ S (keyOf J.r.shape p) (Zq19 (rowsJ J) (keyOf J.r.shape p)) (Zq46 (newE J d))) S).1=0 then ((endJ J+1,0),(execS (appsJ S (keyOf J.r.shape p) (Zq19 (rowsJ J) (keyOf J.r.shape p)) (Zq46 (newE J d))) S).2,addJ J (newE J d) p g)
    else ((0,7),(execS (appsJ S (keyOf J.r.shape p) (Zq19 (rowsJ J) (keyOf J.r.shape p)) (Zq46 (newE J d))) S).2,deadJ J)) ∧
   ((execS (appsJ S (keyOf J.r.shape p) (Zq19 (rowsJ J) (keyOf J.r.shape p)) (Zq46 (newE J d))) S).1=0→JOK (execS (appsJ S (keyOf J.r.shape p) (Zq19 (rowsJ J) (keyOf J.r.shape p)) (Zq46 (newE J d))) S).2 (addJ J (newE J d) p g)):=by
 obtain ⟨g,p,nx,hr,hin⟩:=h.fits hf
 obtain ⟨hw,hroom,hp1,hp2,hp3,hp4⟩:=h.appRoom hr hin
 have hcc:=Rg.ok h.ok.shape
 have hno:=Zq412 (show (rput J.r.shape J.fill (endJ J+1) d.length).2.2.2=true by rw [hr])
 have htag:=Zq666 h.ok.tags (seq:=endJ J+1) hno.2.2.1.1
 have hE:(newE J d).okB=true:=by
  rw [En.okB_iff]
  exact ⟨htag,hno.2.2.1,hd.1,hd.2⟩
 have hlen:(Zq19 (rowsJ J) (keyOf J.r.shape p)).length+(Zq46 (newE J d)).length≤4096:=by
  rw [Zq38]
  show _+(22+d.length)≤_
  omega
 have hkm:=Zq516 h.ok.shape p
 have hfb:=Zq456 (e:=newE J d) hb
 have hrow:=h.rows (keyOf J.r.shape p) Zq464
 have hpl:=Zq421 h.live hkm hrow hlen
 have hoff:=Zq353 (appsJ S (keyOf J.r.shape p) (Zq19 (rowsJ J) (keyOf J.r.shape p)) (Zq46 (newE J d))) S
 refine ⟨g,p,nx,hr,hin,Zq671 hkm hfb hlen,?_,fun h0=>?_⟩
 ·have hmay:mayJ S J=0:=by unfold mayJ;rw [h.dead,h.live.on];simp
  unfold Zq99
  rw [if_neg (by simp [hmay]),if_neg (by omega),if_neg (by simp [hf]),hr]
  simp only
  rw [hpl] at hoff ⊢
  obtain ⟨M,hM⟩:∃ x,x=madeS S (keyOf J.r.shape p):=⟨_,rfl⟩
  rw [←hM] at hoff ⊢
  obtain ⟨A,hA⟩:∃ x,x=Zq56 M.2 (keyOf J.r.shape p) (Zq46 (newE J d)):=⟨_,rfl⟩
  rw [←hA] at hoff ⊢
  by_cases h1:M.1=0
  ·simp only [ne_eq,h1,not_true_eq_false,if_false] at hoff ⊢
   by_cases h2:A.1=0
   ·simp only [h2,not_true_eq_false,if_false,if_true]
   ·rcases hoff with e|e
    ·exact absurd e h2
    ·simp [e,endsJ]
  ·simp only [ne_eq,h1,not_false_eq_true,if_true,if_false] at hoff ⊢
   rcases hoff with e|e
   ·exact e.elim
   ·simp [e,endsJ]
 ·obtain ⟨h1,h2,h3⟩:=Zq672 h.live hkm hrow hfb hlen h0
  exact h.added h1 ⟨hE,hb⟩ rfl rfl hr hin hn (h3 kJ fun e=>Zq464 e.symm) h2 fun k _ hk=>h3 k hk
end Go.Proofs.YtpjchngjhijgmaaGreat
namespace Go.Proofs.YtpjchngjhijgmaaGreat
open Go.RowKit
theorem JOK.may {S:Str} {J:Jn} (h:JOK S J):mayJ S J=0:=by unfold mayJ;rw [h.dead,h.live.on];simp
theorem JOK.may2 {S:Str} {J:Jn} (h:JOK S J):mayJ2 S J=J:=Zq348 h.may
theorem JOK.moved {S S':Str} {J:Jn} (h:JOK S J) (hl:LiveJ UJn S') (hs:∀ k,get k S'.seen=get k S.seen) {n:Int} (hn:0≤n∧n≤3299023255552):JOK S' { J with safe:=n }:=by
 obtain ⟨t,h1,h2⟩:=h.rec_
 exact h.recd hl ⟨t,(hs kJ).trans h1,h2⟩ (fun k _=>hs k) h.ok rfl rfl rfl (fun _ _=>rfl) hn
theorem JOK.barrier {S:Str} {J:Jn} (h:JOK S J) (h0:(Zq14 S).1=0):LiveJ UJn (Zq14 S).2∧∀ k,get k (Zq14 S).2.seen=get k S.seen:=by
 obtain ⟨a,b,_⟩:=Zq242 h.live Zq69 (s:=.bar) trivial h0
 exact ⟨a,fun k=>congrFun b k⟩
end Go.Proofs.YtpjchngjhijgmaaGreat
namespace Go.Proofs.YtpjchngjhijgmaaGreat
open Go.RowKit
def Zq136 (ks:List K4):List DStep:=ks.map (fun k=>DStep.deed k goneD)++[.bar]
theorem Zq216 {ks:List K4} (h:∀ k ∈ ks,k ∈ UJn):∀ s ∈ Zq136 ks,Zq248 UJn s:=by
 intro s hs
 rcases List.mem_append.1 hs with hs|hs
 ·obtain ⟨k,hk,rfl⟩:=List.mem_map.1 hs
  exact ⟨h k hk,.inr (.inl rfl)⟩
 ·rw [List.mem_singleton.1 hs];exact trivial
theorem Zq314:∀ {ks:List K4} {S:Str},LiveJ UJn S→ks.Nodup→(∀ k ∈ ks,k ∈ UJn∧(get k S.seen).isSome=true)→Zq246 ks S=execS (Zq136 ks) S
 | [],S,_,_,_=>(Zq117 .bar S).symm
 | k::ks,S,h,hn,hs=>by
  obtain ⟨h1,h2⟩:=hs k (List.mem_cons_self ..)
  have hn':=List.nodup_cons.1 hn
  rw [Zq302,h.drop (Zq69.all k h1).2 h2]
  show _=thenE (stepE S (.deed k goneD)) (execS (Zq136 ks))
  unfold thenE
  by_cases h0:(stepE S (.deed k goneD)).1=0
  ·rw [if_neg (by simp [h0]),if_pos h0]
   obtain ⟨h3,h4⟩:=Zq313 h Zq69 h1 (.inr (.inl rfl)) h0
   refine Zq314 h3 hn'.2 fun k' hk'=>⟨(hs k' (List.mem_cons_of_mem _ hk')).1,?_⟩
   rw [h4 k',if_neg (fun e:k'=k=>hn'.1 (e ▸ hk'))]
   exact (hs k' (List.mem_cons_of_mem _ hk')).2
  ·rw [if_pos h0,if_neg h0]
theorem Zq130 {S:Str} (h:LiveJ UJn S):∀ k ∈ Zq18 S ⟨2,0⟩,k ∈ UJn∧(get k S.seen).isSome=true:=fun k hk=>by
 obtain ⟨_,h2⟩:=(h.inv.keys.mem _ _).1 hk
 obtain ⟨t,ht⟩:=Option.isSome_iff_exists.1 h2
 exact ⟨h.inv.getU ht,h2⟩
theorem Zq229 {S:Str} (h:LiveJ UJn S):Zq51 S=execS (Zq136 (Zq18 S ⟨2,0⟩)) S:=by
 unfold Zq51 Zq21
 rw [if_pos h.on]
 exact Zq314 h (Zq139 (h.inv.keys.rise _)) (Zq130 h)
theorem Zq230:∀ (ks:List K4) (V:K4→Option TS) (k:K4),Zq26 (Zq136 ks) V k=if k ∈ ks then none else V k
 | [],V,k=>by simp [Zq136,Zq26,Zq81]
 | a::ks,V,k=>by
  show Zq26 (Zq136 ks) (Zq81 (.deed a goneD) V) k=_
  rw [Zq230 ks]
  by_cases h:k ∈ ks
  ·rw [if_pos h,if_pos (List.mem_cons_of_mem _ h)]
  ·rw [if_neg h]
   by_cases e:k=a
   ·subst e
    rw [if_pos (List.mem_cons_self ..)]
    show (if k=k then stepD (V k) goneD else V k)=none
    rw [if_pos rfl]
    rfl
   ·rw [if_neg (by simp [e,h])]
    exact if_neg e
theorem Zq786 {S:Str} (h:LiveJ UJn S) {k:K4} (hk:k≠kJ):Zq26 (Zq136 (Zq18 S ⟨2,0⟩)) (Zq91 S) k=none:=by
 rw [Zq230]
 split
 ·rfl
 ·rename_i hn
  cases hg:Zq91 S k with
  | none=>rfl
  | some t =>
   exfalso
   have hU:=h.inv.getU (k:=k) (t:=t) hg
   refine hn ((h.inv.keys.mem _ _).2 ⟨?_,by rw [show get k S.seen=some t from hg];rfl⟩)
   rcases List.mem_cons.1 hU with e|hU
   ·exact absurd e hk
   ·obtain ⟨i,_,rfl⟩:=List.mem_map.1 hU
    rfl
theorem Zq890 {S:Str}:Zq26 (Zq136 (Zq18 S ⟨2,0⟩)) (Zq91 S) kJ=(if kJ ∈ Zq18 S ⟨2,0⟩ then none else get kJ S.seen):=Zq230 _ _ _
def Zq574 (ks:List K4) (r:Rc):List DStep:=Zq136 ks++[.deed kJ madeD,.deed kJ (setD nmJ (recB r)),.bar]
theorem Zq520 {S:Str} (h:LiveJ UJn S) {r:Rc} (hr:r.Ok):∀ s ∈ Zq574 (Zq18 S ⟨2,0⟩) r,Zq248 UJn s:=by
 intro s hs
 have h1:1≤(recB r).length:=by rw [Zq160];omega
 rcases List.mem_append.1 hs with hs|hs
 ·exact Zq216 (fun k hk=>(Zq130 h k hk).1) s hs
 ·simp only [List.mem_cons,List.not_mem_nil,or_false] at hs
  rcases hs with rfl|rfl|rfl
  ·exact ⟨Zq418,.inl rfl⟩
  ·exact ⟨Zq418,.inr (.inr (.inr (.inr ⟨rfl,rfl,h1,Zq126 hr⟩)))⟩
  ·exact trivial
theorem Zq422 {S:Str} {c:Rg} {at':Int} {ts:List Tag} (h:LiveJ UJn S) (hg:goodM c at' ts=true) (hn:get kJ S.seen=none):makeJ S c at' ts false=execS (Zq574 (Zq18 S ⟨2,0⟩) (newR c at' ts)) S:=by
 have hok:=Zq514 hg
 unfold makeJ
 rw [if_neg (by simp [h.on]),if_neg (by simp [hg]),if_neg (by simp),Zq229 h]
 unfold Zq574
 rw [Zq190]
 obtain ⟨X,hX⟩:∃ x,x=execS (Zq136 (Zq18 S ⟨2,0⟩)) S:=⟨_,rfl⟩
 have hXok:=fun h0=>Zq214 Zq69 h (Zq216 fun k hk=>(Zq130 h k hk).1) (show (execS (Zq136 (Zq18 S ⟨2,0⟩)) S).1=0 from h0)
 rw [←hX] at hXok ⊢
 unfold thenE
 by_cases h0:X.1=0
 ·rw [if_neg (by simp [h0]),if_pos h0]
  obtain ⟨h1,h2⟩:=hXok h0
  have h3:get kJ X.2.seen=none:=by
   refine (congrFun h2 kJ).trans (Zq890.trans ?_)
   rw [hn];simp
  rw [h1.make Zq69 kJ_ok h3]
  show _=thenE (stepE X.2 (.deed kJ madeD)) (execS [.deed kJ (setD nmJ (recB (newR c at' ts))),.bar])
  unfold thenE
  by_cases h4:(stepE X.2 (.deed kJ madeD)).1=0
  ·rw [if_neg (by simp [h4]),if_pos h4]
   obtain ⟨h5,h6⟩:=Zq313 h1 Zq69 Zq418 (.inl rfl) h4
   have h7:=h6 kJ
   rw [if_pos rfl,h3] at h7
   have h8:get kJ (stepE X.2 (.deed kJ madeD)).2.seen=some ⟨[],[]⟩:=h7
   rw [Zq162 h5 h8 hok]
   unfold Zq360
   rw [if_neg]
   rw [h5.attr kJ_ok h8]
   simp [get]
  ·rw [if_pos h4,if_neg h4]
 ·rw [if_pos h0,if_neg h0]
def Zq107 (c:Rg) (at':Int) (ts:List Tag):Jn:=⟨newR c at' ts,[],[],layF (newR c at' ts),0,false⟩
theorem Zq673 {S:Str} {c:Rg} {at':Int} {ts:List Tag} (h:LiveJ UJn S) (hg:goodM c at' ts=true) (hn:get kJ S.seen=none) (h0:(makeJ S c at' ts false).1=0):JOK (makeJ S c at' ts false).2 (Zq107 c at' ts):=by
 have hok:=Zq514 hg
 have h1:1≤(recB (newR c at' ts)).length:=by rw [Zq160];omega
 have hne:recB (newR c at' ts)≠[]:=fun q=>by rw [q] at h1;simp at h1
 rw [Zq422 h hg hn] at h0 ⊢
 obtain ⟨h2,h3⟩:=Zq214 Zq69 h (Zq520 h hok) h0
 have hv:∀ k,get k (execS (Zq574 (Zq18 S ⟨2,0⟩) (newR c at' ts)) S).2.seen=Zq26 (Zq574 (Zq18 S ⟨2,0⟩) (newR c at' ts)) (Zq91 S) k:=fun k=>congrFun h3 k
 have hap:∀ (a b:List DStep) (V:K4→Option TS),Zq26 (a++b) V=Zq26 b (Zq26 a V):=fun a=>by
  induction a with
  | nil=>exact fun _ _=>rfl
  | cons s a ih=>exact fun b V=>ih b _
 unfold Zq574 at hv ⊢
 rw [hap] at hv
 refine ⟨h2,hok,?_,trivial,(fun e he=>by cases he),rfl,?_,fun k hk=>?_,rfl,?_⟩
 ·show (0:Int)+((0:Nat):Int)≤_∧0≤_
  omega
 ·refine ⟨⟨[],Zq83 [] nmJ (recB (newR c at' ts))⟩,(hv kJ).trans ?_,?_⟩
  ·simp only [Zq26,Zq81,if_true]
   rfl
  ·show get nmJ (Zq83 [] nmJ (recB (newR c at' ts)))=some (recB (newR c at' ts))
   unfold Zq83
   rw [if_neg hne]
   exact Zq44
 ·have hw:Zq19 (rowsJ (Zq107 c at' ts)) k=[]:=by rw [Zq215];rfl
  rw [hw,if_pos rfl,hv k]
  simp only [Zq26,Zq81,hk,if_false]
  rw [Zq786 h hk]
  rfl
 ·show (0:Int)≤0∧(0:Int)≤3299023255552
  omega
end Go.Proofs.YtpjchngjhijgmaaGreat
namespace Go.Proofs.YtpjchngjhijgmaaGreat
open Go.RowKit
theorem Zq122:∀ (a b:List DStep) (V:K4→Option TS),Zq26 (a++b) V=Zq26 b (Zq26 a V)
 | [],_,_=>rfl
 | s::a,b,V=>Zq122 a b _
def fixJ (m0 m1:List (K4 × List Int)) (k:K4):List DStep :=
 if Zq19 m0 k=Zq19 m1 k then [] else if Zq19 m1 k=[] then [.deed k goneD] else [.deed k ⟨2,(Zq19 m1 k).length,[],⟨#[]⟩⟩]
def Zq916 (m0 m1:List (K4 × List Int)) (ks:List K4):List DStep:=ks.flatMap (fixJ m0 m1)++[.bar]
end Go.Proofs.YtpjchngjhijgmaaGreat
namespace Go.Proofs.YtpjchngjhijgmaaGreat
open Go.RowKit
end Go.Proofs.YtpjchngjhijgmaaGreat
namespace Go.Proofs.YtpjchngjhijgmaaGreat
open Go.RowKit
def Zq837 (J:Jn):Rc:=goneR J.r (doneJ J).1 (doneJ J).2
def Zq904 (J:Jn):Jn:=goneJ (recJ J (Zq837 J)) (doneJ J).1
end Go.Proofs.YtpjchngjhijgmaaGreat
namespace Go.Proofs.YtpjchngjhijgmaaGreat
open Go.RowKit
theorem Zq231:LiveJ UJn (newS 1048576):=⟨JInv.new.wider (fun k hk=>by cases hk),rfl⟩
theorem Zq466 {S:Str} {c:Rg} {at':Int} {ts:List Tag} (h:LiveJ UJn S) (ha:S.armed=false) (hn:get kJ S.seen=none) (hg:goodM c at' ts=true) :
  JRec S none∧((Zq51 S).1=0→whyS (Zq51 S).2 kJ≠0)∧JRec (makeS (Zq51 S).2 kJ).2 none∧(saveJ (makeS (Zq51 S).2 kJ).2 (newR c at' ts)).1≠6∧(makeJ S c at' ts false).1=0∧(makeJ S c at' ts false).2.armed=false:=by
 have hok:=Zq514 hg
 have hci:=Zq216 fun k hk=>(Zq130 h k hk).1
 obtain ⟨X,hX⟩:∃ x,x=Zq51 S:=⟨_,rfl⟩
 have hXp:X=execS (Zq136 (Zq18 S ⟨2,0⟩)) S:=hX.trans (Zq229 h)
 obtain ⟨c1,c2⟩:=Zq119 Zq69 h ha hci
 obtain ⟨d1,d2⟩:=Zq214 Zq69 h hci c1
 rw [←hXp] at c1 c2 d1 d2
 have h3:get kJ X.2.seen=none:=by
  refine (congrFun d2 kJ).trans (Zq890.trans ?_)
  rw [hn];simp
 have hwhy:whyS X.2 kJ=4:=by rw [d1.why kJ_ok,h3];rfl
 have hb:(Zq32 X.2).1=false:=by simp [Zq32,c2]
 have e0:(stepE X.2 (.deed kJ madeD)).1=0:=Zq118 _ d1.on d1.inv.coh hb
 obtain ⟨h5,h6⟩:=Zq313 d1 Zq69 Zq418 (.inl rfl) e0
 have h7:=h6 kJ
 rw [if_pos rfl,h3] at h7
 have h8:get kJ (stepE X.2 (.deed kJ madeD)).2.seen=some ⟨[],[]⟩:=h7
 have hm:makeS X.2 kJ=stepE X.2 (.deed kJ madeD):=d1.make Zq69 kJ_ok h3
 have hpl:=Zq422 h hg hn
 obtain ⟨f1,f2⟩:=Zq119 Zq69 h ha (Zq520 h hok)
 rw [←hX,hm,hpl]
 refine ⟨(h.attr_none hn).1,fun _=>by rw [hwhy];decide,?_,?_,f1,f2⟩
 ·show (attrS _ kJ nmJ).2≠0
  rw [h5.attr kJ_ok h8]
  simp [get]
 ·rcases Zq517 h5 h8 hok with e|e
  ·rw [e];decide
  ·rw [e];decide
theorem JOK.open_pre {S:Str} {J:Jn} (h:JOK S J):(Zq18 S ⟨2,0⟩).length≤100∧SeenB S∧JRec S (some J.r)∧J.r.set≤1000000∧((trimJ S (layJ (Zq65 S J.r))).1=0→JRec (trimJ S (layJ (Zq65 S J.r))).2 (some J.r)):=by
 have hs:=h.small
 refine ⟨by have:=h.live.inv.keyCount;omega,h.live.inv.seenB,h.jrec,by omega,fun h0=>?_⟩
 rw [h.started] at h0 ⊢
 have htr:trimJ S { J with safe:=0 }=Zq14 S:=h.trim
 rw [htr] at h0 ⊢
 obtain ⟨a,b⟩:=h.barrier h0
 exact (h.moved a b h.safe).jrec
theorem Zq752 {c:Rg} {at':Int} {ts:List Tag} (hg:goodM c at' ts=true):∃ S1 S2,makeJ (newS 1048576) c at' ts false=(0,S1)∧JOK S1 (Zq107 c at' ts)∧S1.armed=false∧openJ S1 (newR c at' ts)=(0,S2,Zq66 (Zq107 c at' ts))∧JOK S2 (Zq66 (Zq107 c at' ts))∧S2.armed=false:=by
 obtain ⟨_,_,_,_,h1,h2⟩:=Zq466 (c:=c) (at':=at') (ts:=ts) Zq231 rfl rfl hg
 have h3:=Zq673 Zq231 hg rfl h1
 obtain ⟨S2,h4,h5,h6⟩:=h3.open_calm h2
 exact ⟨_,S2,Prod.ext h1 rfl,h3,h2,h4,h5,h6⟩
theorem Zq315 {S:Str} {c:Rg} {at':Int} {ts:List Tag} {b:Bool} {m:Nat} (h:Keeps S (m+4+2*(Zq21 S ⟨2,0⟩).length)):Keeps (makeJ S c at' ts b).2 m:=by
 have h1:Keeps (Zq51 S).2 (m+4):=Zq110 h
 have h2:Keeps (makeS (Zq51 S).2 kJ).2 (m+2):=Zq224 h1
 unfold makeJ
 split
 ·exact h.fewer (by omega)
 ·split
  ·exact h.fewer (by omega)
  ·split
   ·exact h.fewer (by omega)
   ·split
    ·exact h1.fewer (by omega)
    ·split
     ·exact h2.fewer (by omega)
     ·exact Zq303 h2
theorem Zq562 {S:Str} {J:Jn} {m:Nat} (h:Keeps S (m+2+4*(Zq21 S ⟨2,0⟩).length)):Keeps (mendJ S J).2.1 m:=by
 have h1:Keeps (trimJ S J).2 (m+2):=Zq275 h
 unfold mendJ
 split
 ·exact h1.fewer (by omega)
 ·exact Zq303 h1
theorem Zq316 {S:Str} {r:Rc} {m:Nat} (h:Keeps S (m+2+4*(Zq21 S ⟨2,0⟩).length)):Keeps (openJ S r).2.1 m:=Zq562 h
theorem LiveJ.told {S:Str} (h:LiveJ UJn S):(Zq21 S ⟨2,0⟩).length≤32:=by
 unfold Zq21
 rw [if_pos h.on]
 exact h.inv.keyCount
end Go.Proofs.YtpjchngjhijgmaaGreat
