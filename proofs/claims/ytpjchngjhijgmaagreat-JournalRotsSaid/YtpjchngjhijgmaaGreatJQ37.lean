import Derived.Test.YtpjchngjhijgmaaGreatJQ36
set_option linter.all false
namespace Go.Proofs.YtpjchngjhijgmaaGreat
open Go.RowKit
theorem Zq115:∀ (a b:List DStep) (V:K4→Option TS),Zq23 (a++b) V=Zq23 b (Zq23 a V)
 | [],_,_=>rfl
 | s::a,b,V=>Zq115 a b _
def fixJ (m0 m1:List (K4 × List Int)) (k:K4):List DStep :=
 if Zq12 m0 k=Zq12 m1 k then [] else if Zq12 m1 k=[] then [.deed k goneD] else [.deed k ⟨2,(Zq12 m1 k).length,[],⟨#[]⟩⟩]
def Zq203 (m0 m1:List (K4 × List Int)) (ks:List K4):List DStep:=ks.flatMap (fixJ m0 m1)++[.bar]
theorem Zq729 {m0 m1:List (K4 × List Int)} {k:K4} (h:k ∈ UJn):∀ s ∈ fixJ m0 m1 k,Zq216 UJn s:=by
 intro s hs
 unfold fixJ at hs
 split at hs
 ·cases hs
 ·split at hs
  ·rw [List.mem_singleton.1 hs];exact ⟨h,.inr (.inl rfl)⟩
  ·rw [List.mem_singleton.1 hs];exact ⟨h,.inr (.inr (.inr (.inl rfl)))⟩
theorem Zq701 {m0 m1:List (K4 × List Int)} {ks:List K4} (h:∀ k ∈ ks,k ∈ UJn):∀ s ∈ Zq203 m0 m1 ks,Zq216 UJn s:=by
 intro s hs
 rcases List.mem_append.1 hs with hs|hs
 ·obtain ⟨k,hk,hs⟩:=List.mem_flatMap.1 hs
  exact Zq729 (h k hk) s hs
 ·rw [List.mem_singleton.1 hs];exact trivial
theorem Zq260 {m0 m1:List (K4 × List Int)} {k k':K4} (h:k'≠k) (V:K4→Option TS):Zq23 (fixJ m0 m1 k) V k'=V k':=by
 unfold fixJ
 split
 ·rfl
 ·split <;> simp [Zq23,Zq82,h]
theorem Zq702 {m0 m1:List (K4 × List Int)} {k:K4} {V:K4→Option TS} {t:TS} (hV:V k=some t) (hb:t.b=Zq12 m0 k) (hne:Zq12 m0 k≠[]) (hp:Zq12 m1 k<+:Zq12 m0 k) :
  (Zq23 (fixJ m0 m1 k) V k).map (·.b)=if Zq12 m1 k=[] then none else some (Zq12 m1 k):=by
 unfold fixJ
 by_cases e:Zq12 m0 k=Zq12 m1 k
 ·rw [if_pos e,if_neg (e ▸ hne)]
  show (V k).map (·.b)=_
  rw [hV,←e,←hb]
  rfl
 ·rw [if_neg e]
  by_cases e2:Zq12 m1 k=[]
  ·rw [if_pos e2,if_pos e2]
   simp only [Zq23,Zq82,if_true]
   rfl
  ·rw [if_neg e2,if_neg e2]
   simp only [Zq23,Zq82,if_true,hV]
   show some (t.b.take (min ((Zq12 m1 k).length:Int).toNat t.b.length))=_
   rw [hb,Int.toNat_natCast,Nat.min_eq_left hp.length_le,←List.prefix_iff_eq_take.1 hp]
theorem Zq703 {m0 m1:List (K4 × List Int)} {k:K4} {S:Str} {t:TS} (h:LiveJ UJn S) (hk:k ∈ UJn) (ht:get k S.seen=some t) (hb:t.b=Zq12 m0 k) (hne:Zq12 m0 k≠[]) (hp:Zq12 m1 k<+:Zq12 m0 k):fixS m1 k S=execS (fixJ m0 m1 k) S:=by
 have hok:=(Zq81.all k hk).2
 obtain ⟨h1,_⟩:=h.all hok ht
 unfold fixS fixJ
 rw [h1]
 simp only
 rw [if_neg (by simp),hb]
 by_cases e:Zq12 m0 k=Zq12 m1 k
 ·rw [if_pos ⟨e,e ▸ hne⟩,if_pos e]
  rfl
 ·rw [if_neg fun q=>e q.1,if_neg e]
  by_cases e2:Zq12 m1 k=[]
  ·rw [if_pos e2,if_pos e2,Zq112]
   exact h.drop hok (by rw [ht];rfl)
  ·rw [if_neg e2,if_neg e2,if_pos hp,Zq112,h.trim hok ht]
   have:cutD t (Zq12 m1 k).length=⟨2,(Zq12 m1 k).length,[],⟨#[]⟩⟩:=by
    unfold cutD
    have:=hp.length_le
    rw [hb,show max (0:Int) (min ((Zq12 m1 k).length:Int) ((Zq12 m0 k).length:Int))=((Zq12 m1 k).length:Int) by omega]
   rw [this]
theorem Zq483 {m0 m1:List (K4 × List Int)}:∀ {ks:List K4} {S:Str},LiveJ UJn S→ks.Nodup→(∀ k ∈ ks,k ∈ UJn∧∃ t,get k S.seen=some t∧t.b=Zq12 m0 k∧Zq12 m0 k≠[]∧Zq12 m1 k<+:Zq12 m0 k)→fixL m1 ks S=execS (Zq203 m0 m1 ks) S
 | [],S,_,_,_=>(Zq112 .bar S).symm
 | k::ks,S,h,hn,hs=>by
  obtain ⟨h1,t,h2,h3,h4,h5⟩:=hs k (List.mem_cons_self ..)
  have hn':=List.nodup_cons.1 hn
  unfold fixL
  rw [Zq703 h h1 h2 h3 h4 h5]
  show _=execS ((k::ks).flatMap (fixJ m0 m1)++[.bar]) S
  rw [List.flatMap_cons,List.append_assoc,Zq181]
  unfold thenE
  by_cases h0:(execS (fixJ m0 m1 k) S).1=0
  ·rw [if_neg (by simp [h0]),if_pos h0]
   obtain ⟨h6,h7⟩:=Zq223 Zq81 h (Zq729 h1) h0
   refine Zq483 h6 hn'.2 fun k' hk'=>?_
   obtain ⟨a,t',b,c⟩:=hs k' (List.mem_cons_of_mem _ hk')
   refine ⟨a,t',(congrFun h7 k').trans ((Zq260 (fun e:k'=k=>hn'.1 (e ▸ hk')) _).trans b),c⟩
  ·rw [if_pos h0,if_neg h0]
theorem Zq160 {m0 m1:List (K4 × List Int)} {k:K4}:∀ {ks:List K4} {V:K4→Option TS},k ∉ ks→Zq23 (Zq203 m0 m1 ks) V k=V k
 | [],V,_=>rfl
 | a::ks,V,h=>by
  show Zq23 ((a::ks).flatMap (fixJ m0 m1)++[.bar]) V k=_
  rw [List.flatMap_cons,List.append_assoc,Zq115]
  have h1:k≠a:=fun e=>h (e ▸ List.mem_cons_self ..)
  exact (Zq160 fun e=>h (List.mem_cons_of_mem _ e)).trans (Zq260 h1 V)
theorem Zq390 {m0 m1:List (K4 × List Int)} {k:K4} {t:TS}:∀ {ks:List K4} {V:K4→Option TS},ks.Nodup→k ∈ ks→V k=some t→t.b=Zq12 m0 k→Zq12 m0 k≠[]→Zq12 m1 k<+:Zq12 m0 k →
  (Zq23 (Zq203 m0 m1 ks) V k).map (·.b)=if Zq12 m1 k=[] then none else some (Zq12 m1 k)
 | [],V,_,h,_,_,_,_=>by cases h
 | a::ks,V,hn,h,hV,hb,hne,hp=>by
  have hn':=List.nodup_cons.1 hn
  show (Zq23 ((a::ks).flatMap (fixJ m0 m1)++[.bar]) V k).map (·.b)=_
  rw [List.flatMap_cons,List.append_assoc,Zq115]
  by_cases e:k=a
  ·subst e
   rw [show Zq23 (ks.flatMap (fixJ m0 m1)++[.bar]) (Zq23 (fixJ m0 m1 k) V) k=Zq23 (fixJ m0 m1 k) V k from Zq160 (m0:=m0) (m1:=m1) (ks:=ks) hn'.1]
   exact Zq702 hV hb hne hp
  ·have hk:k ∈ ks:=by
    rcases List.mem_cons.1 h with q|q
    ·exact absurd q e
    ·exact q
   exact Zq390 hn'.2 hk ((Zq260 e V).trans hV) hb hne hp
theorem Zq774 {S:Str} {J:Jn} (hl:LiveJ UJn S) (hrows:∀ k,k≠kJ→(get k S.seen).map (·.b)=if Zq12 (rowsJ J) k=[] then none else some (Zq12 (rowsJ J) k)) {k:K4} (hk:k ∈ Zq18 S ⟨2,0⟩):∃ t,get k S.seen=some t∧t.b=Zq12 (rowsJ J) k∧Zq12 (rowsJ J) k≠[]∧k.ok=true:=by
 obtain ⟨h1,h2⟩:=(hl.inv.keys.mem _ _).1 hk
 obtain ⟨t,ht⟩:=Option.isSome_iff_exists.1 h2
 have hne:k≠kJ:=fun e=>by
  rw [e] at h1
  have:=congrArg G2.kind h1
  simp [K4.grp,kJ] at this
 have hr:=hrows k hne
 rw [ht] at hr
 simp only [Option.map_some] at hr
 split at hr
 ·cases hr
 ·rename_i hw
  exact ⟨t,ht,by simpa using hr,hw,(Zq81.all k (hl.inv.getU ht)).2⟩
theorem Zq634 {S:Str} {J J1:Jn} (hl:LiveJ UJn S) (hrows:∀ k,k≠kJ→(get k S.seen).map (·.b)=if Zq12 (rowsJ J) k=[] then none else some (Zq12 (rowsJ J) k)) (hp:∀ k,Zq12 (rowsJ J1) k<+:Zq12 (rowsJ J) k) :
  trimJ S J1=execS (Zq203 (rowsJ J) (rowsJ J1) (Zq18 S ⟨2,0⟩)) S∧(∀ s ∈ Zq203 (rowsJ J) (rowsJ J1) (Zq18 S ⟨2,0⟩),Zq216 UJn s) ∧
  ((trimJ S J1).1=0→LiveJ UJn (trimJ S J1).2∧get kJ (trimJ S J1).2.seen=get kJ S.seen∧∀ k,k≠kJ→(get k (trimJ S J1).2.seen).map (·.b)=if Zq12 (rowsJ J1) k=[] then none else some (Zq12 (rowsJ J1) k)):=by
 have hks:∀ k ∈ Zq18 S ⟨2,0⟩,k ∈ UJn∧∃ t,get k S.seen=some t∧t.b=Zq12 (rowsJ J) k∧Zq12 (rowsJ J) k≠[]∧Zq12 (rowsJ J1) k<+:Zq12 (rowsJ J) k:=fun k hk=>by
  obtain ⟨t,h1,h2,h3,_⟩:=Zq774 hl hrows hk
  exact ⟨(Zq121 hl k hk).1,t,h1,h2,h3,hp k⟩
 have hnd:(Zq18 S ⟨2,0⟩).Nodup:=Zq127 (hl.inv.keys.rise _)
 have hin:=Zq701 (m0:=rowsJ J) (m1:=rowsJ J1) fun k hk=>(hks k hk).1
 have hpl:trimJ S J1=execS (Zq203 (rowsJ J) (rowsJ J1) (Zq18 S ⟨2,0⟩)) S:=by
  unfold trimJ Zq28
  rw [if_pos hl.on]
  exact Zq483 hl hnd hks
 refine ⟨hpl,hin,fun h0=>?_⟩
 rw [hpl] at h0 ⊢
 obtain ⟨h1,h2⟩:=Zq223 Zq81 hl hin h0
 refine ⟨h1,(congrFun h2 kJ).trans (Zq160 fun hk=>?_),fun k hk=>?_⟩
 ·have:=congrArg G2.kind ((hl.inv.keys.mem _ _).1 hk).1
  simp [K4.grp,kJ] at this
 ·rw [show get k (execS (Zq203 (rowsJ J) (rowsJ J1) (Zq18 S ⟨2,0⟩)) S).2.seen=Zq23 (Zq203 (rowsJ J) (rowsJ J1) (Zq18 S ⟨2,0⟩)) (Zq138 S) k from congrFun h2 k]
  by_cases q:k ∈ Zq18 S ⟨2,0⟩
  ·obtain ⟨_,t,a,b,c,d⟩:=hks k q
   exact Zq390 hnd q a b c d
  ·rw [Zq160 q]
   have hr:=hrows k hk
   by_cases q2:Zq12 (rowsJ J) k=[]
   ·have q3:Zq12 (rowsJ J1) k=[]:=by
     have:=hp k
     rw [q2] at this
     exact List.prefix_nil.1 this
    rw [if_pos q2] at hr
    rw [if_pos q3]
    exact hr
   ·exfalso
    rw [if_neg q2] at hr
    cases hg:get k S.seen with
    | none=>rw [hg] at hr;cases hr
    | some t =>
     refine q ((hl.inv.keys.mem _ _).2 ⟨?_,by rw [hg];rfl⟩)
     rcases List.mem_cons.1 (hl.inv.getU hg) with e|hU
     ·exact absurd e hk
     ·obtain ⟨i,_,rfl⟩:=List.mem_map.1 hU
      rfl
end Go.Proofs.YtpjchngjhijgmaaGreat
namespace Go.Proofs.YtpjchngjhijgmaaGreat
open Go.RowKit
theorem Zq328 (pos:Int):∀ (es:List En) (ps:List Pl) (i:Nat) (q:Int) (r:Nat × Int),Zq105 pos es ps i q r=r ∨
  ∃ (k:Nat) (e:En) (p:Pl) (s0 q0:Int),es[k]?=some e∧ps[k]?=some p∧Zq105 pos es ps i q r=(i+k,p.set)∧(r.2::ps.map (·.set))[k]?=some s0∧s0≠p.set∧(q::es.map (·.seq))[k]?=some q0∧q0≤pos
 | [],ps,i,q,r=>by cases ps <;> exact .inl rfl
 | e::es,[],i,q,r=>.inl rfl
 | e::es,p::ps,i,q,r=>by
  unfold Zq105
  split
  ·rename_i hp
   rcases Zq328 pos es ps (i+1) e.seq r with h|⟨k,e',p',s0,q0,h1,h2,h3,h4,h5,h6,h7⟩
   ·exact .inl h
   ·refine .inr ⟨k+1,e',p',s0,q0,by simpa using h1,by simpa using h2,by rw [h3];congr 1;omega,?_,h5,?_,h7⟩
    ·rw [←hp] at h4
     simpa using h4
    ·simpa using h6
  ·rename_i hp
   split
   ·exact .inl rfl
   ·rename_i hq
    rcases Zq328 pos es ps (i+1) e.seq (i,p.set) with h|⟨k,e',p',s0,q0,h1,h2,h3,h4,h5,h6,h7⟩
    ·exact .inr ⟨0,e,p,r.2,q,rfl,rfl,h,rfl,fun e=>hp e.symm,rfl,by omega⟩
    ·refine .inr ⟨k+1,e',p',s0,q0,by simpa using h1,by simpa using h2,by rw [h3];congr 1;omega,?_,h5,?_,h7⟩
     ·simpa using h4
     ·simpa using h6
theorem Zq201 {c:Rg} {s0:Int} {es:List En} {ps:List Pl} {f:Fl} {p:Pl} (h:laid c s0 es ps ⟨s0,0,0,0,0⟩ f) (hc:c.okB=true) (hb:s0≤1000000000) (hp:ps[0]?=some p):p.set=s0:=by
 match es,ps,h with
 | [],[],_=>simp at hp
 | e::es,p'::ps,h =>
  obtain ⟨g,nx,h1,h2,h3⟩:=h
  have e1:p'=p:=by simpa using hp
  subst e1
  have hst:=Zq72 h1 hb
  have hno:=Zq288 (show (rput c ⟨s0,0,0,0,0⟩ e.seq e.data.length).2.2.2=true by rw [h1])
  have hcc:=Rg.ok hc
  rw [hst.place]
  cases nx with
  | false=>exact (hst.same rfl).1
  | true =>
   have:=(hst.next rfl).2.1
   rw [Fl.empty_get] at this
   omega
theorem Zq704 {c:Rg} {s0:Int} {es:List En} {ps:List Pl} {f0 f:Fl} {k:Nat} {p:Pl} (h:laid c s0 es ps f0 f) (hk:es.length=k+1) (hp:ps[k]?=some p) (hb:f0.set+es.length≤1000000000):f.set=p.set:=by
 induction es generalizing ps f0 k with
 | nil=>simp at hk
 | cons e es ih =>
  match ps,h with
  | p'::ps,h =>
   obtain ⟨g,nx,h1,h2,h3⟩:=h
   simp only [List.length_cons] at hk hb
   have hst:=Zq72 h1 (by omega)
   have hle:=hst.set_le
   cases k with
   | zero =>
    have e1:es=[]:=List.length_eq_zero_iff.1 (by omega)
    subst e1
    have e2:p'=p:=by simpa using hp
    subst e2
    match ps,h3 with
    | [],h3 =>
     cases (h3:f=g)
     rw [hst.place]
   | succ k=>exact ih (k:=k) h3 (by omega) (by simpa using hp) (by omega)
theorem Zq705 {c:Rg} {s0:Int} {es:List En} {ps:List Pl} {f:Fl} {k:Nat} {e:En} {p p0:Pl} (h:laid c s0 es ps ⟨s0,0,0,0,0⟩ f) (h0:0≤s0) (hb:s0+es.length≤100000000) (h1:es[k+1]?=some e) (h2:ps[k+1]?=some p) (h3:ps[k]?=some p0) (h4:p0.set≠p.set) (h5:s0≤p.set) :
  laid c p.set (es.drop (k+1)) (ps.drop (k+1)) ⟨p.set,0,0,0,0⟩ f:=by
 have hlen:=Zq429 h
 obtain ⟨hk,he⟩:=List.getElem?_eq_some_iff.1 h1
 obtain ⟨hk2,hp⟩:=List.getElem?_eq_some_iff.1 h2
 have ha:(es.take (k+1)).length=k+1:=by rw [List.length_take];omega
 rw [←List.take_append_drop (k+1) es] at h
 obtain ⟨f1,h6,h7⟩:=Zq256 h
 rw [ha] at h6 h7
 have hf1:f1.set=p0.set:=Zq704 h6 ha (by rw [List.getElem?_take_of_lt (by omega)];exact h3) (by rw [ha];show s0+((k+1:Nat):Int)≤_;omega)
 have hle:f1.set≤s0+es.length:=by
  have:∀ {a:List En} {pa:List Pl} {f0 g:Fl},laid c s0 a pa f0 g→f0.set+a.length≤1000000000→g.set≤f0.set+a.length:=by
   intro a
   induction a with
   | nil =>
    intro pa f0 g h _
    match pa,h with
    | [],h=>cases (h:g=f0);simp
   | cons x a ih =>
    intro pa f0 g h hh
    match pa,h with
    | y::pa,h =>
     obtain ⟨g1,nx,q1,q2,q3⟩:=h
     simp only [List.length_cons] at hh ⊢
     have:=(Zq72 q1 (by omega)).set_le
     have:=ih q3 (by omega)
     omega
  have:=this h6 (by rw [ha];show s0+((k+1:Nat):Int)≤_;omega)
  rw [ha] at this
  simp only at this
  omega
 rw [List.drop_eq_getElem_cons hk,List.drop_eq_getElem_cons hk2,he,hp] at h7 ⊢
 obtain ⟨g,nx,h8,h9,h10⟩:=id h7
 have hst:=Zq72 h8 (by omega)
 have hps:p.set=g.set:=by rw [hst.place]
 cases nx with
 | false=>have:=(hst.same rfl).1;omega
 | true =>
  have hx:=(hst.next rfl).1
  have hl2:(es.drop (k+1+1)).length+(k+2)=es.length:=by rw [List.length_drop];omega
  exact Zq690 h7 h8 (by omega) (by omega) (by omega)
theorem JOK.done {S:Str} {J:Jn} (h:JOK S J):doneJ J=(0,J.r.set)∨∃ n,doneJ J=(n,(doneJ J).2)∧1≤n∧n<J.l.length∧J.r.set<(doneJ J).2∧(doneJ J).2≤J.fill.set∧laid J.r.shape (doneJ J).2 (J.l.drop n) (J.at_.drop n) ⟨(doneJ J).2,0,0,0,0⟩ J.fill ∧
  (∀ (i:Nat) (q:Pl),J.at_[i]?=some q→(q.set<(doneJ J).2↔i<n))∧J.r.first+n - 1≤posD J:=by
 have hA:=h.at
 have hs:=h.small
 have hset:=h.ok.set
 have hfr:=hA.from_
 rcases Zq328 (posD J) J.l J.at_ 0 0 (0,J.r.set) with hd|⟨k,e,p,s0,q0,h1,h2,h3,h4,h5,h6,h7⟩
 ·exact .inl hd
 ·right
  have hd:doneJ J=(k,p.set):=by rw [←Nat.zero_add k];exact h3
  have hk:=(List.getElem?_eq_some_iff.1 h1).1
  have hpl:=hA.pl k e p h1 h2
  cases k with
  | zero =>
   exfalso
   have e1:J.r.set=s0:=by simpa using h4
   exact h5 (e1 ▸ (Zq201 h.lay h.ok.shape (by omega) h2).symm)
  | succ k =>
   obtain ⟨p0,hp0,hs0⟩:∃ p0,J.at_[k]?=some p0∧p0.set=s0:=by
    have:(J.at_.map (·.set))[k]?=some s0:=by simpa using h4
    rw [List.getElem?_map] at this
    cases hg:J.at_[k]? with
    | none=>rw [hg] at this;cases this
    | some p0=>rw [hg] at this;exact ⟨p0,rfl,by simpa using this⟩
   obtain ⟨e0,he0,hq0⟩:∃ e0,J.l[k]?=some e0∧e0.seq=q0:=by
    have:(J.l.map (·.seq))[k]?=some q0:=by simpa using h6
    rw [List.getElem?_map] at this
    cases hg:J.l[k]? with
    | none=>rw [hg] at this;cases this
    | some p0=>rw [hg] at this;exact ⟨p0,rfl,by simpa using this⟩
   have hrise:=hA.rise k (k+1) p0 p (by omega) hp0 h2
   have hpl0:=hA.pl k e0 p0 he0 hp0
   have hlt:p0.set<p.set:=by omega
   refine ⟨k+1,by rw [hd],by omega,hk,by rw [hd];show J.r.set<p.set;omega,by rw [hd];exact hpl.2.1,by rw [hd];exact Zq705 h.lay (by omega) (by omega) h1 h2 hp0 (by omega) (by omega),fun i q hi=>?_,?_⟩
   ·rw [hd]
    show q.set<p.set↔i<k+1
    constructor
    ·intro hlt2
     by_cases hik:i<k+1
     ·exact hik
     ·have:=hA.rise (k+1) i p q (by omega) h2 hi
      omega
    ·intro hik
     have:=hA.rise i k q p0 (by omega) hi hp0
     omega
   ·have hrs:∀ {es:List En} {s:Int} {k:Nat} {e:En},runs es s→es[k]?=some e→e.seq=s+k:=by
     intro es
     induction es with
     | nil=>intro s k e _ h;simp at h
     | cons x es ih =>
      intro s k e hr hx
      cases k with
      | zero =>
       have e1:x=e:=by simpa using hx
       subst e1
       have:=hr.1
       omega
      | succ k =>
       have:=ih hr.2 (by simpa using hx)
       omega
    have:=hrs h.run he0
    omega
end Go.Proofs.YtpjchngjhijgmaaGreat
namespace Go.Proofs.YtpjchngjhijgmaaGreat
open Go.RowKit
theorem Zq528 {c:Rg} {s0:Int}:∀ {a:List En} {pa:List Pl} {f0 g:Fl},laid c s0 a pa f0 g→f0.set+a.length≤1000000000→g.set≤f0.set+a.length:=by
 intro a
 induction a with
 | nil =>
  intro pa f0 g h _
  match pa,h with
  | [],h=>cases (h:g=f0);simp
 | cons x a ih =>
  intro pa f0 g h hh
  match pa,h with
  | y::pa,h =>
   obtain ⟨g1,nx,q1,q2,q3⟩:=h
   simp only [List.length_cons] at hh ⊢
   have:=(Zq72 q1 (by omega)).set_le
   have:=ih q3 (by omega)
   omega
theorem Zq775 {c:Rg} {s0:Int} {es:List En} {ps:List Pl} {f:Fl} (h:laid c s0 es ps ⟨s0,0,0,0,0⟩ f) (hc:c.okB=true) (hb:s0+es.length≤1000000000) {n:Nat} (hn:es.length=n+1):f.set≤s0+n:=by
 match es,ps,h with
 | e::es,p::ps,h =>
  have h1:=Zq201 h hc (by omega) (p:=p) rfl
  obtain ⟨g,nx,h2,h3,h4⟩:=h
  simp only [List.length_cons] at hb hn
  have hst:=Zq72 h2 (by show s0≤_;omega)
  rw [hst.place] at h1
  have:=Zq528 h4 (by simp only at h1;omega)
  simp only at h1
  omega
theorem JOK.goneRows {S:Str} {J:Jn} (h:JOK S J) {n:Nat} {s:Int} (hn:∀ (i:Nat) (q:Pl),J.at_[i]?=some q→(q.set<s↔i<n)) (r:Rc) (hr:r.shape=J.r.shape) (k:K4) :
  Zq12 (rowsJ (goneJ (recJ J r) n)) k=[]∨Zq12 (rowsJ (goneJ (recJ J r) n)) k=Zq12 (rowsJ J) k:=by
 rw [Zq120,Zq120]
 have e0:Zq36 (((goneJ (recJ J r) n).l.zip (goneJ (recJ J r) n).at_).filterMap fun x=>if keyOf (goneJ (recJ J r) n).r.shape x.2=k then some x.1 else none)=Zq36 (((J.l.zip J.at_).drop n).filterMap fun x=>if keyOf J.r.shape x.2=k then some x.1 else none):=by
  show Zq36 (((J.l.drop n).zip (J.at_.drop n)).filterMap fun x=>if keyOf r.shape x.2=k then some x.1 else none)=_
  rw [hr,List.zip_eq_zipWith,List.zip_eq_zipWith,List.drop_zipWith]
 rw [e0]
 obtain ⟨Z,hZ⟩:∃ Z,Z=J.l.zip J.at_:=⟨_,rfl⟩
 have hget:∀ (i:Nat) (x:En × Pl),Z[i]?=some x→J.at_[i]?=some x.2:=fun i x hx=>by
  rw [hZ,show x=(x.1,x.2) from rfl,List.getElem?_zip_eq_some] at hx
  exact hx.2
 rw [←hZ]
 by_cases hd:(Z.drop n).filterMap (fun x=>if keyOf J.r.shape x.2=k then some x.1 else none)=[]
 ·left;rw [hd];rfl
 ·right
  have ht:(Z.take n).filterMap (fun x=>if keyOf J.r.shape x.2=k then some x.1 else none)=[]:=by
   refine List.filterMap_eq_nil_iff.2 fun x hx=>?_
   by_cases e:keyOf J.r.shape x.2=k
   ·exfalso
    refine hd (List.filterMap_eq_nil_iff.2 fun y hy=>?_)
    by_cases e2:keyOf J.r.shape y.2=k
    ·exfalso
     obtain ⟨i,hi⟩:=List.getElem?_of_mem hx
     obtain ⟨j,hj⟩:=List.getElem?_of_mem hy
     have hin:i<n:=by
      have:=(List.getElem?_eq_some_iff.1 hi).1
      rw [List.length_take] at this
      omega
     rw [List.getElem?_take_of_lt hin] at hi
     rw [List.getElem?_drop] at hj
     have a1:=hget _ _ hi
     have a2:=hget _ _ hj
     have p1:=h.place (List.mem_of_getElem? a1)
     have p2:=h.place (List.mem_of_getElem? a2)
     have hq:x.2=y.2:=Zq619 h.ok.shape h.ok.set.1 ⟨p1.1,p1.2.1,p1.2.2.2.1⟩ ⟨p1.2.2.2.2.1,p1.2.2.2.2.2⟩ ⟨p2.1,p2.2.1,p2.2.2.2.1⟩ ⟨p2.2.2.2.2.1,p2.2.2.2.2.2⟩ (congrArg K4.num (e.trans e2.symm))
     have b1:=(hn _ _ a1).2 hin
     have b2:=(hn _ _ a2).1 (hq ▸ b1)
     omega
    ·rw [if_neg e2]
   ·rw [if_neg e]
  conv=>rhs;rw [←List.take_append_drop n Z,List.filterMap_append,ht,Zl3]
theorem JOK.trimNone {S:Str} {J:Jn} (h:JOK S J) (hd:(doneJ J).1=0):Zq124 S J=(if (Zq9 S).1=0 then ((0,0),(Zq9 S).2,J) else ((0,7),(Zq9 S).2,deadJ J))∧((Zq9 S).1=0→JOK (Zq9 S).2 J):=by
 refine ⟨?_,fun h0=>?_⟩
 ·unfold Zq124
  rw [if_neg (by simp [h.may]),if_pos hd]
  rcases Zq291 S with e|e
  ·simp [e,endsJ]
  ·simp [e,endsJ]
 ·obtain ⟨a,b⟩:=h.barrier h0
  have:=h.moved a b h.safe
  exact this
def Zq21 (J:Jn):Rc:=goneR J.r (doneJ J).1 (doneJ J).2
def Zq30 (J:Jn):Jn:=goneJ (recJ J (Zq21 J)) (doneJ J).1
theorem JOK.trimOp {S:Str} {J:Jn} (h:JOK S J) (hd:(doneJ J).1≠0):(Zq21 J).Ok ∧
  Zq124 S J=(if (saveJ S (Zq21 J)).1=0 then (if (trimJ (saveJ S (Zq21 J)).2 (Zq30 J)).1=0 then (((((doneJ J).1:Nat):Int),(0:Int)),(trimJ (saveJ S (Zq21 J)).2 (Zq30 J)).2,Zq30 J) else ((0,7),(trimJ (saveJ S (Zq21 J)).2 (Zq30 J)).2,deadJ (Zq30 J))) else ((0,7),(saveJ S (Zq21 J)).2,deadJ J)) ∧
  ((saveJ S (Zq21 J)).1=0→trimJ (saveJ S (Zq21 J)).2 (Zq30 J)=execS (Zq203 (rowsJ J) (rowsJ (Zq30 J)) (Zq18 (saveJ S (Zq21 J)).2 ⟨2,0⟩)) (saveJ S (Zq21 J)).2 ∧
    (∀ s ∈ Zq203 (rowsJ J) (rowsJ (Zq30 J)) (Zq18 (saveJ S (Zq21 J)).2 ⟨2,0⟩),Zq216 UJn s) ∧
    ((trimJ (saveJ S (Zq21 J)).2 (Zq30 J)).1=0→JOK (trimJ (saveJ S (Zq21 J)).2 (Zq30 J)).2 (Zq30 J))):=by
 rcases h.done with e|⟨n,hn,h1,h2,h3,h4,h5,h6,h7⟩
 ·rw [e] at hd;exact absurd rfl hd
 have hn1:(doneJ J).1=n:=by rw [hn]
 have hs:=h.small
 have hfr:=h.at.from_
 have hok:(Zq21 J).Ok:=by
  have a:=h.ok.first
  have b:=h.ok.set
  refine ⟨h.ok.shape,?_,?_,h.ok.tags,h.ok.cls⟩
  ·show 1≤J.r.first+((doneJ J).1:Int)∧J.r.first+((doneJ J).1:Int)≤_
   have c:=h.ends
   have d:=h.jb.first
   have hl:∃ e,J.l[n]?=some e:=⟨_,List.getElem?_eq_getElem h2⟩
   obtain ⟨e,he⟩:=hl
   have h8:=run_seq h.run (List.mem_of_getElem? he)
   obtain ⟨e2,he2⟩:∃ e,J.l[J.l.length - 1]?=some e:=⟨_,List.getElem?_eq_getElem (by omega)⟩
   have h9:=(En.okB_iff.1 (h.ents _ (List.mem_of_getElem? he2)).1).2.1
   have h10:=run_seq h.run (List.mem_of_getElem? he2)
   omega
  ·show 0≤(doneJ J).2∧(doneJ J).2≤_
   omega
 obtain ⟨t,ht,hat⟩:=h.rec_
 have hwhy:=Zq326 h.live ht hok
 have hk:=(h.keep hok).1
 have hpre:∀ k,Zq12 (rowsJ (Zq30 J)) k<+:Zq12 (rowsJ J) k:=fun k=>by
  unfold Zq30
  rw [hn1]
  rcases h.goneRows (s:=(doneJ J).2) h6 (Zq21 J) rfl k with e|e
  ·rw [e];exact List.nil_prefix
  ·rw [e];exact List.prefix_refl _
 have hmid:(saveJ S (Zq21 J)).1=0→trimJ (saveJ S (Zq21 J)).2 (Zq30 J)=execS (Zq203 (rowsJ J) (rowsJ (Zq30 J)) (Zq18 (saveJ S (Zq21 J)).2 ⟨2,0⟩)) (saveJ S (Zq21 J)).2 ∧
   (∀ s ∈ Zq203 (rowsJ J) (rowsJ (Zq30 J)) (Zq18 (saveJ S (Zq21 J)).2 ⟨2,0⟩),Zq216 UJn s) ∧
   ((trimJ (saveJ S (Zq21 J)).2 (Zq30 J)).1=0→JOK (trimJ (saveJ S (Zq21 J)).2 (Zq30 J)).2 (Zq30 J)):=fun h0=>by
  obtain ⟨a,⟨t2,b1,b2⟩,c⟩:=Zq258 h.live ht hok h0
  obtain ⟨f1,f2,f3⟩:=Zq634 (J:=J) (J1:=Zq30 J) a (fun k hk=>by rw [c k hk];exact h.rows k hk) hpre
  refine ⟨f1,f2,fun h00=>?_⟩
  obtain ⟨g1,g2,g3⟩:=f3 h00
  refine ⟨g1,hok,?_,?_,fun e he=>?_,?_,⟨t2,g2.trans b1,b2⟩,g3,h.dead,h.safe⟩
  ·show (doneJ J).2+((J.l.drop (doneJ J).1).length:Int)≤_∧(J.l.drop (doneJ J).1).length≤_
   rw [List.length_drop,hn1]
   have hset:(doneJ J).2≤J.r.set+n:=by
    obtain ⟨q,hq⟩:∃ q,J.at_[n]?=some q:=⟨_,List.getElem?_eq_getElem (by rw [h.at.len];exact h2)⟩
    have hq1:q.set=(doneJ J).2:=Zq201 h5 h.ok.shape (by omega) (by rw [List.getElem?_drop];exact hq)
    obtain ⟨f,hf⟩:=Zq689 h.lay (n+1)
    have hl1:(J.l.take (n+1)).length=n+1:=by rw [List.length_take];omega
    have ha:=Zq722 h.ok.shape hf h.ok.set.1 (by rw [hl1];omega)
    obtain ⟨e,he⟩:∃ e,J.l[n]?=some e:=⟨_,List.getElem?_eq_getElem h2⟩
    have hp:=ha.pl n e q (by rw [List.getElem?_take_of_lt (by omega)];exact he) (by rw [List.getElem?_take_of_lt (by omega)];exact hq)
    have hle:=Zq775 hf h.ok.shape (by omega) (n:=n) hl1
    omega
   omega
  ·show runs (J.l.drop (doneJ J).1) (J.r.first+((doneJ J).1:Int))
   rw [hn1]
   exact Zq687 h.run n (by omega)
  ·exact h.ents e (List.mem_of_mem_drop he)
  ·show laid J.r.shape (doneJ J).2 (J.l.drop (doneJ J).1) (J.at_.drop (doneJ J).1) ⟨(doneJ J).2,0,0,0,0⟩ J.fill
   rw [hn1]
   exact h5
 refine ⟨hok,?_,hmid⟩
 unfold Zq124
 rw [if_neg (by simp [h.may]),if_neg hd]
 show (if (keepJ S J (Zq21 J)).1≠0 then ((0,(keepJ S J (Zq21 J)).1),(keepJ S J (Zq21 J)).2.1,(keepJ S J (Zq21 J)).2.2)
  else if (trimJ (keepJ S J (Zq21 J)).2.1 (Zq30 J)).1≠0 then ((0,(trimJ (keepJ S J (Zq21 J)).2.1 (Zq30 J)).1),(trimJ (keepJ S J (Zq21 J)).2.1 (Zq30 J)).2,endsJ (Zq30 J) (trimJ (keepJ S J (Zq21 J)).2.1 (Zq30 J)).1)
  else (((((doneJ J).1:Nat):Int),(0:Int)),(trimJ (keepJ S J (Zq21 J)).2.1 (Zq30 J)).2,Zq30 J))=_
 rw [hk]
 by_cases h0:(saveJ S (Zq21 J)).1=0
 ·obtain ⟨f1,_,_⟩:=hmid h0
  have hoff:=Zq324 (Zq203 (rowsJ J) (rowsJ (Zq30 J)) (Zq18 (saveJ S (Zq21 J)).2 ⟨2,0⟩)) (saveJ S (Zq21 J)).2
  rw [←f1] at hoff
  simp only [h0,if_true]
  rw [if_neg (by simp)]
  rcases hoff with e|e
  ·simp [e]
  ·simp [e,endsJ]
 ·simp only [h0,if_false]
  rw [if_pos (by simp)]
end Go.Proofs.YtpjchngjhijgmaaGreat
namespace Go.Proofs.YtpjchngjhijgmaaGreat
open Go.RowKit
theorem Zq435:LiveJ UJn (newS 1048576):=⟨JInv.new.wider (fun k hk=>by cases hk),rfl⟩
theorem Zq635 {S:Str} {c:Rg} {at':Int} {ts:List Tag} (h:LiveJ UJn S) (ha:S.armed=false) (hn:get kJ S.seen=none) (hg:goodM c at' ts=true) :
  JRec S none∧((Zq67 S).1=0→whyS (Zq67 S).2 kJ≠0)∧JRec (makeS (Zq67 S).2 kJ).2 none∧(saveJ (makeS (Zq67 S).2 kJ).2 (newR c at' ts)).1≠6∧(makeJ S c at' ts false).1=0∧(makeJ S c at' ts false).2.armed=false:=by
 have hok:=Zq479 hg
 have hci:=Zq259 fun k hk=>(Zq121 h k hk).1
 obtain ⟨X,hX⟩:∃ x,x=Zq67 S:=⟨_,rfl⟩
 have hXp:X=execS (Zq125 (Zq18 S ⟨2,0⟩)) S:=hX.trans (Zq293 h)
 obtain ⟨c1,c2⟩:=Zq137 Zq81 h ha hci
 obtain ⟨d1,d2⟩:=Zq223 Zq81 h hci c1
 rw [←hXp] at c1 c2 d1 d2
 have h3:get kJ X.2.seen=none:=by
  refine (congrFun d2 kJ).trans (Zq831.trans ?_)
  rw [hn];simp
 have hwhy:whyS X.2 kJ=4:=by rw [d1.why kJ_ok,h3];rfl
 have hb:(Zq34 X.2).1=false:=by simp [Zq34,c2]
 have e0:(stepE X.2 (.deed kJ madeD)).1=0:=Zq237 _ d1.on d1.inv.coh hb
 obtain ⟨h5,h6⟩:=Zq383 d1 Zq81 Zq629 (.inl rfl) e0
 have h7:=h6 kJ
 rw [if_pos rfl,h3] at h7
 have h8:get kJ (stepE X.2 (.deed kJ madeD)).2.seen=some ⟨[],[]⟩:=h7
 have hm:makeS X.2 kJ=stepE X.2 (.deed kJ madeD):=d1.make Zq81 kJ_ok h3
 have hpl:=Zq389 h hg hn
 obtain ⟨f1,f2⟩:=Zq137 Zq81 h ha (Zq482 h hok)
 rw [←hX,hm,hpl]
 refine ⟨(h.attr_none hn).1,fun _=>by rw [hwhy];decide,?_,?_,f1,f2⟩
 ·show (attrS _ kJ nmJ).2≠0
  rw [h5.attr kJ_ok h8]
  simp [get]
 ·rcases Zq326 h5 h8 hok with e|e
  ·rw [e];decide
  ·rw [e];decide
theorem JOK.open_pre {S:Str} {J:Jn} (h:JOK S J):(Zq18 S ⟨2,0⟩).length≤100∧SeenB S∧JRec S (some J.r)∧J.r.set≤1000000∧((trimJ S (layJ (Zq75 S J.r))).1=0→JRec (trimJ S (layJ (Zq75 S J.r))).2 (some J.r)):=by
 have hs:=h.small
 refine ⟨by have:=h.live.inv.keyCount;omega,h.live.inv.seenB,h.jrec,by omega,fun h0=>?_⟩
 rw [h.started] at h0 ⊢
 have htr:trimJ S { J with safe:=0 }=Zq9 S:=h.trim
 rw [htr] at h0 ⊢
 obtain ⟨a,b⟩:=h.barrier h0
 exact (h.moved a b h.safe).jrec
theorem Zq706 {c:Rg} {at':Int} {ts:List Tag} (hg:goodM c at' ts=true):∃ S1 S2,makeJ (newS 1048576) c at' ts false=(0,S1)∧JOK S1 (Zq99 c at' ts)∧S1.armed=false∧openJ S1 (newR c at' ts)=(0,S2,Zq64 (Zq99 c at' ts))∧JOK S2 (Zq64 (Zq99 c at' ts))∧S2.armed=false:=by
 obtain ⟨_,_,_,_,h1,h2⟩:=Zq635 (c:=c) (at':=at') (ts:=ts) Zq435 rfl rfl hg
 have h3:=Zq773 Zq435 hg rfl h1
 obtain ⟨S2,h4,h5,h6⟩:=h3.open_calm h2
 exact ⟨_,S2,Prod.ext h1 rfl,h3,h2,h4,h5,h6⟩
theorem Zq529 {S:Str} {c:Rg} {at':Int} {ts:List Tag} {b:Bool} {m:Nat} (h:Keeps S (m+4+2*(Zq28 S ⟨2,0⟩).length)):Keeps (makeJ S c at' ts b).2 m:=by
 have h1:Keeps (Zq67 S).2 (m+4):=Zq176 h
 have h2:Keeps (makeS (Zq67 S).2 kJ).2 (m+2):=Zq153 h1
 unfold makeJ
 split
 ·exact h.fewer (by omega)
 ·split
  ·exact h.fewer (by omega)
  ·split
   ·exact h.fewer (by omega)
   ·split
    ·exact h1.fewer (by omega)
    ·split
     ·exact h2.fewer (by omega)
     ·exact Zq157 h2
theorem Zq530 {S:Str} {J:Jn} {m:Nat} (h:Keeps S (m+2+4*(Zq28 S ⟨2,0⟩).length)):Keeps (mendJ S J).2.1 m:=by
 have h1:Keeps (trimJ S J).2 (m+2):=Zq198 h
 unfold mendJ
 split
 ·exact h1.fewer (by omega)
 ·exact Zq157 h1
theorem Zq531 {S:Str} {r:Rc} {m:Nat} (h:Keeps S (m+2+4*(Zq28 S ⟨2,0⟩).length)):Keeps (openJ S r).2.1 m:=Zq530 h
theorem LiveJ.told {S:Str} (h:LiveJ UJn S):(Zq28 S ⟨2,0⟩).length≤32:=by
 unfold Zq28
 rw [if_pos h.on]
 exact h.inv.keyCount
end Go.Proofs.YtpjchngjhijgmaaGreat
namespace Go.Proofs.YtpjchngjhijgmaaGreat
open Go.RowKit
section
variable {W w : World} {I : Hp} {l : List HP}
set_option maxRecDepth 4000
set_option maxHeartbeats 8000000
theorem Zq294 (c:Rg) (at':Int) (vt:Value) (ts:List Tag) (h:St W I w l) (ht:RowI I 4 vt ts.length (flat ts)) (htn:ts.length≤1000000) (hg:goodM c at' ts=true) :
  Calls Tryz.prog 38 #[c.val,.int .i64 at',vt] w fun e w'=>∃ I' p q S,I.sub I'∧e=.returned (.tuple #[.pointer (some ⟨p,0,none⟩),.pointer (some ⟨q,0,none⟩)])∧St W I' w' (Zq8 p S::jnHP q p (Zq64 (Zq99 c at' ts))::l)∧JOK S (Zq64 (Zq99 c at' ts))∧S.armed=false∧Keeps S 99000:=by
 obtain ⟨S1,S2,hm,hj1,ha1,ho,hj2,ha2⟩:=Zq706 hg
 obtain ⟨p1,p2,p3,p4,_,_⟩:=Zq635 (c:=c) (at':=at') (ts:=ts) Zq435 rfl rfl hg
 have hk1:Keeps S1 99990:=by
  have:=Zq529 (c:=c) (at':=at') (ts:=ts) (b:=false) (m:=99990) ((Zq233 1048576).fewer (show 99990+4+2*(Zq28 (newS 1048576) ⟨2,0⟩).length≤100000 by show 99990+4+2*0≤_;omega))
  rwa [hm] at this
 have hto:=hj1.live.told
 have hk2:Keeps S2 99000:=by
  have:=Zq531 (r:=newR c at' ts) (m:=99000) (hk1.fewer (show 99000+2+4*(Zq28 S1 ⟨2,0⟩).length≤99990 by omega))
  rwa [ho] at this
 have HJ:=Zh hj2
 have HA:=Zh ha2
 have HK2:=Zh hk2
 have HMK:=Zh (show ∀ (w1:World) (p:Nat) (l1:List HP),St W I w1 (Zq8 p (newS 1048576)::l1)→Calls Tryz.prog 34 #[.pointer (some ⟨p,0,none⟩),c.val,.int .i64 at',vt] w1 fun e w'=>∃ I',I.sub I'∧e=.returned (.int .i64 0)∧St W I' w' (Zq8 p S1::l1) from fun _ _ _ h1=>by
  have:=Zq380 (m:=99990) c at' vt ts none none h1 ht htn ((Zq233 1048576).fewer (by show 99990+4+2*0≤_;omega)) (by show 0≤_;omega) p1 (fun _ _=>⟨p2,p3,p4⟩)
  rw [show (none:Option Rc).isSome=false from rfl,hm] at this
  exact this)
 have HOP:=Zh (show ∀ (I1:Hp) (w1:World) (p:Nat) (l1:List HP),St W I1 w1 (Zq8 p S1::l1)→Calls Tryz.prog 27 #[.pointer (some ⟨p,0,none⟩)] w1 fun e w'=>∃ I' q,I1.sub I'∧e=.returned (.tuple #[.pointer (some ⟨q,0,none⟩),.int .i64 0])∧St W I' w' (Zq8 p S2::jnHP q p (Zq64 (Zq99 c at' ts))::l1) from fun _ _ _ _ h1=>by
  obtain ⟨q1,q2,q3,q4,q5⟩:=hj1.open_pre
  have hs:=Zq625 (m:=99000) (newR c at' ts) (some (newR c at' ts)) h1 hj1.live.on (hk1.fewer (by omega)) q1 q2 q3 q4 q5
  rw [ho] at hs
  refine hs.mono ?_
  rintro e w' ⟨I',hs1,⟨hne,_⟩|⟨_,q,he,h2⟩⟩
  ·exact absurd rfl hne
  ·exact ⟨I',q,hs1,he,h2⟩)
 clear hm hj1 ha1 ho hj2 ha2 p1 p2 p3 p4 hk1 hto hk2 ht htn
 have h1:=h.alloc (.cells #[.int .i64 c.splay,.int .i64 c.sets,.int .i64 c.size] 26)
 simp only [Rg.val] at HMK ⊢
 have H1:=Zh (Zq567 1048576 h1)
 have HRC:=Zh (show ∀ (w':World) (L:List HP),St W I w' (HP.pt w.heap.size (.cells #[.int .i64 c.splay,.int .i64 c.sets,.int .i64 c.size] 26)::L)→w'.cell? ⟨w.heap.size,0,none⟩=some (.int .i64 c.splay)∧w'.cell? ⟨w.heap.size,1,none⟩=some (.int .i64 c.sets)∧w'.cell? ⟨w.heap.size,2,none⟩=some (.int .i64 c.size) from fun w' L h1=>Zq62 h1)
 clear h1
 go_enter Tryz.func38,Tryz.ntmps38
 go_wp2_with fail
 refine H1.out.mono ?_
 rintro e w2 ⟨p,rfl,h2⟩
 obtain ⟨c0,c1,c2⟩:=HRC.out _ _ (h2.pull 1 _ rfl)
 have HM:=Zh (HMK.out _ _ _ h2)
 clear h2
 go_wp2_with fail
 refine HM.out.mono ?_
 rintro e w3 ⟨I3,hs3,rfl,h3⟩
 have HO:=Zh (HOP.out _ _ _ _ h3)
 have HS3:=Zh hs3
 clear h3 hs3 c0 c1 c2
 go_wp2_with fail
 refine HO.out.mono ?_
 rintro e w4 ⟨I4,q,hs4,rfl,h4⟩
 have H4:=Zh h4
 have HS4:=Zh (HS3.out.trans hs4)
 clear h4 hs4
 go_wp2_with fail
 go_ret2
 refine ⟨I4,p,q,S2,HS4.out,rfl,?_,HJ.out,HA.out,HK2.out⟩
 exact (H4.out.pull 2 _ rfl).drop
end
end Go.Proofs.YtpjchngjhijgmaaGreat
