import Derived.Test.YtpjchngjhijgmaaGreatJM31
set_option linter.all false
namespace Go.Proofs.YtpjchngjhijgmaaGreat
open Go.RowKit
def laid (c:Rg) (s0:Int):List En→List Pl→Fl→Fl→Prop
 | [],[],f0,f=>f=f0
 | e::es,p::ps,f0,f=>∃ g nx,rput c f0 e.seq e.data.length=(g,p,nx,true)∧g.set - s0<c.sets∧laid c s0 es ps g f
 | _,_,_,_=>False
theorem Zq310 {c:Rg} {s0:Int}:∀ {a b:List En} {pa pb:List Pl} {f0 f g:Fl},laid c s0 a pa f0 f→laid c s0 b pb f g→laid c s0 (a++b) (pa++pb) f0 g
 | [],b,[],pb,f0,f,g,h1,h2=>by cases (h1:f=f0);exact h2
 | [],_,_::_,_,_,_,_,h,_=>h.elim
 | _::_,_,[],_,_,_,_,h,_=>h.elim
 | e::a,b,p::pa,pb,f0,f,g,h1,h2=>by
  obtain ⟨k,nx,h3,h4,h5⟩:=h1
  exact ⟨k,nx,h3,h4,Zq310 h5 h2⟩
theorem Zq781 {c:Rg} {f:Fl} {seq n:Int} (hc:c.okB=true) (hf:f.okB c=true) (hs:1≤seq∧seq≤1099511627776) (hn:1≤n∧n≤90):rput c f seq n=if c.size<f.get (seq % c.splay)+(22+n) then
  ((Fl.put ⟨f.set+1,0,0,0,0⟩ (seq % c.splay) (22+n)),⟨f.set+1,seq % c.splay⟩,true,true)
 else (f.put (seq % c.splay) (f.get (seq % c.splay)+(22+n)),⟨f.set,seq % c.splay⟩,false,true):=by
 unfold rput
 have e:Zq131 n=22+n:=by unfold Zq131;omega
 rw [if_neg (by rw [hc,hf];simp;omega),e]
theorem Zq412 {c:Rg} {f:Fl} {seq n:Int} (h:(rput c f seq n).2.2.2=true):c.okB=true∧f.okB c=true∧(1≤seq∧seq≤1099511627776)∧1≤n∧n≤90:=by
 unfold rput at h
 split at h
 ·cases h
 ·rename_i h1
  simp only [not_or] at h1
  obtain ⟨h1,h2,h3,h4,h5,h6⟩:=h1
  exact ⟨by simpa using h1,by simpa using h2,by omega,by omega,by omega⟩
theorem Rg.ok {c:Rg} (h:c.okB=true):(1≤c.splay∧c.splay≤4)∧(4≤c.sets∧c.sets≤8)∧(512≤c.size∧c.size≤4096):=by
 unfold Rg.okB at h
 rwa [decide_eq_true_eq] at h
theorem Fl.ok_iff {c:Rg} {f:Fl}:f.okB c=true↔(0≤f.u0∧f.u0≤c.size)∧(0≤f.u1∧f.u1≤c.size)∧(0≤f.u2∧f.u2≤c.size)∧(0≤f.u3∧f.u3≤c.size)∧(0≤f.set∧f.set<1073741824):=by
 unfold Fl.okB
 rw [decide_eq_true_eq]
theorem Fl.put_set (f:Fl) (o x:Int):(f.put o x).set=f.set:=by unfold Fl.put;(repeat' split) <;> rfl
theorem Fl.get_put {f:Fl} {o x o':Int} (h:0≤o∧o<4) (h':0≤o'∧o'<4):(f.put o x).get o'=if o'=o then x else f.get o':=by
 have h1:o=0∨o=1∨o=2∨o=3:=by omega
 have h2:o'=0∨o'=1∨o'=2∨o'=3:=by omega
 rcases h1 with rfl|rfl|rfl|rfl <;> rcases h2 with rfl|rfl|rfl|rfl <;> simp [Fl.put,Fl.get]
theorem Fl.put_ok {c:Rg} {f:Fl} {o x:Int} (hx:0≤x∧x≤c.size) (h:f.okB c=true):(f.put o x).okB c=true:=by
 rw [Fl.ok_iff] at h ⊢
 unfold Fl.put
 split
 ·exact ⟨hx,h.2.1,h.2.2.1,h.2.2.2.1,h.2.2.2.2⟩
 split
 ·exact ⟨h.1,hx,h.2.2.1,h.2.2.2.1,h.2.2.2.2⟩
 split
 ·exact ⟨h.1,h.2.1,hx,h.2.2.2.1,h.2.2.2.2⟩
 ·exact ⟨h.1,h.2.1,h.2.2.1,hx,h.2.2.2.2⟩
theorem Fl.get_le {c:Rg} {f:Fl} (h:f.okB c=true) (o:Int):0≤f.get o∧f.get o≤c.size:=by
 rw [Fl.ok_iff] at h
 unfold Fl.get
 (repeat' split) <;> omega
theorem Fl.empty_ok {c:Rg} {s:Int} (hc:c.okB=true) (h:0≤s∧s<1073741824):(⟨s,0,0,0,0⟩:Fl).okB c=true:=by
 have:=Rg.ok hc
 rw [Fl.ok_iff]
 simp only
 omega
theorem Fl.empty_get (s o:Int):(⟨s,0,0,0,0⟩:Fl).get o=0:=by
 unfold Fl.get
 (repeat' split) <;> rfl
theorem Fl.put_ne {f:Fl} {o x:Int} (ho:0≤o∧o<4) (hx:x≠0):f.put o x≠Fl.zero:=by
 intro e
 have h:=Fl.get_put (f:=f) (o:=o) (x:=x) ho ho
 rw [e,if_pos rfl] at h
 have:Fl.zero.get o=0:=Fl.empty_get 0 o
 omega
theorem Zq510 {c:Rg} (hc:c.okB=true) (seq:Int):0≤seq % c.splay∧seq % c.splay<c.splay∧seq % c.splay<4:=by
 have:=Rg.ok hc
 have h1:=Int.emod_nonneg seq (show c.splay≠0 by omega)
 have h2:=Int.emod_lt_of_pos seq (show 0<c.splay by omega)
 omega
structure Stepped (c:Rg) (f:Fl) (seq n:Int) (g:Fl) (p:Pl) (nx:Bool):Prop where
 place:p=⟨g.set,seq % c.splay⟩
 ok:g.okB c=true
 ne:g≠Fl.zero
 same:nx=false→g.set=f.set∧∀ o,0≤o→o<4→g.get o=if o=seq % c.splay then f.get o+(22+n) else f.get o
 next:nx=true→g.set=f.set+1∧c.size<f.get (seq % c.splay)+(22+n)∧(∀ o,0≤o→o<4→g.get o=if o=seq % c.splay then 22+n else 0)∧rput c ⟨f.set+1,0,0,0,0⟩ seq n=(g,p,false,true)
theorem Zq211 {c:Rg} {f g:Fl} {p:Pl} {nx:Bool} {seq n:Int} (h:rput c f seq n=(g,p,nx,true)) (hsm:f.set≤1000000000):Stepped c f seq n g p nx:=by
 obtain ⟨hc,hf,hs,hn⟩:=Zq412 (show (rput c f seq n).2.2.2=true by rw [h])
 have hm:=Zq510 hc seq
 have hcc:=Rg.ok hc
 rw [Zq781 hc hf hs hn] at h
 have hff:=Fl.ok_iff.1 hf
 split at h
 ·rename_i hlt
  simp only [Prod.mk.injEq,and_true] at h
  obtain ⟨rfl,rfl,rfl⟩:=h
  have hset:(Fl.put ⟨f.set+1,0,0,0,0⟩ (seq % c.splay) (22+n)).set=f.set+1:=Fl.put_set _ _ _
  have he:=Fl.empty_ok (s:=f.set+1) hc (by omega)
  refine ⟨by rw [hset],Fl.put_ok (by omega) he,Fl.put_ne ⟨hm.1,hm.2.2⟩ (by omega),fun e=>(by cases e),fun _=>⟨hset,hlt,fun o h0 h4=>?_,?_⟩⟩
  ·rw [Fl.get_put ⟨hm.1,hm.2.2⟩ ⟨h0,h4⟩,Fl.empty_get]
  ·rw [Zq781 hc he hs hn,Fl.empty_get,if_neg (by omega)]
   simp
 ·rename_i hlt
  simp only [Prod.mk.injEq,and_true] at h
  obtain ⟨rfl,rfl,rfl⟩:=h
  have hg:=Fl.get_le hf (seq % c.splay)
  have hset:(f.put (seq % c.splay) (f.get (seq % c.splay)+(22+n))).set=f.set:=Fl.put_set _ _ _
  refine ⟨by rw [hset],Fl.put_ok (by omega) hf,Fl.put_ne ⟨hm.1,hm.2.2⟩ (by omega),fun _=>⟨hset,fun o h0 h4=>?_⟩,fun e=>(by cases e)⟩
  rw [Fl.get_put ⟨hm.1,hm.2.2⟩ ⟨h0,h4⟩]
  split
  ·rename_i e;rw [e]
  ·rfl
theorem Stepped.set_le {c:Rg} {f:Fl} {seq n:Int} {g:Fl} {p:Pl} {nx:Bool} (h:Stepped c f seq n g p nx):f.set≤g.set∧g.set≤f.set+1:=by
 cases nx with
 | false=>have:=(h.same rfl).1;omega
 | true=>have:=(h.next rfl).1;omega
theorem Zq276 {c:Rg} {s0:Int}:∀ {es:List En} {ps:List Pl} {f0 f:Fl},laid c s0 es ps f0 f→f0.set+es.length≤1000000000→layGo c s0 es f0=(es,ps,f)
 | [],[],f0,f,h,_=>by cases (h:f=f0);rfl
 | [],_::_,_,_,h,_=>h.elim
 | _::_,[],_,_,h,_=>h.elim
 | e::es,p::ps,f0,f,h,hb=>by
  obtain ⟨g,nx,h1,h2,h3⟩:=h
  simp only [List.length_cons] at hb
  have hst:=Zq211 h1 (by omega)
  have hle:=hst.set_le
  unfold layGo
  rw [h1]
  simp only
  rw [if_neg (by rw [not_or];exact ⟨hst.ne,fun q=>by omega⟩),Zq276 h3 (by omega)]
def Zq84 (p:Pl):List En→List Pl→List En
 | e::es,q::ps=>if q=p then e::Zq84 p es ps else Zq84 p es ps
 | _,_=>[]
theorem Zq212 (p:Pl):∀ {a b:List En} {pa pb:List Pl},pa.length=a.length→Zq84 p (a++b) (pa++pb)=Zq84 p a pa++Zq84 p b pb
 | [],b,[],pb,_=>rfl
 | e::a,b,q::pa,pb,h=>by
  have ih:=Zq212 p (a:=a) (b:=b) (pa:=pa) (pb:=pb) (by simpa using h)
  simp only [Zl2,Zq84,ih]
  split <;> rfl
def Zq282 (es:List En):Int:=(es.map fun e=>(22:Int)+e.data.length).sum
theorem Zq559 (es:List En):((Zq41 es).length:Int)=Zq282 es:=by
 induction es with
 | nil=>rfl
 | cons e es ih =>
  rw [Zq149,List.length_append,Zq38]
  have:Zq282 (e::es)=22+e.data.length+Zq282 es:=rfl
  omega
structure LaidAt (c:Rg) (s0:Int) (es:List En) (ps:List Pl) (f:Fl):Prop where
 ok:f.okB c=true
 len:ps.length=es.length
 from_:s0≤f.set∧f.set≤s0+es.length
 inside:f.set - s0<c.sets
 pl:∀ (i:Nat) (e:En) (p:Pl),es[i]?=some e→ps[i]?=some p→s0≤p.set∧p.set≤f.set∧p.obj=e.seq % c.splay
 used:∀ o,0≤o→o<4→f.get o=Zq282 (Zq84 ⟨f.set,o⟩ es ps)
 room:∀ s o,0≤o→o<4→Zq282 (Zq84 ⟨s,o⟩ es ps)≤c.size
 rise:∀ (i j:Nat) (p q:Pl),i≤j→ps[i]?=some p→ps[j]?=some q→p.set≤q.set
theorem Zq188 {p:Pl}:∀ {es:List En} {ps:List Pl},(∀ q ∈ ps,q≠p)→Zq84 p es ps=[]
 | [],[],_=>rfl
 | [],_::_,_=>rfl
 | _::_,[],_=>rfl
 | x::es,q::ps,h=>by
  unfold Zq84
  rw [if_neg (h q (List.mem_cons_self ..))]
  exact Zq188 fun r hr=>h r (List.mem_cons_of_mem _ hr)
theorem Zq413 (a b:List En):Zq282 (a++b)=Zq282 a+Zq282 b:=by
 unfold Zq282
 rw [List.map_append,List.sum_append]
theorem LaidAt.nil {c:Rg} {s0:Int} (hc:c.okB=true) (hs:0≤s0∧s0≤1000000000):LaidAt c s0 [] [] ⟨s0,0,0,0,0⟩:=by
 have:=Rg.ok hc
 exact ⟨Fl.empty_ok hc (by omega),rfl,by simp,by show s0 - s0<_;omega,fun i e p h=>by simp at h,fun o _ _=>(Fl.empty_get _ _).trans rfl,fun s o _ _=>by show (0:Int)≤_;omega,fun i j p q _ h=>by simp at h⟩
theorem LaidAt.snoc {c:Rg} {s0:Int} {es:List En} {ps:List Pl} {f g:Fl} {e:En} {p:Pl} {nx:Bool} (h:LaidAt c s0 es ps f) (hr:rput c f e.seq e.data.length=(g,p,nx,true)) (hin:g.set - s0<c.sets) (hb:f.set≤1000000000):LaidAt c s0 (es++[e]) (ps++[p]) g:=by
 have hst:=Zq211 hr hb
 have hle:=hst.set_le
 have hno:=Zq412 (show (rput c f e.seq e.data.length).2.2.2=true by rw [hr])
 have hm:=Zq510 hno.1 e.seq
 have hl:=h.len
 have hfr:=h.from_
 have hpp:=hst.place
 have hmem:∀ (i:Nat) (q:Pl),ps[i]?=some q→q.set≤f.set:=fun i q hq=>by
  obtain ⟨x,hx⟩:∃ x,es[i]?=some x:=⟨_,List.getElem?_eq_getElem (by have:=(List.getElem?_eq_some_iff.1 hq).1;omega)⟩
  exact (h.pl i x q hx hq).2.1
 have hon:∀ q,Zq84 q (es++[e]) (ps++[p])=Zq84 q es ps++if p=q then [e] else []:=fun q=>by
  rw [Zq212 q hl]
  rfl
 have hus:∀ o,0≤o→o<4→g.get o=Zq282 (Zq84 ⟨g.set,o⟩ (es++[e]) (ps++[p])):=fun o h0 h4=>by
  rw [hon,Zq413]
  have hone:Zq282 (if p=⟨g.set,o⟩ then [e] else [])=if o=e.seq % c.splay then 22+(e.data.length:Int) else 0:=by
   rw [hpp]
   by_cases ho:o=e.seq % c.splay
   ·rw [if_pos (by rw [ho]),if_pos ho]
    show (22:Int)+e.data.length+0=_
    omega
   ·rw [if_neg (by intro q;exact ho (Pl.mk.inj q).2.symm),if_neg ho]
    rfl
  rw [hone]
  cases nx with
  | false =>
   obtain ⟨h1,h2⟩:=hst.same rfl
   rw [h2 o h0 h4,h1,←h.used o h0 h4]
   split <;> omega
  | true =>
   obtain ⟨h1,_,h2,_⟩:=hst.next rfl
   rw [h2 o h0 h4,Zq188 (fun q hq e0=>by
    obtain ⟨i,hi⟩:=List.getElem?_of_mem hq
    have:=hmem i q hi
    rw [e0] at this
    simp only at this
    omega)]
   show _=(0:Int)+_
   split <;> omega
 refine ⟨hst.ok,by simp [hl],by simp only [List.length_append,List.length_cons,List.length_nil];omega,hin,fun i x q hx hq=>?_,hus,fun s o h0 h4=>?_,fun i j a b hij ha hb'=>?_⟩
 ·rw [List.getElem?_append] at hx hq
  by_cases hi:i<es.length
  ·rw [if_pos hi] at hx
   rw [if_pos (by omega)] at hq
   have:=h.pl i x q hx hq
   omega
  ·rw [if_neg hi] at hx
   rw [if_neg (by omega)] at hq
   have hi0:i - es.length=0:=by have:=(List.getElem?_eq_some_iff.1 hx).1;simp at this;omega
   rw [hi0] at hx
   rw [hl,hi0] at hq
   simp only [Zl6,Option.some.injEq] at hx hq
   subst hx hq
   rw [hpp]
   exact ⟨by show s0≤g.set;omega,Int.le_refl _,rfl⟩
 ·by_cases hs:s=g.set
  ·subst hs
   rw [←hus o h0 h4]
   exact (Fl.get_le hst.ok o).2
  ·rw [hon,if_neg (by rw [hpp];intro q;exact hs (Pl.mk.inj q).1.symm),List.append_nil]
   exact h.room s o h0 h4
 ·rw [List.getElem?_append] at ha hb'
  by_cases hj:j<ps.length
  ·rw [if_pos hj] at hb'
   rw [if_pos (by omega)] at ha
   exact h.rise i j a b hij ha hb'
  ·rw [if_neg hj] at hb'
   have hj0:j - ps.length=0:=by have:=(List.getElem?_eq_some_iff.1 hb').1;simp at this;omega
   rw [hj0] at hb'
   simp only [Zl6,Option.some.injEq] at hb'
   subst hb'
   by_cases hi:i<ps.length
   ·rw [if_pos hi] at ha
    have:=hmem i a ha
    rw [hpp]
    simp only
    omega
   ·rw [if_neg hi,show i - ps.length=0 by omega] at ha
    simp only [Zl6,Option.some.injEq] at ha
    subst ha
    omega
theorem Zq277 {c:Rg} {s0:Int}:∀ {b a:List En} {pa pb:List Pl} {f g:Fl},LaidAt c s0 a pa f→laid c s0 b pb f g→f.set+b.length≤1000000000→LaidAt c s0 (a++b) (pa++pb) g
 | [],a,pa,[],f,g,h,h1,_=>by cases (h1:g=f);simpa using h
 | [],_,_,_::_,_,_,_,h,_=>h.elim
 | _::_,_,_,[],_,_,_,h,_=>h.elim
 | e::b,a,pa,p::pb,f,g,h,h1,hb=>by
  obtain ⟨k,nx,h3,h4,h5⟩:=h1
  simp only [List.length_cons] at hb
  have h6:=h.snoc h3 h4 (by omega)
  have hle:=(Zq211 h3 (by omega)).set_le
  have:=Zq277 h6 h5 (by omega)
  simpa using this
theorem Zq869 {c:Rg} {s0:Int} {es:List En} {ps:List Pl} {f:Fl} (hc:c.okB=true) (h:laid c s0 es ps ⟨s0,0,0,0,0⟩ f) (h0:0≤s0) (hb:s0+es.length≤1000000000):LaidAt c s0 es ps f:=by
 have:=Zq277 (LaidAt.nil (s0:=s0) hc (by omega)) h hb
 simpa using this
theorem Zq782 {c:Rg} {p:Pl} (hc:c.okB=true) (h1:0≤p.set∧p.set≤1000000000) (h2:0≤p.obj∧p.obj<c.splay):rnum c p=p.set % c.sets*c.splay+p.obj:=by
 unfold rnum
 rw [if_neg (by rw [hc];simp;omega)]
theorem Zq783 {c:Rg} (hc:c.okB=true) (p:Pl):0≤rnum c p∧rnum c p<32:=by
 have h:=Rg.ok hc
 unfold rnum
 split
 ·omega
 ·rename_i hn
  simp only [not_or] at hn
  have h1:=Int.emod_nonneg p.set (show c.sets≠0 by omega)
  have h2:=Int.emod_lt_of_pos p.set (show 0<c.sets by omega)
  have h3:p.set % c.sets*c.splay≤7*c.splay:=Int.mul_le_mul_of_nonneg_right (by omega) (by omega)
  have h4:0≤p.set % c.sets*c.splay:=Int.mul_nonneg h1 (by omega)
  omega
theorem Zq819 {c:Rg} {p q:Pl} (hc:c.okB=true) {s0:Int} (h0:0≤s0) (hp1:s0≤p.set∧p.set<s0+c.sets∧p.set≤1000000000) (hp2:0≤p.obj∧p.obj<c.splay) (hq1:s0≤q.set∧q.set<s0+c.sets∧q.set≤1000000000) (hq2:0≤q.obj∧q.obj<c.splay) (h:rnum c p=rnum c q):p=q:=by
 rw [Zq782 hc (by omega) hp2,Zq782 hc (by omega) hq2] at h
 have hcc:=Rg.ok hc
 have e1:(p.set % c.sets*c.splay+p.obj) % c.splay=p.obj:=by
  rw [Int.add_comm,Int.add_mul_emod_self_right]
  exact Int.emod_eq_of_lt hp2.1 hp2.2
 have e2:(q.set % c.sets*c.splay+q.obj) % c.splay=q.obj:=by
  rw [Int.add_comm,Int.add_mul_emod_self_right]
  exact Int.emod_eq_of_lt hq2.1 hq2.2
 have ho:p.obj=q.obj:=by rw [←e1,←e2,h]
 have hm:p.set % c.sets=q.set % c.sets:=by
  have h5:p.set % c.sets*c.splay=q.set % c.sets*c.splay:=by omega
  exact Int.eq_of_mul_eq_mul_right (show c.splay≠0 by omega) h5
 have hs:p.set=q.set:=by
  have d1:=Int.emod_add_mul_ediv p.set c.sets
  have d2:=Int.emod_add_mul_ediv q.set c.sets
  have h6:c.sets*(p.set / c.sets) - c.sets*(q.set / c.sets)=p.set - q.set:=by omega
  have h7:c.sets*(p.set / c.sets - q.set / c.sets)=p.set - q.set:=by rw [Int.mul_sub];exact h6
  have h8:p.set / c.sets - q.set / c.sets=0:=by
   rcases Int.lt_trichotomy (p.set / c.sets - q.set / c.sets) 0 with h9|h9|h9
   ·exfalso
    have:c.sets*(p.set / c.sets - q.set / c.sets)≤c.sets*(-1):=Int.mul_le_mul_of_nonneg_left (by omega) (by omega)
    omega
   ·exact h9
   ·exfalso
    have:c.sets*1≤c.sets*(p.set / c.sets - q.set / c.sets):=Int.mul_le_mul_of_nonneg_left (by omega) (by omega)
    omega
  rw [h8] at h7
  omega
 cases p;cases q
 simp only at hs ho
 rw [hs,ho]
theorem Zq173 (c:Rg) (k:K4):∀ (es:List En) (ps:List Pl) (m:List (K4 × List Int)),Zq19 (Zq235 c es ps m) k=Zq19 m k++Zq41 ((es.zip ps).filterMap fun x=>if keyOf c x.2=k then some x.1 else none)
 | [],[],m=>by simp [Zq235,Zq41]
 | [],_::_,m=>by simp [Zq235,Zq41]
 | _::_,[],m=>by simp [Zq235,Zq41]
 | e::es,p::ps,m=>by
  unfold Zq235
  rw [Zq173 c k es ps,List.zip_cons_cons,List.filterMap_cons]
  have hw:Zq19 (Zq281 m (keyOf c p) (Zq46 e)) k=Zq19 m k++if keyOf c p=k then Zq46 e else []:=by
   unfold Zq19 Zq281
   by_cases h:keyOf c p=k
   ·subst h
    rw [Zq44,if_pos rfl]
    rfl
   ·rw [Zq74 (fun e0=>h e0.symm),if_neg h,List.append_nil]
  rw [hw]
  by_cases h:keyOf c p=k
  ·simp only [h,if_true]
   rw [Zq149,List.append_assoc]
  ·simp only [h,if_false,List.append_nil]
end Go.Proofs.YtpjchngjhijgmaaGreat
namespace Go.Proofs.YtpjchngjhijgmaaGreat
open Go.RowKit
theorem Zq662:(Tryz.prog.info? 46).map (fun i=>(i.zero,i.size,i.bytes))=some (some (.slice none 0 0),1,24):=by kernel_rfl
section
variable {W w w' : World} {I : Hp} {l : List HP} {p q : Nat} {J : Jn} {S : Str}
theorem Zq870 (w:World) (x:Value) (t:TypeId) (hx:x.oneCell'=true):SliceSrc (w.alloc (.cells #[x] t)) 1 (.slice (some ⟨w.heap.size,0,none⟩) 1 1) 1 [x]:=by
 refine ⟨_,_,rfl,⟨rfl,fun _=>⟨_,rfl,fun j u hu=>?_⟩,fun u hu=>?_⟩,fun e=>by cases e⟩
 ·rw [add_plain,Nat.zero_add,Zq1 (heap_alloc_new _ _) j,←hu]
  simp
 ·simp only [List.mem_cons,List.not_mem_nil,or_false] at hu
  rw [hu];exact hx
theorem St.rows_nil (h:St W I w l):St W I w (Zq280 (.slice none 0 0) []::l):=by
 refine St.ex_shut [] (St.all_shut ?_)
 exact (St.imm_shut (A:=⟨fun I=>∀ (i:Nat) (r:List Int),([]:List (List Int))[i]?=some r→∃ x,([]:List Value)[i]?=some x∧BytesI I x r∧∀ y ∈ r,isByte y,_⟩) (fun i r hr=>by simp at hr) (h.win_nil _ _)).pull 1 _ rfl
theorem St.rows_append {v x:Value} {rs:List (List Int)} {r:List Int} {g:Nat} (hg:g=w.heap.size) (h:St W I w (Zq280 v rs::l)) (hd:BytesI I x r) (hb:∀ y ∈ r,isByte y) (hn:rs.length+1≤1000000000) :
  ∃ A' c' w',(Builtin.append_ #[22,22] 22 #[v,.slice (some ⟨g,0,none⟩) 1 1]).run Tryz.prog (w.alloc (.cells #[x] 46))=.ok (.slice A' (rs.length+1) c') w'∧St W I w' (Zq280 (.slice A' (rs.length+1) c') (rs++[r])::l):=by
 subst hg
 obtain ⟨vs,h1⟩:=h.ex_open
 obtain ⟨hI,h2⟩:=((h1.all_open).pull 1 _ rfl).imm_open
 have hl:=St.win_len h2
 rw [Nat.mul_one] at hl
 obtain ⟨i0,hi0,hz0,hz1,hz2⟩:=info_parts Zq662
 obtain ⟨A0,c0,e0⟩:=hd.isSl
 have hone:∀ u ∈ vs,u.oneCell'=true:=by
  intro u hu
  obtain ⟨i,hi⟩:=List.getElem?_of_mem hu
  have hil:=(List.getElem?_eq_some_iff.1 hi).1
  obtain ⟨y,hy1,hy2,_⟩:=hI i _ (List.getElem?_eq_getElem (by omega))
  rw [hi] at hy1
  obtain rfl:=Option.some.inj hy1
  obtain ⟨A,c,e⟩:=hy2.isSl
  rw [e];rfl
 have h3:=h2.keep (Zq7 w (.cells #[x] 46))
 obtain ⟨v',w',hr,h4⟩:=h3.win_append (t:=22) (ty:=22) Tryz.underlying22 hi0 hz0 hz1 hz2 rfl (by decide) (by decide) hone (Zq870 w x _ (by rw [e0];rfl)) hn
 obtain ⟨A',c',e3,_⟩:=h4.win_slice
 subst e3
 refine ⟨A',c',w',hr,St.ex_shut (vs++[x]) (St.all_shut ?_)⟩
 rw [List.length_append,List.length_singleton]
 refine (St.imm_shut (A:=⟨fun I=>∀ (i:Nat) (r':List Int),(rs++[r])[i]?=some r'→∃ x',(vs++[x])[i]?=some x'∧BytesI I x' r'∧∀ y ∈ r',isByte y,_⟩) ?_ h4).pull 1 _ rfl
 intro i r' hr'
 rw [List.getElem?_append] at hr' ⊢
 by_cases hi:i<rs.length
 ·rw [if_pos hi] at hr'
  rw [if_pos (by omega)]
  exact hI i r' hr'
 ·rw [if_neg hi] at hr'
  rw [if_neg (by omega)]
  have hi0:i - rs.length=0:=by have:=(List.getElem?_eq_some_iff.1 hr').1;simp at this;omega
  rw [hi0] at hr'
  rw [hl,hi0]
  simp only [Zl6,Option.some.injEq] at hr' ⊢
  subst hr'
  exact ⟨x,rfl,hd,hb⟩
end
theorem Zq663:∀ (f:Nat) (r:List Int),∀ e ∈ (allGo f r).1,e.okB=true
 | 0,_=>fun e h=>by cases h
 | f+1,r=>fun e h=>by
  unfold allGo at h
  split at h
  ·cases h
  ·rename_i hk
   rcases List.mem_cons.1 h with rfl|h
   ·exact (Zq346 (by simpa using hk)).2.2.1
   ·exact Zq663 f _ e h
theorem Zq511:∀ (f:Nat) (m:List (Int × En)) (s:Int),∀ e ∈ runGo f m s,∃ k,get k m=some e
 | 0,_,_=>fun e h=>by cases h
 | f+1,m,s=>fun e h=>by
  unfold runGo at h
  cases hg:get s m with
  | none=>rw [hg] at h;cases h
  | some x =>
   rw [hg] at h
   rcases List.mem_cons.1 h with rfl|h
   ·exact ⟨s,hg⟩
   ·exact Zq511 f m (s+1) e h
theorem Zq512:∀ (f:Nat) (m:List (Int × En)) (s:Int),(runGo f m s).length≤f
 | 0,_,_=>Nat.le_refl _
 | f+1,m,s=>by
  unfold runGo
  split
  ·exact Nat.zero_le _
  ·exact Nat.succ_le_succ (Zq512 f m (s+1))
theorem Zq740 {rs:List (List Int)} {s:Int}:∀ e ∈ Zq177 rs s,e.okB=true:=by
 intro e he
 unfold Zq177 at he
 split at he
 ·cases he
 ·obtain ⟨k,hk⟩:=Zq511 _ _ _ e he
  rw [Zq187] at hk
  obtain ⟨hm,_⟩:=Zq403 hk
  obtain ⟨r,_,hr⟩:=List.mem_flatMap.1 hm
  exact Zq663 _ _ e hr
theorem Zq664 {rs:List (List Int)} {s:Int} (h:∀ r ∈ rs,r.length≤23000):(Zq177 rs s).length≤1000*rs.length:=by
 unfold Zq177
 split
 ·exact Nat.zero_le _
 ·have h1:=Zq512 (cntM (Zq50 rs) s) (Zq50 rs) s
  have h2:=Zq780 (Zq50 rs) s
  have h3:=Zq186 rs [] h
  unfold runM
  unfold Zq50 at h1 h2 ⊢
  simp only [List.length_nil] at h3
  omega
theorem Zq414 {ts:List Tag} {es:List En}:(∀ e ∈ tagged ts es,e ∈ es)∧(tagged ts es).length≤es.length :=
 ⟨fun _ h=>(List.takeWhile_sublist _).subset h,(List.takeWhile_prefix _).length_le⟩
theorem Zq665 {c:Rg} {s0:Int} (hc:c.okB=true):∀ (es:List En) (f:Fl),f.okB c=true→f.set+es.length≤1000000000→(layGo c s0 es f).2.2.okB c=true
 | [],f,h,_=>h
 | e::es,f,h,hb=>by
  unfold layGo
  split
  ·exact h
  ·rename_i hn
   rw [not_or] at hn
   simp only [List.length_cons] at hb
   obtain ⟨⟨g,p,nx,ok⟩,hr⟩:∃ x,x=rput c f e.seq e.data.length:=⟨_,rfl⟩
   rw [←hr] at hn ⊢
   cases ok with
   | true =>
    have hst:=Zq211 hr.symm (by omega)
    exact Zq665 hc es g hst.ok (by have:=hst.set_le;omega)
   | false =>
    exfalso
    apply hn.1
    have h1:(rput c f e.seq e.data.length).2.2.2=false:=by rw [←hr]
    unfold rput at hr h1
    split at h1
    ·rename_i hcc
     rw [if_pos hcc] at hr
     simp only [Prod.mk.injEq] at hr
     exact hr.1
    ·split at h1 <;> cases h1
theorem Zq513 {c:Rg} {s0:Int}:∀ (es:List En) (f:Fl),∀ e ∈ (layGo c s0 es f).1,e ∈ es
 | [],_=>fun e h=>h
 | x::es,f=>fun e h=>by
  unfold layGo at h
  split at h
  ·cases h
  ·rcases List.mem_cons.1 h with rfl|h
   ·exact List.mem_cons_self ..
   ·exact List.mem_cons_of_mem _ (Zq513 es _ e h)
theorem Zq871 {J:Jn} (h:J.r.Ok) (hs:J.r.set≤1000000) (hn:J.l.length≤100000) (hsf:0≤J.safe∧J.safe≤3299023255552):JB (layJ J):=by
 have hl:=Zq504 J.r.shape J.r.set J.l (layF J.r)
 have hset:=h.set
 refine ⟨h,Nat.le_trans hl.2 hn,hl.1,?_,hsf⟩
 exact Zq665 h.shape J.l (layF J.r) (Fl.empty_ok h.shape (by omega)) (by show J.r.set+_≤_;omega)
end Go.Proofs.YtpjchngjhijgmaaGreat
