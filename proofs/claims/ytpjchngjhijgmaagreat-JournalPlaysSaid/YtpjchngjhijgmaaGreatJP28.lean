import Derived.Test.YtpjchngjhijgmaaGreatJP27
set_option linter.all false
set_option maxRecDepth 4000
set_option maxHeartbeats 8000000
open Go.RowKit
open Go.IntKind (i64 u64)
open Go.Value (int pointer slice)
open Go.Obj (cells)
namespace Go.Proofs.YtpjchngjhijgmaaGreat
open Tryz
open HP (pt mapOf)
variable {W w w':World} {I:Hp} {l:List HP}
theorem Zk0 (c:Rg) (p:Pl):∀ (es:List En) (ps:List Pl),(∀ q ∈ ps,keyOf c q=keyOf c p->q=p)->((es.zip ps).filterMap fun x=>if keyOf c x.2=keyOf c p then some x.1 else none)=ZbP p es ps
 | [],[],_=>rfl
 | [],_::_,_=>rfl
 | _::_,[],_=>rfl
 | e::es,q::ps,h=>by
  have ih:=Zk0 c p es ps fun q hq=>h q (ZaB _ hq);rw [List.zip_cons_cons,List.filterMap_cons];unfold ZbP;by_cases e1:q=p
  ·subst e1;simp only [Zan];rw [ih]
  ·have:keyOf c q≠keyOf c p:=fun e2=>e1 (h q (Zat ..) e2);simp only [this,e1,Zas];exact ih
theorem ZdM (J:Jn) (k:K4):Zl (rowsJ J) k=Zar ((J.l.zip J.at_).filterMap fun x=>if keyOf J.r.shape x.2=k then some x.1 else none):=by
 unfold rowsJ;rw [Zf0];have hw:Zl ([]:List (K4 × List Int)) k=[]:=by simp [Zl,get]
 rw [hw,Zu]
theorem JOK.place {S:Str} {J:Jn} (h:JOK S J) {q:Pl} (hq:q ∈ J.at_):J.r.set<=q.set∧q.set<J.r.set+J.r.shape.sets∧q.set<=J.fill.set∧q.set<=1000000000∧0<=q.obj∧q.obj<J.r.shape.splay:=by
 have hA:=h.at;have hs:=h.small;obtain ⟨i,hi⟩:=ZbH hq;have hil:=(ZH.1 hi).1;have he:J.l[i]?=some (J.l[i]'(by rw [<-hA.len];exact hil)):=Zy _;obtain ⟨h1,h2,h3⟩:=hA.pl i _ q he hi;have h4:=hA.inside;have h5:=hA.from_;have h6:=ZeP h.ok.shape (J.l[i]'(by rw [<-hA.len];exact hil)).seq;rw [h3];omega
theorem JOK.wantPlace {S:Str} {J:Jn} (h:JOK S J) {p:Pl} (h1:J.r.set<=p.set∧p.set<J.r.set+J.r.shape.sets) (h2:0<=p.obj∧p.obj<J.r.shape.splay):Zl (rowsJ J) (keyOf J.r.shape p)=Zar (ZbP p J.l J.at_):=by
 rw [ZdM];refine congrArg Zar (Zk0 _ _ _ _ fun q hq e=>?_);obtain ⟨a,b,c,d,e1,e2⟩:=h.place hq;have hc:=Rg.ok h.ok.shape;have hs:=h.small;have hs0:=h.ok.set;have e':=congrArg K4.num e;exact Zmh h.ok.shape hs0.1 ⟨a,b,d⟩ ⟨e1,e2⟩ ⟨h1.1,h1.2,by omega⟩ h2 e'
theorem Zsu {c:Rg} {f:Fl} {seq n:Int} (h:(rput c f seq n).1≠Fl.zero):(rput c f seq n).2.2.2=true:=by
 unfold rput at h |-;split
 ·rename_i q;rw [Zb q] at h;exact absurd rfl h
 ·split <;> rfl
theorem JOK.fits {S:Str} {J:Jn} (h:JOK S J) {n:Int} (hf:fitsJ J [n]=true):∃ g p nx,rput J.r.shape J.fill (endJ J+1) n=(g,p,nx,true)∧g.set - J.r.set<J.r.shape.sets:=by
 unfold fitsJ at hf;unfold Zc4 at hf;split at hf
 ·cases hf
 ·rename_i h1;split at hf
  ·cases hf
  ·rename_i h2;have h3:=Zsu h1;refine ⟨_,_,_,Prod.ext rfl (Prod.ext rfl (Prod.ext rfl h3)),?_⟩;exact (show _ from by omega:(rput J.r.shape J.fill (endJ J+1) n).1.set - J.r.set<J.r.shape.sets)
theorem JOK.appRoom {S:Str} {J:Jn} (h:JOK S J) {n:Int} {g:Fl} {p:Pl} {nx:Bool} (hr:rput J.r.shape J.fill (endJ J+1) n=(g,p,nx,true)) (hin:g.set - J.r.set<J.r.shape.sets) :
  Zl (rowsJ J) (keyOf J.r.shape p)=Zar (ZbP p J.l J.at_)∧(Zl (rowsJ J) (keyOf J.r.shape p)).length+(22+n)<=J.r.shape.size∧J.r.set<=p.set∧p.set<J.r.set+J.r.shape.sets∧0<=p.obj∧p.obj<J.r.shape.splay:=by
 have hA:=h.at;have hs:=h.small;have h5:=hA.from_;have hst:=Zcl hr (by omega);have hm:=ZeP h.ok.shape (endJ J+1);have hno:=ZdT (show (rput J.r.shape J.fill (endJ J+1) n).2.2.2=true by rw [hr]);have hle:=hst.set_le;have hp:=hst.place;have hp1:p.set=g.set:=by rw [hp]
 have hp2:p.obj=(endJ J+1) % J.r.shape.splay:=by rw [hp]
 have hw:=h.wantPlace (p:=p) (by omega) (by omega);refine ⟨hw,?_,by omega,by omega,by omega,by omega⟩;rw [hw,ZoO];cases nx with
 | false =>
  obtain ⟨e1,e2⟩:=hst.same rfl;have h6:=e2 ((endJ J+1) % J.r.shape.splay) hm.1 (by omega);rw [Zb rfl] at h6;have h7:=hA.used ((endJ J+1) % J.r.shape.splay) hm.1 (by omega);have h8:=Fl.get_le hst.ok ((endJ J+1) % J.r.shape.splay);have e3:p=⟨J.fill.set,(endJ J+1) % J.r.shape.splay⟩:=by rw [hp,e1]
  rw [e3];omega
 | true =>
  obtain ⟨e1,e2,e3,e4⟩:=hst.next rfl;have h6:=e3 ((endJ J+1) % J.r.shape.splay) hm.1 (by omega);rw [Zb rfl] at h6;have h8:=Fl.get_le hst.ok ((endJ J+1) % J.r.shape.splay);have:ZbP p J.l J.at_=[]:=Zg6 fun q hq e=>by
   have:=(h.place hq).2.2.1;rw [e] at this;omega
  rw [this];show (0:Int)+_<=_;omega
theorem Zrl {J:Jn} (hl:J.at_.length=J.l.length) (e:En) (p:Pl) (g:Fl) (k:K4):Zl (rowsJ (addJ J e p g)) k=Zl (rowsJ J) k++if keyOf J.r.shape p=k then Zah e else []:=by
 rw [ZdM,ZdM];show Zar (((J.l++[e]).zip (J.at_++[p])).filterMap _)=_;rw [List.zip_append hl.symm,List.filterMap_append,ZgS];congr 1;by_cases q:keyOf J.r.shape p=k
 ·rw [Zb q];show Zar ((([e].zip [p]).filterMap fun x=>if keyOf J.r.shape x.2=k then some x.1 else none))=_;simp [q,Zar]
 ·rw [Za q];show Zar ((([e].zip [p]).filterMap fun x=>if keyOf J.r.shape x.2=k then some x.1 else none))=_;simp [q,Zar]
theorem Zsv {c:Rg} {s0:Int} {e:En} {p:Pl} {f g:Fl} {nx:Bool} (h:rput c f e.seq e.data.length=(g,p,nx,true)) (hin:g.set - s0<c.sets):laid c s0 [e] [p] f g:=⟨g,nx,h,hin,rfl⟩
theorem ZlK:∀ {es:List En} {s:Int} {e:En},runs es s->e.seq=s+es.length->runs (es++[e]) s
 | [],s,e,_,he=>⟨by simpa using he,trivial⟩
 | x::es,s,e,h,he=>⟨h.1,ZlK h.2 (by rw [he];simp only [Z9];omega)⟩
theorem JOK.added {S S':Str} {J:Jn} {e:En} {g:Fl} {p:Pl} {nx:Bool} (h:JOK S J) (hl:LiveJ UJn S') (he:e.okB=true∧e.bytes) (hs:e.seq=endJ J+1) (ht:e.tag=tagOf J.r.tags e.seq)
  (hr:rput J.r.shape J.fill e.seq e.data.length=(g,p,nx,true)) (hin:g.set - J.r.set<J.r.shape.sets) (hn:J.r.set+J.l.length<1000000∧J.l.length<100000)
  (hk:get kJ S'.seen=get kJ S.seen) (hp:(get (keyOf J.r.shape p) S'.seen).map (·.b)=some (Zl (rowsJ J) (keyOf J.r.shape p)++Zah e)) (ho:∀ k,k≠kJ->k≠keyOf J.r.shape p->get k S'.seen=get k S.seen):JOK S' (addJ J e p g):=by
 have hA:=h.at;refine ⟨hl,h.ok,?_,?_,?_,?_,?_,?_,h.dead,h.safe⟩
 ·show J.r.set+((J.l++[e]).length:Int)<=_∧(J.l++[e]).length<=_;rw [Zs,ZcT];omega
 ·exact ZlK (s:=J.r.first) h.run (by rw [hs];unfold endJ;omega)
 ·intro x hx;rcases Za6.1 hx with hx|hx
  ·exact h.ents x hx
  ·rw [Zbj.1 hx];exact ⟨he.1,he.2,ht⟩
 ·exact ZjW h.lay (Zsv hr hin)
 ·obtain ⟨t,h1,h2⟩:=h.rec_;exact ⟨t,hk.trans h1,h2⟩
 ·intro k hne;rw [Zrl hA.len];by_cases q:keyOf J.r.shape p=k
  ·subst q;rw [hp,Zb rfl,Za];intro q;have:=congrArg List.length q;rw [Zs,ZcM] at this;simp at this
  ·rw [Za q,Zbc,ho k hne fun e=>q e.symm];exact h.rows k hne
theorem Zmm (b p:List Int):layB b b.length p=b++p:=by
 unfold layB;split
 ·rename_i e;rw [e,Zbc]
 ·rw [show b.length+p.length - b.length=p.length by omega,ZdJ,ZbS (by omega),Zbc];rfl
def appsJ (S:Str) (k:K4) (b:List Int) (fr:List Int):List DStep:=match get k S.seen with
 | none=>[.deed k madeD,.deed k (ZbQ 0 fr)]
 | some _=>[.deed k (ZbQ b.length fr)]
theorem Zmn {S:Str} {k:K4} {b fr:List Int} (hk:k ∈ UJn) (hb:∀ y ∈ fr,isByte y) (hn:b.length+fr.length<=4096):∀ s ∈ appsJ S k b fr,ZcD UJn s:=by
 intro s hs;unfold appsJ at hs;split at hs
 ·rcases Z4.1 hs with rfl|hs
  ·exact ⟨hk,.inl rfl⟩
  ·rw [Zbj.1 hs];exact ⟨hk,.inr (.inr (.inl ⟨rfl,Zdc 0,by show (0:Int)+(fr.length:Int)<=_;omega,hb⟩))⟩
 ·rw [Zbj.1 hs];exact ⟨hk,.inr (.inr (.inl ⟨rfl,by show (0:Int)<=(b.length:Int);omega,by show (b.length:Int)+(fr.length:Int)<=_;omega,hb⟩))⟩
theorem Zk1 {S:Str} (h:LiveJ UJn S) {k:K4} {b fr:List Int} (hk:k ∈ UJn) (hs:(get k S.seen).map (·.b)=if b=[] then none else some b) (hn:b.length+fr.length<=4096) :
  execS (appsJ S k b fr) S=if (madeS S k).1≠0 then madeS S k else ZaJ (madeS S k).2 k fr:=by
 have hok:=(ZaD.all k hk).2;unfold appsJ;cases hg:get k S.seen with
 | none =>
  have hw:whyS S k=4:=by rw [h.why hok,hg];rfl
  have hm:=h.make ZaD hok hg;have hmd:madeS S k=stepE S (.deed k madeD):=by
   unfold madeS;rw [hw,Zb (by omega),hm]
  rw [hmd];show thenE (stepE S (.deed k madeD)) (execS [.deed k (ZbQ 0 fr)])=_;unfold thenE;by_cases h0:(stepE S (.deed k madeD)).1=0
  ·rw [Zb h0,Za (by simp [h0]),ZdP];obtain ⟨h1,h2⟩:=Zfr h ZaD hk (.inl rfl) h0;have h3:=h2 k;rw [Zb rfl,hg] at h3;have h4:get k (stepE S (.deed k madeD)).2.seen=some ⟨[],[]⟩:=h3;exact (h1.append ZaD hok h4 (p:=fr) (by show 0+_<=_;omega)).symm
  ·rw [Za h0,Zb h0]
 | some t =>
  rw [hg] at hs;simp only [Zct] at hs;have hb:t.b=b:=by
   split at hs
   ·cases hs
   ·simpa using hs
  have hw:whyS S k=0:=by rw [h.why hok,hg];rfl
  have hmd:madeS S k=(0,S):=by
   unfold madeS;rw [hw,Za (by omega)]
  rw [hmd];simp only;rw [Za (by omega),ZdP,h.append ZaD hok hg (p:=fr) (by rw [hb];omega),hb]
theorem Zp4 {S:Str} (h:LiveJ UJn S) {k:K4} {b fr:List Int} (hk:k ∈ UJn) (hs:(get k S.seen).map (·.b)=if b=[] then none else some b) (hb:∀ y ∈ fr,isByte y) (hn:b.length+fr.length<=4096) (h0:(execS (appsJ S k b fr) S).1=0) :
  LiveJ UJn (execS (appsJ S k b fr) S).2∧(get k (execS (appsJ S k b fr) S).2.seen).map (·.b)=some (b++fr)∧∀ k',k'≠k->get k' (execS (appsJ S k b fr) S).2.seen=get k' S.seen:=by
 obtain ⟨h2,h3⟩:=ZdU ZaD h (Zmn hk hb hn) h0;have hv:∀ k',get k' (execS (appsJ S k b fr) S).2.seen=Zaq (appsJ S k b fr) (ZbE S) k':=fun k'=>congrFun h3 k';refine ⟨h2,?_,fun k' hk'=>?_⟩
 ·rw [hv k];unfold appsJ;cases hg:get k S.seen with
  | none =>
   rw [hg] at hs;have he:b=[]:=by
    by_cases q:b=[]
    ·exact q
    ·rw [Za q] at hs;cases hs
   subst he;simp only [Zaq,Zco,Zan];show some (layB [] 0 fr)=_;exact congrArg some (Zmm [] fr)
  | some t =>
   rw [hg] at hs;simp only [Zct] at hs;have hb:t.b=b:=by
    split at hs
    ·cases hs
    ·simpa using hs
   simp only [Zaq,Zco,Zan];rw [show ZbE S k=some t from hg];show some (layB t.b (b.length:Int).toNat fr)=_;rw [hb,Zeu,Zmm]
 ·rw [hv k'];unfold appsJ;split <;> simp [Zaq,Zco,hk',ZbE]
theorem JOK.append {S:Str} {J:Jn} {d:List Int} (h:JOK S J) (hd:1<=d.length∧d.length<=90) (hb:∀ y ∈ d,isByte y) (hf:fitsJ J [(d.length:Int)]=true) (hn:J.r.set+J.l.length<1000000∧J.l.length<100000) :
  ∃ g p nx,rput J.r.shape J.fill (endJ J+1) d.length=(g,p,nx,true)∧g.set - J.r.set<J.r.shape.sets ∧
   (∀ s ∈ appsJ S (keyOf J.r.shape p) (Zl (rowsJ J) (keyOf J.r.shape p)) (Zah (newE J d)),ZcD UJn s) ∧
   Zbd S J d=(if (execS (appsJ S (keyOf J.r.shape p) (Zl (rowsJ J) (keyOf J.r.shape p)) (Zah (newE J d))) S).1=0 then ((endJ J+1,0),(execS (appsJ S (keyOf J.r.shape p) (Zl (rowsJ J) (keyOf J.r.shape p)) (Zah (newE J d))) S).2,addJ J (newE J d) p g)
    else ((0,7),(execS (appsJ S (keyOf J.r.shape p) (Zl (rowsJ J) (keyOf J.r.shape p)) (Zah (newE J d))) S).2,deadJ J)) ∧
   ((execS (appsJ S (keyOf J.r.shape p) (Zl (rowsJ J) (keyOf J.r.shape p)) (Zah (newE J d))) S).1=0->JOK (execS (appsJ S (keyOf J.r.shape p) (Zl (rowsJ J) (keyOf J.r.shape p)) (Zah (newE J d))) S).2 (addJ J (newE J d) p g)):=by
 obtain ⟨g,p,nx,hr,hin⟩:=h.fits hf;obtain ⟨hw,hroom,hp1,hp2,hp3,hp4⟩:=h.appRoom hr hin;have hcc:=Rg.ok h.ok.shape;have hno:=ZdT (show (rput J.r.shape J.fill (endJ J+1) d.length).2.2.2=true by rw [hr]);have htag:=Zmk h.ok.tags (seq:=endJ J+1) hno.2.2.1.1;have hE:(newE J d).okB=true:=by
  rw [En.okB_iff];exact ⟨htag,hno.2.2.1,hd.1,hd.2⟩
 have hlen:(Zl (rowsJ J) (keyOf J.r.shape p)).length+(Zah (newE J d)).length<=4096:=by
  rw [ZcM];show _+(22+d.length)<=_;omega
 have hkm:=Zh6 h.ok.shape p;have hfb:=ZnS (e:=newE J d) hb;have hrow:=h.rows (keyOf J.r.shape p) Zir;have hpl:=Zk1 h.live hkm hrow hlen;have hoff:=Zfl (appsJ S (keyOf J.r.shape p) (Zl (rowsJ J) (keyOf J.r.shape p)) (Zah (newE J d))) S;refine ⟨g,p,nx,hr,hin,Zmn hkm hfb hlen,?_,fun h0=>?_⟩
 ·have hmay:mayJ S J=0:=by unfold mayJ;rw [h.dead,h.live.on];simp
  unfold Zbd;rw [Za (by simp [hmay]),Za (by omega),Za (by simp [hf]),hr];simp only;rw [hpl] at hoff |-;obtain ⟨M,hM⟩:=Zn (madeS S (keyOf J.r.shape p));rw [<-hM] at hoff |-;obtain ⟨A,hA⟩:=Zn (ZaJ M.2 (keyOf J.r.shape p) (Zah (newE J d)));rw [<-hA] at hoff |-;by_cases h1:M.1=0
  ·simp only [Zbn,h1,Zdm,Zas] at hoff |-;by_cases h2:A.1=0
   ·simp only [h2,Zdm,Zas,Zan]
   ·rcases hoff with e|e
    ·exact absurd e h2
    ·simp [e,endsJ]
  ·simp only [Zbn,h1,ZdI,Zan,Zas] at hoff |-;rcases hoff with e|e
   ·exact e.elim
   ·simp [e,endsJ]
 ·obtain ⟨h1,h2,h3⟩:=Zp4 h.live hkm hrow hfb hlen h0;exact h.added h1 ⟨hE,hb⟩ rfl rfl hr hin hn (h3 kJ fun e=>Zir e.symm) h2 fun k _ hk=>h3 k hk
theorem JOK.may {S:Str} {J:Jn} (h:JOK S J):mayJ S J=0:=by unfold mayJ;rw [h.dead,h.live.on];simp
theorem JOK.may2 {S:Str} {J:Jn} (h:JOK S J):mayJ2 S J=J:=Zcw h.may
theorem Zj3 (S:Str):(ZB S).1=0∨(ZB S).1=7:=Zml S .bar
theorem JOK.moved {S S':Str} {J:Jn} (h:JOK S J) (hl:LiveJ UJn S') (hs:∀ k,get k S'.seen=get k S.seen) {n:Int} (hn:0<=n∧n<=3299023255552):JOK S' { J with safe:=n }:=by
 obtain ⟨t,h1,h2⟩:=h.rec_;exact h.recd hl ⟨t,(hs kJ).trans h1,h2⟩ (fun k _=>hs k) h.ok rfl rfl rfl (fun _ _=>rfl) hn
theorem JOK.barrier {S:Str} {J:Jn} (h:JOK S J) (h0:(ZB S).1=0):LiveJ UJn (ZB S).2∧∀ k,get k (ZB S).2.seen=get k S.seen:=by
 obtain ⟨a,b,_⟩:=Zfq h.live ZaD (s:=.bar) trivial h0;exact ⟨a,fun k=>congrFun b k⟩
theorem JOK.flush {S:Str} {J:Jn} (h:JOK S J):Zd1 S J=(if (ZB S).1=0 then (0,(ZB S).2,safeJ J) else (7,(ZB S).2,deadJ J))∧((ZB S).1=0->JOK (ZB S).2 (safeJ J)):=by
 refine ⟨?_,fun h0=>?_⟩
 ·unfold Zd1;rw [Za (by simp [h.may])];rcases Zj3 S with e|e
  ·simp [e]
  ·simp [e,endsJ]
 ·obtain ⟨a,b⟩:=h.barrier h0;exact h.moved a b h.ends
theorem JOK.keep {S:Str} {J:Jn} {r:Rc} (h:JOK S J) (ok:r.Ok):keepJ S J r=(if (saveJ S r).1=0 then (0,(saveJ S r).2,recJ J r) else (7,(saveJ S r).2,deadJ J)) ∧
  (r.shape=J.r.shape->r.first=J.r.first->r.set=J.r.set->(∀ e ∈ J.l,tagOf r.tags e.seq=tagOf J.r.tags e.seq)->(saveJ S r).1=0->JOK (saveJ S r).2 (recJ J r)):=by
 obtain ⟨t,ht,hat⟩:=h.rec_;refine ⟨?_,fun e1 e2 e3 e4 h0=>?_⟩
 ·unfold keepJ;rcases Zgl h.live ht ok with e|e
  ·simp [e,endsJ]
  ·simp [e,endsJ]
 ·obtain ⟨a,b,c⟩:=ZeO h.live ht ok h0;exact h.recd (n:=J.safe) a b c ok e1 e2 e3 e4 h.safe
theorem JOK.lead {S:Str} {J:Jn} {ts:List Tag} (h:JOK S J) (hr:Z3 ts=true) (hl:ZcS J ts=true):(tagsR J.r ts).Ok∧leadJ S J ts=(if (saveJ S (tagsR J.r ts)).1=0 then (0,(saveJ S (tagsR J.r ts)).2,recJ J (tagsR J.r ts)) else (7,(saveJ S (tagsR J.r ts)).2,deadJ J)) ∧
  ((saveJ S (tagsR J.r ts)).1=0->JOK (saveJ S (tagsR J.r ts)).2 (recJ J (tagsR J.r ts))):=by
 have ok:(tagsR J.r ts).Ok:=⟨h.ok.shape,h.ok.first,h.ok.set,hr,h.ok.cls⟩;obtain ⟨a,b⟩:=h.keep ok;refine ⟨ok,?_,b rfl rfl rfl fun e he=>?_⟩
 ·unfold leadJ;rw [Za (by simp [h.may]),Za (by simp [hr]),Za (by simp [hl]),a]
 ·unfold ZcS at hl;rw [ZbG] at hl;have:=hl e he;rw [Zk] at this;exact this.trans (h.ents e he).2.2
def ZcB (ks:List K4):List DStep:=ks.map (fun k=>DStep.deed k goneD)++[.bar]
theorem ZhG {ks:List K4} (h:∀ k ∈ ks,k ∈ UJn):∀ s ∈ ZcB ks,ZcD UJn s:=by
 intro s hs;rcases Za6.1 hs with hs|hs
 ·obtain ⟨k,hk,rfl⟩:=Zam.1 hs;exact ⟨h k hk,.inr (.inl rfl)⟩
 ·rw [Zbj.1 hs];exact trivial
theorem Zj4:∀ {ks:List K4} {S:Str},LiveJ UJn S->ks.Nodup->(∀ k ∈ ks,k ∈ UJn∧(get k S.seen).isSome=true)->ZcQ ks S=execS (ZcB ks) S
 | [],S,_,_,_=>(ZdP .bar S).symm
 | k::ks,S,h,hn,hs=>by
  obtain ⟨h1,h2⟩:=hs k (Zat ..);have hn':=ZbR.1 hn;rw [ZjP,h.drop (ZaD.all k h1).2 h2];show _=thenE (stepE S (.deed k goneD)) (execS (ZcB ks));unfold thenE;by_cases h0:(stepE S (.deed k goneD)).1=0
  ·rw [Za (by simp [h0]),Zb h0];obtain ⟨h3,h4⟩:=Zfr h ZaD h1 (.inr (.inl rfl)) h0;refine Zj4 h3 hn'.2 fun k' hk'=>⟨(hs k' (ZaB _ hk')).1,?_⟩;rw [h4 k',Za (fun e:k'=k=>hn'.1 (e ▸ hk'))];exact (hs k' (ZaB _ hk')).2
  ·rw [Zb h0,Za h0]
theorem Ze5 {S:Str} (h:LiveJ UJn S):∀ k ∈ Zp S ⟨2,0⟩,k ∈ UJn∧(get k S.seen).isSome=true:=fun k hk=>by
 obtain ⟨_,h2⟩:=(h.inv.keys.mem _ _).1 hk;obtain ⟨t,ht⟩:=Zi6.1 h2;exact ⟨h.inv.getU ht,h2⟩
theorem Zj5 {S:Str} (h:LiveJ UJn S):ZaL S=execS (ZcB (Zp S ⟨2,0⟩)) S:=by
 unfold ZaL Zau;rw [Zb h.on];exact Zj4 h (ZfR (h.inv.keys.rise _)) (Ze5 h)
theorem Zhn:∀ (ks:List K4) (V:K4->Option TS) (k:K4),Zaq (ZcB ks) V k=if k ∈ ks then none else V k
 | [],V,k=>by simp [ZcB,Zaq,Zco]
 | a::ks,V,k=>by
  show Zaq (ZcB ks) (Zco (.deed a goneD) V) k=_;rw [Zhn ks];by_cases h:k ∈ ks
  ·rw [Zb h,Zb (ZaB _ h)]
  ·rw [Za h];by_cases e:k=a
   ·subst e;rw [Zb (Zat ..)];show (if k=k then stepD (V k) goneD else V k)=none;rw [Zb rfl];rfl
   ·rw [Za (by simp [e,h])];exact Za e
theorem Zs6 {S:Str} (h:LiveJ UJn S) {k:K4} (hk:k≠kJ):Zaq (ZcB (Zp S ⟨2,0⟩)) (ZbE S) k=none:=by
 rw [Zhn];split
 ·rfl
 ·rename_i hn;cases hg:ZbE S k with
  | none=>rfl
  | some t =>
   exfalso;have hU:=h.inv.getU (k:=k) (t:=t) hg;refine hn ((h.inv.keys.mem _ _).2 ⟨?_,by rw [show get k S.seen=some t from hg];rfl⟩);rcases Z4.1 hU with e|hU
   ·exact absurd e hk
   ·obtain ⟨i,_,rfl⟩:=Zam.1 hU;rfl
theorem ZtL {S:Str}:Zaq (ZcB (Zp S ⟨2,0⟩)) (ZbE S) kJ=(if kJ ∈ Zp S ⟨2,0⟩ then none else get kJ S.seen):=Zhn _ _ _
def ZeS (ks:List K4) (r:Rc):List DStep:=ZcB ks++[.deed kJ madeD,.deed kJ (setD nmJ (recB r)),.bar]
theorem ZlL {S:Str} (h:LiveJ UJn S) {r:Rc} (hr:r.Ok):∀ s ∈ ZeS (Zp S ⟨2,0⟩) r,ZcD UJn s:=by
 intro s hs;have h1:1<=(recB r).length:=by rw [Zel];omega
 rcases Za6.1 hs with hs|hs
 ·exact ZhG (fun k hk=>(Ze5 h k hk).1) s hs
 ·simp only [Z4,Zbv,Zbi] at hs;rcases hs with rfl|rfl|rfl
  ·exact ⟨Zfx,.inl rfl⟩
  ·exact ⟨Zfx,.inr (.inr (.inr (.inr ⟨rfl,rfl,h1,Ze8 hr⟩)))⟩
  ·exact trivial
theorem Zk2 {S:Str} {c:Rg} {at':Int} {ts:List Tag} (h:LiveJ UJn S) (hg:goodM c at' ts=true) (hn:get kJ S.seen=none):makeJ S c at' ts false=execS (ZeS (Zp S ⟨2,0⟩) (newR c at' ts)) S:=by
 have hok:=Zgx hg;unfold makeJ;rw [Za (by simp [h.on]),Za (by simp [hg]),Za (by simp),Zj5 h];unfold ZeS;rw [Zha];obtain ⟨X,hX⟩:=Zn (execS (ZcB (Zp S ⟨2,0⟩)) S);have hXok:=fun h0=>ZdU ZaD h (ZhG fun k hk=>(Ze5 h k hk).1) (show (execS (ZcB (Zp S ⟨2,0⟩)) S).1=0 from h0);rw [<-hX] at hXok |-;unfold thenE;by_cases h0:X.1=0
 ·rw [Za (by simp [h0]),Zb h0];obtain ⟨h1,h2⟩:=hXok h0;have h3:get kJ X.2.seen=none:=by
   refine (congrFun h2 kJ).trans (ZtL.trans ?_);rw [hn];simp
  rw [h1.make ZaD kJ_ok h3];show _=thenE (stepE X.2 (.deed kJ madeD)) (execS [.deed kJ (setD nmJ (recB (newR c at' ts))),.bar]);unfold thenE;by_cases h4:(stepE X.2 (.deed kJ madeD)).1=0
  ·rw [Za (by simp [h4]),Zb h4];obtain ⟨h5,h6⟩:=Zfr h1 ZaD Zfx (.inl rfl) h4;have h7:=h6 kJ;rw [Zb rfl,h3] at h7;have h8:get kJ (stepE X.2 (.deed kJ madeD)).2.seen=some ⟨[],[]⟩:=h7;rw [ZdL h5 h8 hok];unfold Zd3;rw [Za];rw [h5.attr kJ_ok h8];simp [get]
  ·rw [Zb h4,Za h4]
 ·rw [Zb h0,Za h0]
def Zbs (c:Rg) (at':Int) (ts:List Tag):Jn:=⟨newR c at' ts,[],[],layF (newR c at' ts),0,false⟩
theorem Zsw {S:Str} {c:Rg} {at':Int} {ts:List Tag} (h:LiveJ UJn S) (hg:goodM c at' ts=true) (hn:get kJ S.seen=none) (h0:(makeJ S c at' ts false).1=0):JOK (makeJ S c at' ts false).2 (Zbs c at' ts):=by
 have hok:=Zgx hg;have h1:1<=(recB (newR c at' ts)).length:=by rw [Zel];omega
 have hne:recB (newR c at' ts)≠[]:=fun q=>by rw [q] at h1;simp at h1
 rw [Zk2 h hg hn] at h0 |-;obtain ⟨h2,h3⟩:=ZdU ZaD h (ZlL h hok) h0;have hv:∀ k,get k (execS (ZeS (Zp S ⟨2,0⟩) (newR c at' ts)) S).2.seen=Zaq (ZeS (Zp S ⟨2,0⟩) (newR c at' ts)) (ZbE S) k:=fun k=>congrFun h3 k;have hap:∀ (a b:List DStep) (V:K4->Option TS),Zaq (a++b) V=Zaq b (Zaq a V):=fun a=>by
  induction a with
  | nil=>exact fun _ _=>rfl
  | cons s a ih=>exact fun b V=>ih b _
 unfold ZeS at hv |-;rw [hap] at hv;refine ⟨h2,hok,?_,trivial,(fun e he=>by cases he),rfl,?_,fun k hk=>?_,rfl,?_⟩
 ·show (0:Int)+((0:Nat):Int)<=_∧0<=_;omega
 ·refine ⟨⟨[],ZbN [] nmJ (recB (newR c at' ts))⟩,(hv kJ).trans ?_,?_⟩
  ·simp only [Zaq,Zco,Zan];rfl
  ·show get nmJ (ZbN [] nmJ (recB (newR c at' ts)))=some (recB (newR c at' ts));unfold ZbN;rw [Za hne];exact ZcU
 ·have hw:Zl (rowsJ (Zbs c at' ts)) k=[]:=by rw [ZdM];rfl
  rw [hw,Zb rfl,hv k];simp only [Zaq,Zco,hk,Zas];rw [Zs6 h hk];rfl
 ·show (0:Int)<=0∧(0:Int)<=3299023255552;omega
theorem ZgQ:∀ (a b:List DStep) (V:K4->Option TS),Zaq (a++b) V=Zaq b (Zaq a V)
 | [],_,_=>rfl
 | s::a,b,V=>ZgQ a b _
def fixJ (m0 m1:List (K4 × List Int)) (k:K4):List DStep :=
 if Zl m0 k=Zl m1 k then [] else if Zl m1 k=[] then [.deed k goneD] else [.deed k ⟨2,(Zl m1 k).length,[],⟨#[]⟩⟩]
def Zch (m0 m1:List (K4 × List Int)) (ks:List K4):List DStep:=ks.flatMap (fixJ m0 m1)++[.bar]
theorem ZmL {m0 m1:List (K4 × List Int)} {k:K4} (h:k ∈ UJn):∀ s ∈ fixJ m0 m1 k,ZcD UJn s:=by
 intro s hs;unfold fixJ at hs;split at hs
 ·cases hs
 ·split at hs
  ·rw [Zbj.1 hs];exact ⟨h,.inr (.inl rfl)⟩
  ·rw [Zbj.1 hs];exact ⟨h,.inr (.inr (.inr (.inl rfl)))⟩
theorem Zrm {m0 m1:List (K4 × List Int)} {ks:List K4} (h:∀ k ∈ ks,k ∈ UJn):∀ s ∈ Zch m0 m1 ks,ZcD UJn s:=by
 intro s hs;rcases Za6.1 hs with hs|hs
 ·obtain ⟨k,hk,hs⟩:=Zcs.1 hs;exact ZmL (h k hk) s hs
 ·rw [Zbj.1 hs];exact trivial
theorem ZhH {m0 m1:List (K4 × List Int)} {k k':K4} (h:k'≠k) (V:K4->Option TS):Zaq (fixJ m0 m1 k) V k'=V k':=by
 unfold fixJ;split
 ·rfl
 ·split <;> simp [Zaq,Zco,h]
theorem Zrn {m0 m1:List (K4 × List Int)} {k:K4} {V:K4->Option TS} {t:TS} (hV:V k=some t) (hb:t.b=Zl m0 k) (hne:Zl m0 k≠[]) (hp:Zl m1 k<+:Zl m0 k) :
  (Zaq (fixJ m0 m1 k) V k).map (·.b)=if Zl m1 k=[] then none else some (Zl m1 k):=by
 unfold fixJ;by_cases e:Zl m0 k=Zl m1 k
 ·rw [Zb e,Za (e ▸ hne)];show (V k).map (·.b)=_;rw [hV,<-e,<-hb];rfl
 ·rw [Za e];by_cases e2:Zl m1 k=[]
  ·rw [Zb e2,Zb e2];simp only [Zaq,Zco,Zan];rfl
  ·rw [Za e2,Za e2];simp only [Zaq,Zco,Zan,hV];show some (t.b.take (min ((Zl m1 k).length:Int).toNat t.b.length))=_;rw [hb,Zeu,ZcJ hp.length_le,<-Zi5.1 hp]
theorem Zro {m0 m1:List (K4 × List Int)} {k:K4} {S:Str} {t:TS} (h:LiveJ UJn S) (hk:k ∈ UJn) (ht:get k S.seen=some t) (hb:t.b=Zl m0 k) (hne:Zl m0 k≠[]) (hp:Zl m1 k<+:Zl m0 k):fixS m1 k S=execS (fixJ m0 m1 k) S:=by
 have hok:=(ZaD.all k hk).2;obtain ⟨h1,_⟩:=h.all hok ht;unfold fixS fixJ;rw [h1];simp only;rw [Za (by simp),hb];by_cases e:Zl m0 k=Zl m1 k
 ·rw [Zb ⟨e,e ▸ hne⟩,Zb e];rfl
 ·rw [Za fun q=>e q.1,Za e];by_cases e2:Zl m1 k=[]
  ·rw [Zb e2,Zb e2,ZdP];exact h.drop hok (by rw [ht];rfl)
  ·rw [Za e2,Za e2,Zb hp,ZdP,h.trim hok ht];have:cutD t (Zl m1 k).length=⟨2,(Zl m1 k).length,[],⟨#[]⟩⟩:=by
    unfold cutD;have:=hp.length_le;rw [hb,show max (0:Int) (min ((Zl m1 k).length:Int) ((Zl m0 k).length:Int))=((Zl m1 k).length:Int) by omega]
   rw [this]
theorem ZlM {m0 m1:List (K4 × List Int)}:∀ {ks:List K4} {S:Str},LiveJ UJn S->ks.Nodup->(∀ k ∈ ks,k ∈ UJn∧∃ t,get k S.seen=some t∧t.b=Zl m0 k∧Zl m0 k≠[]∧Zl m1 k<+:Zl m0 k)->fixL m1 ks S=execS (Zch m0 m1 ks) S
 | [],S,_,_,_=>(ZdP .bar S).symm
 | k::ks,S,h,hn,hs=>by
  obtain ⟨h1,t,h2,h3,h4,h5⟩:=hs k (Zat ..);have hn':=ZbR.1 hn;unfold fixL;rw [Zro h h1 h2 h3 h4 h5];show _=execS ((k::ks).flatMap (fixJ m0 m1)++[.bar]) S;rw [Za0,ZV,Zha];unfold thenE;by_cases h0:(execS (fixJ m0 m1 k) S).1=0
  ·rw [Za (by simp [h0]),Zb h0];obtain ⟨h6,h7⟩:=ZdU ZaD h (ZmL h1) h0;refine ZlM h6 hn'.2 fun k' hk'=>?_;obtain ⟨a,t',b,c⟩:=hs k' (ZaB _ hk');refine ⟨a,t',(congrFun h7 k').trans ((ZhH (fun e:k'=k=>hn'.1 (e ▸ hk')) _).trans b),c⟩
  ·rw [Zb h0,Za h0]
theorem Zf1 {m0 m1:List (K4 × List Int)} {k:K4}:∀ {ks:List K4} {V:K4->Option TS},k ∉ ks->Zaq (Zch m0 m1 ks) V k=V k
 | [],V,_=>rfl
 | a::ks,V,h=>by
  show Zaq ((a::ks).flatMap (fixJ m0 m1)++[.bar]) V k=_;rw [Za0,ZV,ZgQ];have h1:k≠a:=fun e=>h (e ▸ Zat ..);exact (Zf1 fun e=>h (ZaB _ e)).trans (ZhH h1 V)
theorem Zk3 {m0 m1:List (K4 × List Int)} {k:K4} {t:TS}:∀ {ks:List K4} {V:K4->Option TS},ks.Nodup->k ∈ ks->V k=some t->t.b=Zl m0 k->Zl m0 k≠[]->Zl m1 k<+:Zl m0 k ->
  (Zaq (Zch m0 m1 ks) V k).map (·.b)=if Zl m1 k=[] then none else some (Zl m1 k)
 | [],V,_,h,_,_,_,_=>by cases h
 | a::ks,V,hn,h,hV,hb,hne,hp=>by
  have hn':=ZbR.1 hn;show (Zaq ((a::ks).flatMap (fixJ m0 m1)++[.bar]) V k).map (·.b)=_;rw [Za0,ZV,ZgQ];by_cases e:k=a
  ·subst e;rw [show Zaq (ks.flatMap (fixJ m0 m1)++[.bar]) (Zaq (fixJ m0 m1 k) V) k=Zaq (fixJ m0 m1 k) V k from Zf1 (m0:=m0) (m1:=m1) (ks:=ks) hn'.1];exact Zrn hV hb hne hp
  ·have hk:k ∈ ks:=by
    rcases Z4.1 h with q|q
    ·exact absurd q e
    ·exact q
   exact Zk3 hn'.2 hk ((ZhH e V).trans hV) hb hne hp
theorem Zsx {S:Str} {J:Jn} (hl:LiveJ UJn S) (hrows:∀ k,k≠kJ->(get k S.seen).map (·.b)=if Zl (rowsJ J) k=[] then none else some (Zl (rowsJ J) k)) {k:K4} (hk:k ∈ Zp S ⟨2,0⟩):∃ t,get k S.seen=some t∧t.b=Zl (rowsJ J) k∧Zl (rowsJ J) k≠[]∧k.ok=true:=by
 obtain ⟨h1,h2⟩:=(hl.inv.keys.mem _ _).1 hk;obtain ⟨t,ht⟩:=Zi6.1 h2;have hne:k≠kJ:=fun e=>by
  rw [e] at h1;have:=congrArg G2.kind h1;simp [K4.grp,kJ] at this
 have hr:=hrows k hne;rw [ht] at hr;simp only [Zct] at hr;split at hr
 ·cases hr
 ·rename_i hw;exact ⟨t,ht,by simpa using hr,hw,(ZaD.all k (hl.inv.getU ht)).2⟩
theorem ZhI {S:Str} {J J1:Jn} (hl:LiveJ UJn S) (hrows:∀ k,k≠kJ->(get k S.seen).map (·.b)=if Zl (rowsJ J) k=[] then none else some (Zl (rowsJ J) k)) (hp:∀ k,Zl (rowsJ J1) k<+:Zl (rowsJ J) k) :
  trimJ S J1=execS (Zch (rowsJ J) (rowsJ J1) (Zp S ⟨2,0⟩)) S∧(∀ s ∈ Zch (rowsJ J) (rowsJ J1) (Zp S ⟨2,0⟩),ZcD UJn s) ∧
  ((trimJ S J1).1=0->LiveJ UJn (trimJ S J1).2∧get kJ (trimJ S J1).2.seen=get kJ S.seen∧∀ k,k≠kJ->(get k (trimJ S J1).2.seen).map (·.b)=if Zl (rowsJ J1) k=[] then none else some (Zl (rowsJ J1) k)):=by
 have hks:∀ k ∈ Zp S ⟨2,0⟩,k ∈ UJn∧∃ t,get k S.seen=some t∧t.b=Zl (rowsJ J) k∧Zl (rowsJ J) k≠[]∧Zl (rowsJ J1) k<+:Zl (rowsJ J) k:=fun k hk=>by
  obtain ⟨t,h1,h2,h3,_⟩:=Zsx hl hrows hk;exact ⟨(Ze5 hl k hk).1,t,h1,h2,h3,hp k⟩
 have hnd:(Zp S ⟨2,0⟩).Nodup:=ZfR (hl.inv.keys.rise _);have hin:=Zrm (m0:=rowsJ J) (m1:=rowsJ J1) fun k hk=>(hks k hk).1;have hpl:trimJ S J1=execS (Zch (rowsJ J) (rowsJ J1) (Zp S ⟨2,0⟩)) S:=by
  unfold trimJ Zau;rw [Zb hl.on];exact ZlM hl hnd hks
 refine ⟨hpl,hin,fun h0=>?_⟩;rw [hpl] at h0 |-;obtain ⟨h1,h2⟩:=ZdU ZaD hl hin h0;refine ⟨h1,(congrFun h2 kJ).trans (Zf1 fun hk=>?_),fun k hk=>?_⟩
 ·have:=congrArg G2.kind ((hl.inv.keys.mem _ _).1 hk).1;simp [K4.grp,kJ] at this
 ·rw [show get k (execS (Zch (rowsJ J) (rowsJ J1) (Zp S ⟨2,0⟩)) S).2.seen=Zaq (Zch (rowsJ J) (rowsJ J1) (Zp S ⟨2,0⟩)) (ZbE S) k from congrFun h2 k];by_cases q:k ∈ Zp S ⟨2,0⟩
  ·obtain ⟨_,t,a,b,c,d⟩:=hks k q;exact Zk3 hnd q a b c d
  ·rw [Zf1 q];have hr:=hrows k hk;by_cases q2:Zl (rowsJ J) k=[]
   ·have q3:Zl (rowsJ J1) k=[]:=by
     have:=hp k;rw [q2] at this;exact List.prefix_nil.1 this
    rw [Zb q2] at hr;rw [Zb q3];exact hr
   ·exfalso;rw [Za q2] at hr;cases hg:get k S.seen with
    | none=>rw [hg] at hr;cases hr
    | some t =>
     refine q ((hl.inv.keys.mem _ _).2 ⟨?_,by rw [hg];rfl⟩);rcases Z4.1 (hl.inv.getU hg) with e|hU
     ·exact absurd e hk
     ·obtain ⟨i,_,rfl⟩:=Zam.1 hU;rfl
theorem JOK.mend {S:Str} {J J1:Jn} (h:JOK S J) (hr:J1.r=J.r) (hlay:laid J.r.shape J.r.set J1.l J1.at_ (layF J.r) J1.fill) (hn:J1.l.length<=J.l.length) (hrun:runs J1.l J.r.first) (hsub:∀ e ∈ J1.l,e ∈ J.l) (hd:J1.dead=false)
  (hs:0<=J1.safe∧J1.safe<=3299023255552) (hp:∀ k,Zl (rowsJ J1) k<+:Zl (rowsJ J) k) :
  mendJ S J1=(if (trimJ S J1).1=0 then (if (saveJ (trimJ S J1).2 (Zbg J1.r (endJ J1))).1=0 then (0,(saveJ (trimJ S J1).2 (Zbg J1.r (endJ J1))).2,Zby J1) else (7,(saveJ (trimJ S J1).2 (Zbg J1.r (endJ J1))).2,deadJ (Zby J1))) else (7,(trimJ S J1).2,deadJ J1)) ∧
  (Zbg J1.r (endJ J1)).Ok ∧
  ((trimJ S J1).1=0->JOK (trimJ S J1).2 J1∧((saveJ (trimJ S J1).2 (Zbg J1.r (endJ J1))).1=0->JOK (saveJ (trimJ S J1).2 (Zbg J1.r (endJ J1))).2 (Zby J1))):=by
 obtain ⟨t,ht,hat⟩:=h.rec_;obtain ⟨h1,h2,h3⟩:=ZhI (J1:=J1) h.live h.rows hp;have hmid:(trimJ S J1).1=0->JOK (trimJ S J1).2 J1:=fun h0=>by
  obtain ⟨a,b,c⟩:=h3 h0;have hsm:=h.small;refine ⟨a,hr ▸ h.ok,by rw [hr];omega,hr ▸ hrun,fun e he=>by rw [hr];exact h.ents e (hsub e he),by rw [hr];exact hlay,⟨t,b.trans ht,by rw [hr];exact hat⟩,c,hd,hs⟩
 have hoff:=Zfl (Zch (rowsJ J) (rowsJ J1) (Zp S ⟨2,0⟩)) S;rw [<-h1] at hoff;have hend:0<=endJ J1:=by
  have:=h.ok.first;unfold endJ;rw [hr];omega
 have hok:(Zbg J1.r (endJ J1)).Ok:=Zh0 (hr ▸ h.ok) hend;refine ⟨?_,hok,fun h0=>⟨hmid h0,fun h00=>?_⟩⟩
 ·unfold mendJ;by_cases h0:(trimJ S J1).1=0
  ·have h4:=hmid h0;obtain ⟨t2,ht2,_⟩:=h4.rec_;have h5:=Zgl h4.live ht2 hok;rw [Za (by simp [h0]),Zb h0];rcases h5 with e|e
   ·rw [Zb e,e];rfl
   ·rw [Za (by rw [e];decide),e];rfl
  ·rw [Zb h0,Za h0];rcases hoff with e|e
   ·exact absurd e h0
   ·rw [e];rfl
 ·have h4:=hmid h0;obtain ⟨t2,ht2,_⟩:=h4.rec_;obtain ⟨a,b,c⟩:=ZeO h4.live ht2 hok h00;refine h4.recd a b c hok rfl rfl rfl (fun e he=>?_) h4.ends;have:=(run_seq h4.run he).2;refine ZlJ h4.ok.tags ?_;unfold endJ;omega
theorem ZlN {J:Jn} (n:Nat) (f:Fl) (k:K4):Zl (rowsJ (lJ J (J.l.take n) (J.at_.take n) f)) k<+:Zl (rowsJ J) k:=by
 rw [ZdM,ZdM];show Zar (((J.l.take n).zip (J.at_.take n)).filterMap _)<+:_;have e:(J.l.take n).zip (J.at_.take n)=(J.l.zip J.at_).take n:=by
  rw [Zi7,Zi7,List.take_zipWith]
 rw [e];have h2:((J.l.zip J.at_).take n).filterMap (fun x=>if keyOf J.r.shape x.2=k then some x.1 else none)<+:(J.l.zip J.at_).filterMap (fun x=>if keyOf J.r.shape x.2=k then some x.1 else none):=(List.take_prefix n _).filterMap _;obtain ⟨z,hz⟩:=h2;exact ⟨Zar z,by rw [<-hz,ZgS];rfl⟩
theorem JOK.cut {S:Str} {J:Jn} (h:JOK S J) (n:Nat):∃ f,layJ (lJ J (J.l.take n) J.at_ J.fill)=lJ J (J.l.take n) (J.at_.take n) f∧laid J.r.shape J.r.set (J.l.take n) (J.at_.take n) (layF J.r) f∧runs (J.l.take n) J.r.first:=by
 have hs:=h.small;obtain ⟨f,hf⟩:=ZlC h.lay n;refine ⟨f,?_,hf,ZlB h.run n⟩
 have hx:Go.Proofs.YtpjchngjhijgmaaGreat.layX J.r (J.l.take n)=(J.l.take n,J.at_.take n,f):=ZhE hf (by
  show J.r.set+((J.l.take n).length:Int)<=_;have:=List.length_take_le n J.l;have:=Zi8 n J.l
  omega)
 unfold layJ;show lJ (lJ J (J.l.take n) J.at_ J.fill) (Go.Proofs.YtpjchngjhijgmaaGreat.layX J.r (J.l.take n)).1 (Go.Proofs.YtpjchngjhijgmaaGreat.layX J.r (J.l.take n)).2.1 (Go.Proofs.YtpjchngjhijgmaaGreat.layX J.r (J.l.take n)).2.2=_;rw [hx];rfl
theorem Zh7 (pos:Int):∀ (es:List En) (ps:List Pl) (i:Nat) (q:Int) (r:Nat × Int),ZaV pos es ps i q r=r ∨
  ∃ (k:Nat) (e:En) (p:Pl) (s0 q0:Int),es[k]?=some e∧ps[k]?=some p∧ZaV pos es ps i q r=(i+k,p.set)∧(r.2::ps.map (·.set))[k]?=some s0∧s0≠p.set∧(q::es.map (·.seq))[k]?=some q0∧q0<=pos
 | [],ps,i,q,r=>by cases ps <;> exact .inl rfl
 | e::es,[],i,q,r=>.inl rfl
 | e::es,p::ps,i,q,r=>by
  unfold ZaV;split
  ·rename_i hp;rcases Zh7 pos es ps (i+1) e.seq r with h|⟨k,e',p',s0,q0,h1,h2,h3,h4,h5,h6,h7⟩
   ·exact .inl h
   ·refine .inr ⟨k+1,e',p',s0,q0,by simpa using h1,by simpa using h2,by rw [h3];congr 1;omega,?_,h5,?_,h7⟩
    ·rw [<-hp] at h4;simpa using h4
    ·simpa using h6
  ·rename_i hp;split
   ·exact .inl rfl
   ·rename_i hq;rcases Zh7 pos es ps (i+1) e.seq (i,p.set) with h|⟨k,e',p',s0,q0,h1,h2,h3,h4,h5,h6,h7⟩
    ·exact .inr ⟨0,e,p,r.2,q,rfl,rfl,h,rfl,fun e=>hp e.symm,rfl,by omega⟩
    ·refine .inr ⟨k+1,e',p',s0,q0,by simpa using h1,by simpa using h2,by rw [h3];congr 1;omega,?_,h5,?_,h7⟩
     ·simpa using h4
     ·simpa using h6
theorem Zfa {c:Rg} {s0:Int} {es:List En} {ps:List Pl} {f:Fl} {p:Pl} (h:laid c s0 es ps ⟨s0,0,0,0,0⟩ f) (hc:c.okB=true) (hb:s0<=1000000000) (hp:ps[0]?=some p):p.set=s0:=by
 match es,ps,h with
 | [],[],_=>simp at hp
 | e::es,p'::ps,h =>
  obtain ⟨g,nx,h1,h2,h3⟩:=h;have e1:p'=p:=by simpa using hp
  subst e1;have hst:=Zcl h1 hb;have hno:=ZdT (show (rput c ⟨s0,0,0,0,0⟩ e.seq e.data.length).2.2.2=true by rw [h1]);have hcc:=Rg.ok hc;rw [hst.place];cases nx with
  | false=>exact (hst.same rfl).1
  | true =>
   have:=(hst.next rfl).2.1;rw [Fl.empty_get] at this;omega
theorem Zrp {c:Rg} {s0:Int} {es:List En} {ps:List Pl} {f0 f:Fl} {k:Nat} {p:Pl} (h:laid c s0 es ps f0 f) (hk:es.length=k+1) (hp:ps[k]?=some p) (hb:f0.set+es.length<=1000000000):f.set=p.set:=by
 induction es generalizing ps f0 k with
 | nil=>simp at hk
 | cons e es ih =>
  match ps,h with
  | p'::ps,h =>
   obtain ⟨g,nx,h1,h2,h3⟩:=h;simp only [Z9] at hk hb;have hst:=Zcl h1 (by omega);have hle:=hst.set_le;cases k with
   | zero =>
    have e1:es=[]:=ZiN.1 (by omega);subst e1;have e2:p'=p:=by simpa using hp
    subst e2
    match ps,h3 with
    | [],h3 =>
     cases (h3:f=g);rw [hst.place]
   | succ k=>exact ih (k:=k) h3 (by omega) (by simpa using hp) (by omega)
theorem Zrq {c:Rg} {s0:Int} {es:List En} {ps:List Pl} {f:Fl} {k:Nat} {e:En} {p p0:Pl} (h:laid c s0 es ps ⟨s0,0,0,0,0⟩ f) (h0:0<=s0) (hb:s0+es.length<=100000000) (h1:es[k+1]?=some e) (h2:ps[k+1]?=some p) (h3:ps[k]?=some p0) (h4:p0.set≠p.set) (h5:s0<=p.set) :
  laid c p.set (es.drop (k+1)) (ps.drop (k+1)) ⟨p.set,0,0,0,0⟩ f:=by
 have hlen:=Ziq h;obtain ⟨hk,he⟩:=ZH.1 h1;obtain ⟨hk2,hp⟩:=ZH.1 h2;have ha:(es.take (k+1)).length=k+1:=by rw [ZJ];omega
 rw [<-Zck (k+1) es] at h;obtain ⟨f1,h6,h7⟩:=ZhD h;rw [ha] at h6 h7;have hf1:f1.set=p0.set:=Zrp h6 ha (by rw [Ze0 (by omega)];exact h3) (by rw [ha];show s0+((k+1:Nat):Int)<=_;omega);have hle:f1.set<=s0+es.length:=by
  have:∀ {a:List En} {pa:List Pl} {f0 g:Fl},laid c s0 a pa f0 g->f0.set+a.length<=1000000000->g.set<=f0.set+a.length:=by
   intro a;induction a with
   | nil =>
    intro pa f0 g h _
    match pa,h with
    | [],h=>cases (h:g=f0);simp
   | cons x a ih =>
    intro pa f0 g h hh
    match pa,h with
    | y::pa,h =>
     obtain ⟨g1,nx,q1,q2,q3⟩:=h;simp only [Z9] at hh |-;have:=(Zcl q1 (by omega)).set_le;have:=ih q3 (by omega);omega
  have:=this h6 (by rw [ha];show s0+((k+1:Nat):Int)<=_;omega);rw [ha] at this;simp only at this;omega
 rw [ZaS hk,ZaS hk2,he,hp] at h7 |-;obtain ⟨g,nx,h8,h9,h10⟩:=id h7;have hst:=Zcl h8 (by omega);have hps:p.set=g.set:=by rw [hst.place]
 cases nx with
 | false=>have:=(hst.same rfl).1;omega
 | true =>
  have hx:=(hst.next rfl).1;have hl2:(es.drop (k+1+1)).length+(k+2)=es.length:=by rw [ZW];omega
  exact Zra h7 h8 (by omega) (by omega) (by omega)
theorem JOK.done {S:Str} {J:Jn} (h:JOK S J):doneJ J=(0,J.r.set)∨∃ n,doneJ J=(n,(doneJ J).2)∧1<=n∧n<J.l.length∧J.r.set<(doneJ J).2∧(doneJ J).2<=J.fill.set∧laid J.r.shape (doneJ J).2 (J.l.drop n) (J.at_.drop n) ⟨(doneJ J).2,0,0,0,0⟩ J.fill ∧
  (∀ (i:Nat) (q:Pl),J.at_[i]?=some q->(q.set<(doneJ J).2↔i<n))∧J.r.first+n - 1<=posD J:=by
 have hA:=h.at;have hs:=h.small;have hset:=h.ok.set;have hfr:=hA.from_;rcases Zh7 (posD J) J.l J.at_ 0 0 (0,J.r.set) with hd|⟨k,e,p,s0,q0,h1,h2,h3,h4,h5,h6,h7⟩
 ·exact .inl hd
 ·right;have hd:doneJ J=(k,p.set):=by rw [<-ZX k];exact h3
  have hk:=(ZH.1 h1).1;have hpl:=hA.pl k e p h1 h2;cases k with
  | zero =>
   exfalso;have e1:J.r.set=s0:=by simpa using h4
   exact h5 (e1 ▸ (Zfa h.lay h.ok.shape (by omega) h2).symm)
  | succ k =>
   obtain ⟨p0,hp0,hs0⟩:∃ p0,J.at_[k]?=some p0∧p0.set=s0:=by
    have:(J.at_.map (·.set))[k]?=some s0:=by simpa using h4
    rw [ZcH] at this;cases hg:J.at_[k]? with
    | none=>rw [hg] at this;cases this
    | some p0=>rw [hg] at this;exact ⟨p0,rfl,by simpa using this⟩
   obtain ⟨e0,he0,hq0⟩:∃ e0,J.l[k]?=some e0∧e0.seq=q0:=by
    have:(J.l.map (·.seq))[k]?=some q0:=by simpa using h6
    rw [ZcH] at this;cases hg:J.l[k]? with
    | none=>rw [hg] at this;cases this
    | some p0=>rw [hg] at this;exact ⟨p0,rfl,by simpa using this⟩
   have hrise:=hA.rise k (k+1) p0 p (by omega) hp0 h2;have hpl0:=hA.pl k e0 p0 he0 hp0;have hlt:p0.set<p.set:=by omega
   refine ⟨k+1,by rw [hd],by omega,hk,by rw [hd];show J.r.set<p.set;omega,by rw [hd];exact hpl.2.1,by rw [hd];exact Zrq h.lay (by omega) (by omega) h1 h2 hp0 (by omega) (by omega),fun i q hi=>?_,?_⟩
   ·rw [hd];show q.set<p.set↔i<k+1;constructor
    ·intro hlt2;by_cases hik:i<k+1
     ·exact hik
     ·have:=hA.rise (k+1) i p q (by omega) h2 hi;omega
    ·intro hik;have:=hA.rise i k q p0 (by omega) hi hp0;omega
   ·have hrs:∀ {es:List En} {s:Int} {k:Nat} {e:En},runs es s->es[k]?=some e->e.seq=s+k:=by
     intro es;induction es with
     | nil=>intro s k e _ h;simp at h
     | cons x es ih =>
      intro s k e hr hx;cases k with
      | zero =>
       have e1:x=e:=by simpa using hx
       subst e1;have:=hr.1;omega
      | succ k =>
       have:=ih hr.2 (by simpa using hx);omega
    have:=hrs h.run he0;omega
end Go.Proofs.YtpjchngjhijgmaaGreat
