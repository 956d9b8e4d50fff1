import Derived.Test.YtpjchngjhijgmaaGreatJP19
set_option linter.all false
set_option maxRecDepth 4000
set_option maxHeartbeats 8000000
open Go.RowKit
open Go.IntKind (i64 u64)
open Go.Value (int pointer slice)
open Go.Obj (cells)
namespace Go.Proofs.YtpjchngjhijgmaaGreat
open Tryz
open HP (pt mapOf)
variable {W w w':World} {I:Hp} {l:List HP}
def laid (c:Rg) (s0:Int):List En->List Pl->Fl->Fl->Prop
 | [],[],f0,f=>f=f0
 | e::es,p::ps,f0,f=>∃ g nx,rput c f0 e.seq e.data.length=(g,p,nx,true)∧g.set - s0<c.sets∧laid c s0 es ps g f
 | _,_,_,_=>False
theorem Ziq {c:Rg} {s0:Int}:∀ {es:List En} {ps:List Pl} {f0 f:Fl},laid c s0 es ps f0 f->ps.length=es.length
 | [],[],_,_,_=>rfl
 | [],_::_,_,_,h=>h.elim
 | _::_,[],_,_,h=>h.elim
 | e::es,p::ps,f0,f,h=>by
  obtain ⟨g,nx,_,_,h⟩:=h;simp [Ziq h]
theorem ZjW {c:Rg} {s0:Int}:∀ {a b:List En} {pa pb:List Pl} {f0 f g:Fl},laid c s0 a pa f0 f->laid c s0 b pb f g->laid c s0 (a++b) (pa++pb) f0 g
 | [],b,[],pb,f0,f,g,h1,h2=>by cases (h1:f=f0);exact h2
 | [],_,_::_,_,_,_,_,h,_=>h.elim
 | _::_,_,[],_,_,_,_,h,_=>h.elim
 | e::a,b,p::pa,pb,f0,f,g,h1,h2=>by
  obtain ⟨k,nx,h3,h4,h5⟩:=h1;exact ⟨k,nx,h3,h4,ZjW h5 h2⟩
theorem ZhD {c:Rg} {s0:Int}:∀ {a b:List En} {ps:List Pl} {f0 g:Fl},laid c s0 (a++b) ps f0 g->∃ f,laid c s0 a (ps.take a.length) f0 f∧laid c s0 b (ps.drop a.length) f g
 | [],b,ps,f0,g,h=>⟨f0,rfl,h⟩
 | e::a,b,[],f0,g,h=>h.elim
 | e::a,b,p::ps,f0,g,h=>by
  obtain ⟨k,nx,h3,h4,h5⟩:=h;obtain ⟨f,h6,h7⟩:=ZhD h5;exact ⟨f,⟨k,nx,h3,h4,h6⟩,h7⟩
theorem Zem {c:Rg} {f:Fl} {seq n:Int} (hc:c.okB=true) (hf:f.okB c=true) (hs:1<=seq∧seq<=1099511627776) (hn:1<=n∧n<=90):rput c f seq n=if c.size<f.get (seq % c.splay)+(22+n) then
  ((Fl.put ⟨f.set+1,0,0,0,0⟩ (seq % c.splay) (22+n)),⟨f.set+1,seq % c.splay⟩,true,true)
 else (f.put (seq % c.splay) (f.get (seq % c.splay)+(22+n)),⟨f.set,seq % c.splay⟩,false,true):=by
 unfold rput;have e:Zcg n=22+n:=by unfold Zcg;omega
 rw [Za (by rw [hc,hf];simp;omega),e]
theorem ZdT {c:Rg} {f:Fl} {seq n:Int} (h:(rput c f seq n).2.2.2=true):c.okB=true∧f.okB c=true∧(1<=seq∧seq<=1099511627776)∧1<=n∧n<=90:=by
 unfold rput at h;split at h
 ·cases h
 ·rename_i h1;simp only [not_or] at h1;obtain ⟨h1,h2,h3,h4,h5,h6⟩:=h1;exact ⟨by simpa using h1,by simpa using h2,by omega,by omega,by omega⟩
theorem Rg.ok {c:Rg} (h:c.okB=true):(1<=c.splay∧c.splay<=4)∧(4<=c.sets∧c.sets<=8)∧(512<=c.size∧c.size<=4096):=by
 unfold Rg.okB at h;rwa [Zk] at h
theorem Fl.ok_iff {c:Rg} {f:Fl}:f.okB c=true↔(0<=f.u0∧f.u0<=c.size)∧(0<=f.u1∧f.u1<=c.size)∧(0<=f.u2∧f.u2<=c.size)∧(0<=f.u3∧f.u3<=c.size)∧(0<=f.set∧f.set<1073741824):=by
 unfold Fl.okB;rw [Zk]
theorem Fl.put_set (f:Fl) (o x:Int):(f.put o x).set=f.set:=by unfold Fl.put;(repeat' split) <;> rfl
theorem Fl.get_put {f:Fl} {o x o':Int} (h:0<=o∧o<4) (h':0<=o'∧o'<4):(f.put o x).get o'=if o'=o then x else f.get o':=by
 have h1:o=0∨o=1∨o=2∨o=3:=by omega
 have h2:o'=0∨o'=1∨o'=2∨o'=3:=by omega
 rcases h1 with rfl|rfl|rfl|rfl <;> rcases h2 with rfl|rfl|rfl|rfl <;> simp [Fl.put,Fl.get]
theorem Fl.put_ok {c:Rg} {f:Fl} {o x:Int} (hx:0<=x∧x<=c.size) (h:f.okB c=true):(f.put o x).okB c=true:=by
 rw [Fl.ok_iff] at h |-;unfold Fl.put;split
 ·exact ⟨hx,h.2.1,h.2.2.1,h.2.2.2.1,h.2.2.2.2⟩
 split
 ·exact ⟨h.1,hx,h.2.2.1,h.2.2.2.1,h.2.2.2.2⟩
 split
 ·exact ⟨h.1,h.2.1,hx,h.2.2.2.1,h.2.2.2.2⟩
 ·exact ⟨h.1,h.2.1,h.2.2.1,hx,h.2.2.2.2⟩
theorem Fl.get_le {c:Rg} {f:Fl} (h:f.okB c=true) (o:Int):0<=f.get o∧f.get o<=c.size:=by
 rw [Fl.ok_iff] at h;unfold Fl.get
 (repeat' split) <;> omega
theorem Fl.empty_ok {c:Rg} {s:Int} (hc:c.okB=true) (h:0<=s∧s<1073741824):(⟨s,0,0,0,0⟩:Fl).okB c=true:=by
 have:=Rg.ok hc;rw [Fl.ok_iff];simp only;omega
theorem Fl.put_ne {f:Fl} {o x:Int} (ho:0<=o∧o<4) (hx:x≠0):f.put o x≠Fl.zero:=by
 intro e;have h:=Fl.get_put (f:=f) (o:=o) (x:=x) ho ho;rw [e,Zb rfl] at h;have:Fl.zero.get o=0:=Fl.empty_get 0 o;omega
theorem ZeP {c:Rg} (hc:c.okB=true) (seq:Int):0<=seq % c.splay∧seq % c.splay<c.splay∧seq % c.splay<4:=by
 have:=Rg.ok hc;have h1:=ZgO seq (show c.splay≠0 by omega);have h2:=ZgP seq (show 0<c.splay by omega);omega
structure Stepped (c:Rg) (f:Fl) (seq n:Int) (g:Fl) (p:Pl) (nx:Bool):Prop where
 place:p=⟨g.set,seq % c.splay⟩
 ok:g.okB c=true
 ne:g≠Fl.zero
 same:nx=false->g.set=f.set∧∀ o,0<=o->o<4->g.get o=if o=seq % c.splay then f.get o+(22+n) else f.get o
 next:nx=true->g.set=f.set+1∧c.size<f.get (seq % c.splay)+(22+n)∧(∀ o,0<=o->o<4->g.get o=if o=seq % c.splay then 22+n else 0)∧rput c ⟨f.set+1,0,0,0,0⟩ seq n=(g,p,false,true)
theorem Zcl {c:Rg} {f g:Fl} {p:Pl} {nx:Bool} {seq n:Int} (h:rput c f seq n=(g,p,nx,true)) (hsm:f.set<=1000000000):Stepped c f seq n g p nx:=by
 obtain ⟨hc,hf,hs,hn⟩:=ZdT (show (rput c f seq n).2.2.2=true by rw [h]);have hm:=ZeP hc seq;have hcc:=Rg.ok hc;rw [Zem hc hf hs hn] at h;have hff:=Fl.ok_iff.1 hf;split at h
 ·rename_i hlt;simp only [Zv,Zap] at h;obtain ⟨rfl,rfl,rfl⟩:=h;have hset:(Fl.put ⟨f.set+1,0,0,0,0⟩ (seq % c.splay) (22+n)).set=f.set+1:=Fl.put_set _ _ _;have he:=Fl.empty_ok (s:=f.set+1) hc (by omega);refine ⟨by rw [hset],Fl.put_ok (by omega) he,Fl.put_ne ⟨hm.1,hm.2.2⟩ (by omega),fun e=>(by cases e),fun _=>⟨hset,hlt,fun o h0 h4=>?_,?_⟩⟩
  ·rw [Fl.get_put ⟨hm.1,hm.2.2⟩ ⟨h0,h4⟩,Fl.empty_get]
  ·rw [Zem hc he hs hn,Fl.empty_get,Za (by omega)];simp
 ·rename_i hlt;simp only [Zv,Zap] at h;obtain ⟨rfl,rfl,rfl⟩:=h;have hg:=Fl.get_le hf (seq % c.splay);have hset:(f.put (seq % c.splay) (f.get (seq % c.splay)+(22+n))).set=f.set:=Fl.put_set _ _ _;refine ⟨by rw [hset],Fl.put_ok (by omega) hf,Fl.put_ne ⟨hm.1,hm.2.2⟩ (by omega),fun _=>⟨hset,fun o h0 h4=>?_⟩,fun e=>(by cases e)⟩;rw [Fl.get_put ⟨hm.1,hm.2.2⟩ ⟨h0,h4⟩];split
  ·rename_i e;rw [e]
  ·rfl
theorem Stepped.set_le {c:Rg} {f:Fl} {seq n:Int} {g:Fl} {p:Pl} {nx:Bool} (h:Stepped c f seq n g p nx):f.set<=g.set∧g.set<=f.set+1:=by
 cases nx with
 | false=>have:=(h.same rfl).1;omega
 | true=>have:=(h.next rfl).1;omega
theorem ZhE {c:Rg} {s0:Int}:∀ {es:List En} {ps:List Pl} {f0 f:Fl},laid c s0 es ps f0 f->f0.set+es.length<=1000000000->layGo c s0 es f0=(es,ps,f)
 | [],[],f0,f,h,_=>by cases (h:f=f0);rfl
 | [],_::_,_,_,h,_=>h.elim
 | _::_,[],_,_,h,_=>h.elim
 | e::es,p::ps,f0,f,h,hb=>by
  obtain ⟨g,nx,h1,h2,h3⟩:=h;simp only [Z9] at hb;have hst:=Zcl h1 (by omega);have hle:=hst.set_le;unfold layGo;rw [h1];simp only;rw [Za (by rw [not_or];exact ⟨hst.ne,fun q=>by omega⟩),ZhE h3 (by omega)]
def ZbP (p:Pl):List En->List Pl->List En
 | e::es,q::ps=>if q=p then e::ZbP p es ps else ZbP p es ps
 | _,_=>[]
theorem Zje (p:Pl):∀ {a b:List En} {pa pb:List Pl},pa.length=a.length->ZbP p (a++b) (pa++pb)=ZbP p a pa++ZbP p b pb
 | [],b,[],pb,_=>rfl
 | e::a,b,q::pa,pb,h=>by
  have ih:=Zje p (a:=a) (b:=b) (pa:=pa) (pb:=pb) (by simpa using h);simp only [ZG,ZbP,ih];split <;> rfl
def Zc7 (es:List En):Int:=(es.map fun e=>(22:Int)+e.data.length).sum
theorem ZoO (es:List En):((Zar es).length:Int)=Zc7 es:=by
 induction es with
 | nil=>rfl
 | cons e es ih =>
  rw [ZfT,Zs,ZcM];have:Zc7 (e::es)=22+e.data.length+Zc7 es:=rfl;omega
structure LaidAt (c:Rg) (s0:Int) (es:List En) (ps:List Pl) (f:Fl):Prop where
 ok:f.okB c=true
 len:ps.length=es.length
 from_:s0<=f.set∧f.set<=s0+es.length
 inside:f.set - s0<c.sets
 pl:∀ (i:Nat) (e:En) (p:Pl),es[i]?=some e->ps[i]?=some p->s0<=p.set∧p.set<=f.set∧p.obj=e.seq % c.splay
 used:∀ o,0<=o->o<4->f.get o=Zc7 (ZbP ⟨f.set,o⟩ es ps)
 room:∀ s o,0<=o->o<4->Zc7 (ZbP ⟨s,o⟩ es ps)<=c.size
 rise:∀ (i j:Nat) (p q:Pl),i<=j->ps[i]?=some p->ps[j]?=some q->p.set<=q.set
theorem Zg6 {p:Pl}:∀ {es:List En} {ps:List Pl},(∀ q ∈ ps,q≠p)->ZbP p es ps=[]
 | [],[],_=>rfl
 | [],_::_,_=>rfl
 | _::_,[],_=>rfl
 | x::es,q::ps,h=>by
  unfold ZbP;rw [Za (h q (Zat ..))];exact Zg6 fun r hr=>h r (ZaB _ hr)
theorem Znx (a b:List En):Zc7 (a++b)=Zc7 a+Zc7 b:=by
 unfold Zc7;rw [Zbo,List.sum_append]
theorem LaidAt.nil {c:Rg} {s0:Int} (hc:c.okB=true) (hs:0<=s0∧s0<=1000000000):LaidAt c s0 [] [] ⟨s0,0,0,0,0⟩:=by
 have:=Rg.ok hc;exact ⟨Fl.empty_ok hc (by omega),rfl,by simp,by show s0 - s0<_;omega,fun i e p h=>by simp at h,fun o _ _=>(Fl.empty_get _ _).trans rfl,fun s o _ _=>by show (0:Int)<=_;omega,fun i j p q _ h=>by simp at h⟩
theorem LaidAt.snoc {c:Rg} {s0:Int} {es:List En} {ps:List Pl} {f g:Fl} {e:En} {p:Pl} {nx:Bool} (h:LaidAt c s0 es ps f) (hr:rput c f e.seq e.data.length=(g,p,nx,true)) (hin:g.set - s0<c.sets) (hb:f.set<=1000000000):LaidAt c s0 (es++[e]) (ps++[p]) g:=by
 have hst:=Zcl hr hb;have hle:=hst.set_le;have hno:=ZdT (show (rput c f e.seq e.data.length).2.2.2=true by rw [hr]);have hm:=ZeP hno.1 e.seq;have hl:=h.len;have hfr:=h.from_;have hpp:=hst.place;have hmem:∀ (i:Nat) (q:Pl),ps[i]?=some q->q.set<=f.set:=fun i q hq=>by
  obtain ⟨x,hx⟩:∃ x,es[i]?=some x:=⟨_,Zy (by have:=(ZH.1 hq).1;omega)⟩;exact (h.pl i x q hx hq).2.1
 have hon:∀ q,ZbP q (es++[e]) (ps++[p])=ZbP q es ps++if p=q then [e] else []:=fun q=>by
  rw [Zje q hl];rfl
 have hus:∀ o,0<=o->o<4->g.get o=Zc7 (ZbP ⟨g.set,o⟩ (es++[e]) (ps++[p])):=fun o h0 h4=>by
  rw [hon,Znx];have hone:Zc7 (if p=⟨g.set,o⟩ then [e] else [])=if o=e.seq % c.splay then 22+(e.data.length:Int) else 0:=by
   rw [hpp];by_cases ho:o=e.seq % c.splay
   ·rw [Zb (by rw [ho]),Zb ho];show (22:Int)+e.data.length+0=_;omega
   ·rw [Za (by intro q;exact ho (Pl.mk.inj q).2.symm),Za ho];rfl
  rw [hone];cases nx with
  | false =>
   obtain ⟨h1,h2⟩:=hst.same rfl;rw [h2 o h0 h4,h1,<-h.used o h0 h4];split <;> omega
  | true =>
   obtain ⟨h1,_,h2,_⟩:=hst.next rfl
   rw [h2 o h0 h4,Zg6 (fun q hq e0=>by
    obtain ⟨i,hi⟩:=ZbH hq;have:=hmem i q hi;rw [e0] at this;simp only at this
    omega)]
   show _=(0:Int)+_;split <;> omega
 refine ⟨hst.ok,by simp [hl],by simp only [Zs,Z9,ZaZ];omega,hin,fun i x q hx hq=>?_,hus,fun s o h0 h4=>?_,fun i j a b hij ha hb'=>?_⟩
 ·rw [ZiY] at hx hq;by_cases hi:i<es.length
  ·rw [Zb hi] at hx;rw [Zb (by omega)] at hq;have:=h.pl i x q hx hq;omega
  ·rw [Za hi] at hx;rw [Za (by omega)] at hq;have hi0:i - es.length=0:=by have:=(ZH.1 hx).1;simp at this;omega
   rw [hi0] at hx;rw [hl,hi0] at hq;simp only [Zg,Zaa] at hx hq;subst hx hq;rw [hpp];exact ⟨by show s0<=g.set;omega,Zdc _,rfl⟩
 ·by_cases hs:s=g.set
  ·subst hs;rw [<-hus o h0 h4];exact (Fl.get_le hst.ok o).2
  ·rw [hon,Za (by rw [hpp];intro q;exact hs (Pl.mk.inj q).1.symm),Zbc];exact h.room s o h0 h4
 ·rw [ZiY] at ha hb';by_cases hj:j<ps.length
  ·rw [Zb hj] at hb';rw [Zb (by omega)] at ha;exact h.rise i j a b hij ha hb'
  ·rw [Za hj] at hb';have hj0:j - ps.length=0:=by have:=(ZH.1 hb').1;simp at this;omega
   rw [hj0] at hb';simp only [Zg,Zaa] at hb';subst hb';by_cases hi:i<ps.length
   ·rw [Zb hi] at ha;have:=hmem i a ha;rw [hpp];simp only;omega
   ·rw [Za hi,show i - ps.length=0 by omega] at ha;simp only [Zg,Zaa] at ha;subst ha;omega
theorem Zjx {c:Rg} {s0:Int}:∀ {b a:List En} {pa pb:List Pl} {f g:Fl},LaidAt c s0 a pa f->laid c s0 b pb f g->f.set+b.length<=1000000000->LaidAt c s0 (a++b) (pa++pb) g
 | [],a,pa,[],f,g,h,h1,_=>by cases (h1:g=f);simpa using h
 | [],_,_,_::_,_,_,_,h,_=>h.elim
 | _::_,_,_,[],_,_,_,h,_=>h.elim
 | e::b,a,pa,p::pb,f,g,h,h1,hb=>by
  obtain ⟨k,nx,h3,h4,h5⟩:=h1;simp only [Z9] at hb;have h6:=h.snoc h3 h4 (by omega);have hle:=(Zcl h3 (by omega)).set_le;have:=Zjx h6 h5 (by omega);simpa using this
theorem ZmE {c:Rg} {s0:Int} {es:List En} {ps:List Pl} {f:Fl} (hc:c.okB=true) (h:laid c s0 es ps ⟨s0,0,0,0,0⟩ f) (h0:0<=s0) (hb:s0+es.length<=1000000000):LaidAt c s0 es ps f:=by
 have:=Zjx (LaidAt.nil (s0:=s0) hc (by omega)) h hb;simpa using this
theorem ZlC {c:Rg} {s0:Int} {es:List En} {ps:List Pl} {f0 f:Fl} (h:laid c s0 es ps f0 f) (n:Nat):∃ g,laid c s0 (es.take n) (ps.take n) f0 g:=by
 by_cases hn:n<=es.length
 ·rw [<-Zck n es] at h;obtain ⟨g,h1,_⟩:=ZhD h;rw [ZJ,ZcJ hn] at h1;exact ⟨g,h1⟩
 ·rw [Zba (by omega),Zba (by rw [Ziq h];omega)];exact ⟨f,h⟩
theorem Zra {c:Rg} {s0 s1:Int} {e:En} {es:List En} {p:Pl} {ps:List Pl} {f0 f g:Fl} (h:laid c s0 (e::es) (p::ps) f0 f) (hn:rput c f0 e.seq e.data.length=(g,p,true,true)) (hs:s1=f0.set+1) (hb:f0.set+es.length+1<=1000000000) (h01:s0<=s1):laid c s1 (e::es) (p::ps) ⟨s1,0,0,0,0⟩ f:=by
 obtain ⟨k,nx,h1,h2,h3⟩:=h;rw [hn] at h1;simp only [Zv,Zap,ZaR] at h1;obtain ⟨rfl,rfl⟩:=h1;have hst:=Zcl hn (by omega);have hnx:=hst.next rfl;have less:∀ {es:List En} {ps:List Pl} {f0 f:Fl},laid c s0 es ps f0 f->laid c s1 es ps f0 f:=by
  intro es;induction es with
  | nil=>intro ps f0 f h;cases ps with
   | nil=>exact h
   | cons _ _=>exact h.elim
  | cons e es ih =>
   intro ps f0 f h;cases ps with
   | nil=>exact h.elim
   | cons p ps =>
    obtain ⟨g,nx,h1,h2,h3⟩:=h;exact ⟨g,nx,h1,by omega,ih h3⟩
 subst hs;exact ⟨g,false,hnx.2.2.2,by omega,less h3⟩
theorem ZmF {c:Rg} {p:Pl} (hc:c.okB=true) (h1:0<=p.set∧p.set<=1000000000) (h2:0<=p.obj∧p.obj<c.splay):rnum c p=p.set % c.sets*c.splay+p.obj:=by
 unfold rnum;rw [Za (by rw [hc];simp;omega)]
theorem ZmG {c:Rg} (hc:c.okB=true) (p:Pl):0<=rnum c p∧rnum c p<32:=by
 have h:=Rg.ok hc;unfold rnum;split
 ·omega
 ·rename_i hn;simp only [not_or] at hn;have h1:=ZgO p.set (show c.sets≠0 by omega);have h2:=ZgP p.set (show 0<c.sets by omega);have h3:p.set % c.sets*c.splay<=7*c.splay:=Int.mul_le_mul_of_nonneg_right (by omega) (by omega);have h4:0<=p.set % c.sets*c.splay:=Int.mul_nonneg h1 (by omega);omega
theorem Zmh {c:Rg} {p q:Pl} (hc:c.okB=true) {s0:Int} (h0:0<=s0) (hp1:s0<=p.set∧p.set<s0+c.sets∧p.set<=1000000000) (hp2:0<=p.obj∧p.obj<c.splay) (hq1:s0<=q.set∧q.set<s0+c.sets∧q.set<=1000000000) (hq2:0<=q.obj∧q.obj<c.splay) (h:rnum c p=rnum c q):p=q:=by
 rw [ZmF hc (by omega) hp2,ZmF hc (by omega) hq2] at h;have hcc:=Rg.ok hc;have e1:(p.set % c.sets*c.splay+p.obj) % c.splay=p.obj:=by
  rw [Int.add_comm,Int.add_mul_emod_self_right];exact Int.emod_eq_of_lt hp2.1 hp2.2
 have e2:(q.set % c.sets*c.splay+q.obj) % c.splay=q.obj:=by
  rw [Int.add_comm,Int.add_mul_emod_self_right];exact Int.emod_eq_of_lt hq2.1 hq2.2
 have ho:p.obj=q.obj:=by rw [<-e1,<-e2,h]
 have hm:p.set % c.sets=q.set % c.sets:=by
  have h5:p.set % c.sets*c.splay=q.set % c.sets*c.splay:=by omega
  exact Int.eq_of_mul_eq_mul_right (show c.splay≠0 by omega) h5
 have hs:p.set=q.set:=by
  have d1:=Int.emod_add_mul_ediv p.set c.sets;have d2:=Int.emod_add_mul_ediv q.set c.sets;have h6:c.sets*(p.set / c.sets) - c.sets*(q.set / c.sets)=p.set - q.set:=by omega
  have h7:c.sets*(p.set / c.sets - q.set / c.sets)=p.set - q.set:=by rw [Int.mul_sub];exact h6
  have h8:p.set / c.sets - q.set / c.sets=0:=by
   rcases Int.lt_trichotomy (p.set / c.sets - q.set / c.sets) 0 with h9|h9|h9
   ·exfalso;have:c.sets*(p.set / c.sets - q.set / c.sets)<=c.sets*(-1):=Int.mul_le_mul_of_nonneg_left (by omega) (by omega);omega
   ·exact h9
   ·exfalso;have:c.sets*1<=c.sets*(p.set / c.sets - q.set / c.sets):=Int.mul_le_mul_of_nonneg_left (by omega) (by omega);omega
  rw [h8] at h7;omega
 cases p;cases q;simp only at hs ho;rw [hs,ho]
theorem Zf0 (c:Rg) (k:K4):∀ (es:List En) (ps:List Pl) (m:List (K4 × List Int)),Zl (ZcC c es ps m) k=Zl m k++Zar ((es.zip ps).filterMap fun x=>if keyOf c x.2=k then some x.1 else none)
 | [],[],m=>by simp [ZcC,Zar]
 | [],_::_,m=>by simp [ZcC,Zar]
 | _::_,[],m=>by simp [ZcC,Zar]
 | e::es,p::ps,m=>by
  unfold ZcC;rw [Zf0 c k es ps,List.zip_cons_cons,List.filterMap_cons];have hw:Zl (Zc6 m (keyOf c p) (Zah e)) k=Zl m k++if keyOf c p=k then Zah e else []:=by
   unfold Zl Zc6;by_cases h:keyOf c p=k
   ·subst h;rw [ZcU,Zb rfl];rfl
   ·rw [Zdv (fun e0=>h e0.symm),Za h,Zbc]
  rw [hw];by_cases h:keyOf c p=k
  ·simp only [h,Zan];rw [ZfT,ZV]
  ·simp only [h,Zas,Zbc]
theorem ZpR:(prog.info? 46).map (fun i=>(i.zero,i.size,i.bytes))=some (some (slice none 0 0),1,24):=by kernel_rfl
section
variable {p q : Nat} {J : Jn} {S : Str}
theorem Zs5 (w:World) (x:Value) (t:TypeId) (hx:x.oneCell'=true):SliceSrc (w.alloc (cells #[x] t)) 1 (slice (some ⟨w.heap.size,0,none⟩) 1 1) 1 [x]:=by
 refine ⟨_,_,rfl,⟨rfl,fun _=>⟨_,rfl,fun j u hu=>?_⟩,fun u hu=>?_⟩,fun e=>by cases e⟩
 ·rw [add_plain,ZX,Zc (Za3 _ _) j,<-hu];simp
 ·simp only [Z4,Zbv,Zbi] at hu;rw [hu];exact hx
theorem St.rows_nil (h:St W I w l):St W I w (Zc5 (slice none 0 0) []::l):=by
 refine St.ex_shut [] (St.all_shut ?_);exact (St.imm_shut (A:=⟨fun I=>∀ (i:Nat) (r:List Int),([]:List (List Int))[i]?=some r->∃ x,([]:List Value)[i]?=some x∧BytesI I x r∧∀ y ∈ r,isByte y,_⟩) (fun i r hr=>by simp at hr) (h.win_nil _ _)).pull 1 _ rfl
theorem St.rows_append {v x:Value} {rs:List (List Int)} {r:List Int} {g:Nat} (hg:g=w.heap.size) (h:St W I w (Zc5 v rs::l)) (hd:BytesI I x r) (hb:∀ y ∈ r,isByte y) (hn:rs.length+1<=1000000000) :
  ∃ A' c' w',(Builtin.append_ #[22,22] 22 #[v,slice (some ⟨g,0,none⟩) 1 1]).run prog (w.alloc (cells #[x] 46))=.ok (slice A' (rs.length+1) c') w'∧St W I w' (Zc5 (slice A' (rs.length+1) c') (rs++[r])::l):=by
 subst hg;obtain ⟨vs,h1⟩:=h.ex_open;obtain ⟨hI,h2⟩:=((h1.all_open).pull 1 _ rfl).imm_open;have hl:=St.win_len h2;rw [Zcj] at hl;obtain ⟨i0,hi0,hz0,hz1,hz2⟩:=info_parts ZpR;obtain ⟨A0,c0,e0⟩:=hd.isSl;have hone:∀ u ∈ vs,u.oneCell'=true:=by
  intro u hu;obtain ⟨i,hi⟩:=ZbH hu;have hil:=(ZH.1 hi).1;obtain ⟨y,hy1,hy2,_⟩:=hI i _ (Zy (by omega));rw [hi] at hy1;obtain rfl:=Zey hy1;obtain ⟨A,c,e⟩:=hy2.isSl;rw [e];rfl
 have h3:=h2.keep (ZS w (cells #[x] 46));obtain ⟨v',w',hr,h4⟩:=h3.win_append (t:=22) (ty:=22) underlying22 hi0 hz0 hz1 hz2 rfl (by decide) (by decide) hone (Zs5 w x _ (by rw [e0];rfl)) hn;obtain ⟨A',c',e3,_⟩:=h4.win_slice;subst e3;refine ⟨A',c',w',hr,St.ex_shut (vs++[x]) (St.all_shut ?_)⟩;rw [Zs,ZcT];refine (St.imm_shut (A:=⟨fun I=>∀ (i:Nat) (r':List Int),(rs++[r])[i]?=some r'->∃ x',(vs++[x])[i]?=some x'∧BytesI I x' r'∧∀ y ∈ r',isByte y,_⟩) ?_ h4).pull 1 _ rfl;intro i r' hr';rw [ZiY] at hr' |-;by_cases hi:i<rs.length
 ·rw [Zb hi] at hr';rw [Zb (by omega)];exact hI i r' hr'
 ·rw [Za hi] at hr';rw [Za (by omega)];have hi0:i - rs.length=0:=by have:=(ZH.1 hr').1;simp at this;omega
  rw [hi0] at hr';rw [hl,hi0];simp only [Zg,Zaa] at hr' |-;subst hr';exact ⟨x,rfl,hd,hb⟩
end
theorem Zmi:∀ (f:Nat) (r:List Int),∀ e ∈ (allGo f r).1,e.okB=true
 | 0,_=>fun e h=>by cases h
 | f+1,r=>fun e h=>by
  unfold allGo at h;split at h
  ·cases h
  ·rename_i hk;rcases Z4.1 h with rfl|h
   ·exact (Zgr (by simpa using hk)).2.2.1
   ·exact Zmi f _ e h
theorem ZlD:∀ (f:Nat) (m:List (Int × En)) (s:Int),∀ e ∈ runGo f m s,∃ k,get k m=some e
 | 0,_,_=>fun e h=>by cases h
 | f+1,m,s=>fun e h=>by
  unfold runGo at h;cases hg:get s m with
  | none=>rw [hg] at h;cases h
  | some x =>
   rw [hg] at h;rcases Z4.1 h with rfl|h
   ·exact ⟨s,hg⟩
   ·exact ZlD f m (s+1) e h
theorem ZlE:∀ (f:Nat) (m:List (Int × En)) (s:Int),(runGo f m s).length<=f
 | 0,_,_=>ZC _
 | f+1,m,s=>by
  unfold runGo;split
  ·exact ZL _
  ·exact Nat.succ_le_succ (ZlE f m (s+1))
theorem Zrb {rs:List (List Int)} {s:Int}:∀ e ∈ Zb7 rs s,e.okB=true:=by
 intro e he;unfold Zb7 at he;split at he
 ·cases he
 ·obtain ⟨k,hk⟩:=ZlD _ _ _ e he;rw [Zg5] at hk;obtain ⟨hm,_⟩:=ZkJ hk;obtain ⟨r,_,hr⟩:=Zcs.1 hm;exact Zmi _ _ e hr
theorem ZpS {rs:List (List Int)} {s:Int} (h:∀ r ∈ rs,r.length<=23000):(Zb7 rs s).length<=1000*rs.length:=by
 unfold Zb7;split
 ·exact ZL _
 ·have h1:=ZlE (cntM (Zbq rs) s) (Zbq rs) s;have h2:=ZmD (Zbq rs) s;have h3:=Zg4 rs [] h;unfold runM;unfold Zbq at h1 h2 |-;simp only [ZaZ] at h3;omega
theorem ZkS {ts:List Tag} {es:List En}:(∀ e ∈ tagged ts es,e ∈ es)∧(tagged ts es).length<=es.length :=
 ⟨fun _ h=>(List.takeWhile_sublist _).subset h,(Zdr _).length_le⟩
theorem Zmj {c:Rg} {s0:Int} (hc:c.okB=true):∀ (es:List En) (f:Fl),f.okB c=true->f.set+es.length<=1000000000->(layGo c s0 es f).2.2.okB c=true
 | [],f,h,_=>h
 | e::es,f,h,hb=>by
  unfold layGo;split
  ·exact h
  ·rename_i hn;rw [not_or] at hn;simp only [Z9] at hb;obtain ⟨⟨g,p,nx,ok⟩,hr⟩:∃ x,x=rput c f e.seq e.data.length:=⟨_,rfl⟩;rw [<-hr] at hn |-;cases ok with
   | true =>
    have hst:=Zcl hr.symm (by omega);exact Zmj hc es g hst.ok (by have:=hst.set_le;omega)
   | false =>
    exfalso;apply hn.1;have h1:(rput c f e.seq e.data.length).2.2.2=false:=by rw [<-hr]
    unfold rput at hr h1;split at h1
    ·rename_i hcc;rw [Zb hcc] at hr;simp only [Zv] at hr;exact hr.1
    ·split at h1 <;> cases h1
theorem Zh1 {c:Rg} {s0:Int}:∀ (es:List En) (f:Fl),∀ e ∈ (layGo c s0 es f).1,e ∈ es
 | [],_=>fun e h=>h
 | x::es,f=>fun e h=>by
  unfold layGo at h;split at h
  ·cases h
  ·rcases Z4.1 h with rfl|h
   ·exact Zat ..
   ·exact ZaB _ (Zh1 es _ e h)
theorem ZmH {J:Jn} (h:J.r.Ok) (hs:J.r.set<=1000000) (hn:J.l.length<=100000) (hsf:0<=J.safe∧J.safe<=3299023255552):JB (layJ J):=by
 have hl:=Zlx J.r.shape J.r.set J.l (layF J.r);have hset:=h.set;refine ⟨h,Zaw hl.2 hn,hl.1,?_,hsf⟩;exact Zmj h.shape J.l (layF J.r) (Fl.empty_ok h.shape (by omega)) (by show J.r.set+_<=_;omega)
section
variable {p q : Nat} {J : Jn} {S : Str}
theorem ZpT {m:Nat} (h:St W I w (Zj p S::l)) (hon:S.on=true) (hk:Inv S m) (hj:JRec S none):Calls prog 27 #[pointer (some ⟨p,0,none⟩)] w fun e w'=>e=.returned (.tuple #[pointer none,int i64 (attrS S kJ nmJ).2])∧St W I w' (Zj p S::l):=by
 have hr:=Zhl h;rw [Za (by simp [hon])] at hr;have HR:=Zh hr;have hl:=Zky h hk hj;have HL:=Zh hl;have hne:((attrS S kJ nmJ).2 != 0)=true:=by unfold JRec at hj;simpa using hj
 obtain ⟨er,her⟩:=Zn ((attrS S kJ nmJ).2);rw [<-her] at HL hne |-;clear h hr hl hj hon her;go_enter func27,ntmps27;go_wp2_with fail;refine HR.o.mono ?_;rintro e w1 ⟨rfl,rfl⟩;go_wp2_with fail;refine HL.o.mono ?_;rintro e w2 ⟨rfl,h2⟩;have H2:=Zh (h2.keep (ZS w2 (cells #[int i64 0,int i64 0,int i64 0,int i64 0,int i64 0,slice none 0 0,slice none 0 0] 105)));clear h2;simp only [Rc.zeroVal];go_wp2;go_ret2;exact ⟨rfl,H2.o⟩
theorem ZnW {S:Str} {m:Nat} (hk:Inv S m):∀ r ∈ readRows S,r.length<=20480:=by
 intro r hr;obtain ⟨k,_,rfl⟩:=Zam.1 hr;unfold readS;split
 ·split
  ·exact ZL _
  ·rename_i t ht;split
   ·exact ZL _
   ·have h9:t.b.length<=20480:=(hk.seen _ (get_mem ht)).1;simp only [ZJ,ZW];omega
 ·exact ZL _
theorem Zhm {ts:List Tag}:∀ {es:List En} {i:Nat},(∀ e ∈ es.take i,e.tag=tagOf ts e.seq)->(∀ e,es[i]?=some e->e.tag≠tagOf ts e.seq)->i<=es.length->tagged ts es=es.take i
 | [],i,_,_,_=>by simp [tagged]
 | x::es,0,_,h,_=>by
  unfold tagged;rw [Zcv,Za (by simpa using h x rfl)];rfl
 | x::es,i+1,h1,h2,h3=>by
  have ih:=Zhm (ts:=ts) (es:=es) (i:=i) (fun e he=>h1 e (by rw [Zdl];exact ZaB _ he)) (fun e he=>h2 e (by simpa using he)) (by simpa using h3);unfold tagged at ih |-;rw [Zcv,Zb (by have:=h1 x (by rw [Zdl];exact Zat ..);simpa using this),ih,Zdl]
theorem ZkT (r:Rc) (o:Option Rc) {m:Nat} (h:St W I w (Zj p S::l)) (hon:S.on=true) (hk:Keeps S (m+2+4*(Zau S ⟨2,0⟩).length)) (hn:(Zp S ⟨2,0⟩).length<=100) (hb:SeenB S) (hj:JRec S (some r)) (hs:r.set<=1000000)
  (hj2:(trimJ S (layJ (ZaO S r))).1=0->JRec (trimJ S (layJ (ZaO S r))).2 o) :
  Calls prog 27 #[pointer (some ⟨p,0,none⟩)] w fun e w'=>∃ I',I.sub I' ∧
   (((openJ S r).1≠0∧e=.returned (.tuple #[pointer none,int i64 (openJ S r).1])∧St W I' w' (Zj p (openJ S r).2.1::l)) ∨
     ((openJ S r).1=0∧∃ q,e=.returned (.tuple #[pointer (some ⟨q,0,none⟩),int i64 0])∧St W I' w' (Zj p (openJ S r).2.1::jnHP q p (openJ S r).2.2::l))):=by
 have hr:=Zhl h;rw [Za (by simp [hon])] at hr;have HR:=Zh hr;have hl:=Zkz r h hk.inv hj;have HL:=Zh hl;obtain ⟨ks,hks⟩:=Zn (Zau S ⟨2,0⟩);have hkl:ks.length<=100:=by
  rw [hks];unfold Zau;rw [Zb hon];exact hn
 have HKE:=Zh hks;have HN:=Zh hn;have HK:=Zh hk;have HB:=Zh hb;have HS:=Zh hs;have HJ2:=Zh hj2;have HOK:=Zh hj.1;have hrl:=ZnW hk.inv;have HRL:=Zh hrl;have HREAD:=Zh (fun w1 (I1:Hp) (L:List HP) (k:K4) (n:Int) (h:St W I1 w1 (Zj p S::L))=>Zlj k 0 n h hk.inv);clear h hr hl hj hon hks hn hk hb hs hj2 hrl;go_enter func27,ntmps27;go_wp2_with fail;refine HR.o.mono ?_;rintro e w1 ⟨rfl,rfl⟩;go_wp2_with fail;refine HL.o.mono ?_;rintro e w2 ⟨I2,vt,vc,s2,rfl,hrI,h2⟩;obtain ⟨At,ct,rfl,_⟩:=hrI.1;obtain ⟨Ac,cc,rfl,_⟩:=hrI.2;have h3:=(h2.alloc (cells (r.cells (slice At r.tags.length ct) (slice Ac r.cls.length cc)) 105));simp only [Rc.cells] at h3 |-;have S2:=Zh s2;have HRI:=Zh hrI;have H3:=Zh h3;clear h2 h3 s2 hrI HR HL;go_upto_region 7 with fail;have h3:=H3.o;obtain ⟨gr,hgr⟩:=Zn w2.heap.size;rw [<-hgr] at h3 |-;generalize (World.alloc _ _:World)=w3 at h3 |-;clear hgr H3;obtain ⟨x0,x1,x2,x3,x4,x5,x6⟩:=ZaC h3;have lg:=h3.lt;obtain ⟨q,hq⟩:=Zn w3.heap.size;have h4:=h3.alloc (cells (Zb3 p ⟨r,[],[],Fl.zero,0,false⟩ ⟨slice At r.tags.length ct,slice Ac r.cls.length cc,slice none 0 0,slice none 0 0⟩) 110);rw [<-hq] at h4;have h5:St W I2 _ (jnBlk q p ⟨r,[],[],Fl.zero,0,false⟩ ⟨slice At r.tags.length ct,slice Ac r.cls.length cc,slice none 0 0,slice none 0 0⟩::_::_):=h4;simp only [Zb3,Fl.zero] at h5;have h6:=((h5.pull 2 _ rfl).pull 2 _ rfl);have H6:=Zh h6.rows_nil;clear h4 h5 h6;go_upto_region 8 with fail;have h6:=H6.o;rw [<-hq];generalize (World.alloc _ _:World)=w5 at h6 |-;clear H6 h3 x0 x1 x2 x3 x4 x5 x6 lg hq;have H6:=Zh h6;clear h6;have HKEYS:=Zh (Ziy 2 0 (H6.o.pull 2 _ rfl) (Zaw HN.o (by decide)));rw [<-HKE.o] at HKEYS;go_wp2_with fail;refine HKEYS.o.mono ?_;rintro e w4 ⟨v4,rfl,hb4,ho4⟩;obtain ⟨A4,c4,rfl⟩:=ZA ho4;obtain ⟨I4,s4,hR4,h4⟩:=(H6.o.row_fresh hb4 ho4).freeze_row;have HR4:=Zh hR4;have S4:=Zh (S2.o.trans s4);have HRI4:=Zh (HRI.o.mono s4);have H4:=Zh (h4.pull 2 _ rfl);clear hb4 ho4 hR4 h4 s4 HKEYS H6 HRI;go_wp2_with fail;have HRR:=Zh (show readRows S=ks.map fun k=>(readS S k 0 (lenAt S k)).1 by rw [HKE.o];rfl);obtain ⟨f,hf⟩:∃ f:K4->List Int,f=fun k=>(readS S k 0 (lenAt S k)).1:=⟨_,rfl⟩;rw [<-hf] at HRR;have HF:=Zh hf;clear hf;go_loopw [8,38] (fun a8 a38 wr=>∃ (i:Nat) (I':Hp) (A8:Option Addr) (c8:Nat),a38=int i64 i∧a8=slice A8 i c8∧i<=ks.length∧I4.sub I'∧St W I' wr (Zj p S::Zc5 (slice A8 i c8) ((ks.take i).map f)::pt gr (cells #[int i64 r.shape.splay,int i64 r.shape.sets,int i64 r.shape.size,int i64 r.first,int i64 r.set,slice At r.tags.length ct,slice Ac r.cls.length cc] 105)::pt q (cells #[pointer (some ⟨p,0,none⟩),int i64 r.shape.splay,int i64 r.shape.sets,int i64 r.shape.size,int i64 r.first,int i64 r.set,slice At r.tags.length ct,slice Ac r.cls.length cc,slice none 0 0,slice none 0 0,int i64 0,int i64 0,int i64 0,int i64 0,int i64 0,int i64 0,.bool false] 110)::l)) (fun _ a38 _=>ks.length - (intOf a38).toNat)
 case atStart=>exact ⟨0,I4,none,0,rfl,rfl,ZL _,Hp.sub.refl _,by rw [ZfH,Zcr];exact H4.o⟩
 case round =>
  obtain ⟨i,I',A8,c8,rfl,rfl,hi,hsub,hst⟩:=hrel;clear H4;by_cases hlt:i<ks.length
  ·have d0:decide ((i:Int)<(ks.length:Int))=true:=by rw [Zk];omega
   have hlt2:(i:Int)<(ks.length:Int):=by omega
   obtain ⟨k,hkk⟩:∃ k,ks[i]?=some k:=⟨_,Zy hlt⟩;have hR:=HR4.o.mono hsub;obtain ⟨bb,off,e1,hc⟩:=ZbL (i:=i) (mk:=K4.vals) (k:=4) hR (Hp.sub.refl _) hst (fun _=>rfl) hkk;simp only [Zz,Zap,ZaR] at e1;subst e1;have y0:=hc 0 (by omega);have y1:=hc 1 (by omega);have y2:=hc 2 (by omega);have y3:=hc 3 (by omega);have htk:(ks.take (i+1)).map f=(ks.take i).map f++[f k]:=by rw [Zb9,hkk,Zbo];rfl
   have HTK:=Zh htk;have hfk:f k=(readS S k 0 (lenAt S k)).1:=by rw [HF.o]
   have h4:=hst.alloc (cells #[int i64 k.kind,int i64 k.img,int i64 k.num,int i64 k.snap] 43);have hsz:=Zgu k (h4.pull 1 _ rfl);have HREAD2:=Zh (fun w1 (L:List HP) (n:Int) (h:St W I' w1 (Zj p S::L))=>HREAD.o w1 I' L k n h);have HBY:=Zh (ZkN (k:=k) (off:=0) (n:=lenAt S k) HB.o);obtain ⟨n,hn⟩:=Zn (lenAt S k);obtain ⟨wy,hwy⟩:=Zn (whyS S k);rw [<-hn,<-hwy] at hsz;rw [<-hn] at hfk HBY;have HREAD3:=Zh (fun w1 (L:List HP) (h:St W I' w1 (Zj p S::L))=>HREAD2.o w1 L n h);obtain ⟨⟨bs,er⟩,hrd⟩:∃ x,x=readS S k 0 n:=⟨_,rfl⟩;rw [<-hrd] at hfk HREAD3 HBY;simp only at hfk HREAD3 HBY;rw [hfk] at HTK;obtain ⟨k0,k1,k2,k3⟩:=k;simp only [K4.vals,Zg,Zi,ZaP] at y0 y1 y2 y3;simp only [K4.val] at hsz HREAD3;simp only at h4;have HSZ:=Zh hsz;have H4:=Zh h4;have HSUB:=Zh hsub;clear hc hkk hR htk hsub hst h4 hsz hfk hn hwy hrd HREAD2;go_wp2_with fail;refine HSZ.o.mono ?_;rintro e w6 ⟨hb6,rfl⟩;have h6:=H4.o.keep hb6;have HR6:=Zh (HREAD3.o _ _ (h6.pull 1 _ rfl));obtain ⟨z0,z1,z2,z3⟩:=Zfp h6;have lk:=h6.lt;have H6:=Zh h6;clear h6 hb6 H4 HSZ HREAD3 y0 y1 y2 y3;go_wp2_with fail;refine HR6.o.mono ?_;rintro e w7 ⟨hb7,v7,rfl,ho7⟩;obtain ⟨A7,c7,rfl⟩:=ZA ho7;obtain ⟨I7,s7,hB7,h7⟩:=ZbU H6.o hb7 ho7;have hil:((ks.take i).map f).length=i:=by rw [Za7,ZJ];omega
   obtain ⟨A9,c9,w9,hr9,h9⟩:=St.rows_append (g:=w7.heap.size) rfl (h7.drop.pull 1 _ rfl) hB7 HBY.o (by rw [hil];omega);rw [hil] at hr9 h9;have hst9:=h9.pull 1 _ rfl;have HR9:=Zh hr9;have H9:=Zh hst9;have S7:=Zh (HSUB.o.trans s7);clear hb7 ho7 hB7 h7 hr9 h9 hst9 s7 H6 HR6 z0 z1 z2 z3 lk hil;go_wp2_with (at_builtin;refine ZZ _ rfl (.tmp 55) (.tmp 57) 22 22 rfl _ _ rfl rfl _ _ HR9.o ?_);go_roundw;case rel=>exact ⟨i+1,I7,A9,c9,by go_num,rfl,by omega,S7.o,by rw [HTK.o];exact H9.o⟩
   case measure=>simp [intOf]<;>omega
  ·obtain rfl:i=ks.length:=by omega
   have d0:decide (((ks.length:Nat):Int)<(ks.length:Int))=false:=by rw [ZT];omega
   rw [ZbJ,<-HRR.o] at hst;have hll:(readRows S).length=ks.length:=by rw [HRR.o,Za7]
   have S4':=Zh (S4.o.trans hsub);have HRI5:=Zh (HRI4.o.mono hsub);have hfst:=HOK.o.first;obtain ⟨x0,x1,x2,x3,x4,x5,x6⟩:=ZaC (hst.pull 2 _ rfl);have lg:=(hst.pull 2 _ rfl).lt;have hmg:=ZpI _ (readRows S) r.first (hst.pull 1 _ rfl) (by rw [hll];omega) (fun x hx=>by have:=HRL.o x hx;omega) (by omega);have HMG:=Zh hmg;clear hst hmg hsub HR4 HRI4 hll;go_wp2_with fail;refine HMG.o.mono ?_;rintro e w6 ⟨I6,v6,s6,rfl,h6⟩;obtain ⟨es,hes⟩:=Zn (Zb7 (readRows S) r.first);have hel:es.length<=100000:=by
    rw [hes];have:=ZpS (s:=r.first) (fun x hx=>Zaw (HRL.o x hx) (show 20480<=23000 by decide));have h9:(readRows S).length=ks.length:=by rw [HRR.o,Za7]
    rw [h9] at this;omega
   have hst1:(ZaO S r).l.length<=100000:=by
    have h9:=(ZkS (ts:=r.tags) (es:=es)).2;unfold ZaO;rw [<-hes];show (tagged r.tags es).length<=100000;omega
   have HJB:=Zh (ZmH (J:=ZaO S r) HOK.o HS.o hst1 ⟨Zdc 0,by show (0:Int)<=_;decide⟩);have HEOK:=Zh (show ∀ e ∈ (layJ (ZaO S r)).l,e.okB=true from fun e he=>Zrb e ((ZkS (ts:=r.tags) (es:=Zb7 (readRows S) r.first)).1 e (Zh1 _ _ e he)));rw [<-hes] at h6;have HES:=Zh hes;obtain ⟨A6,c6,rfl,hec,_⟩:=h6.ents_slice;have S6:=Zh (S4'.o.trans s6);have HRI6:=Zh (HRI5.o.mono s6);have h7:=(((h6.pull 1 _ rfl).drop).ents_nil);have h8:St W I6 w6 (Zo (slice none 0 0) []::Zo (slice A6 es.length c6) es::Zj p S::pt gr (cells #[int i64 r.shape.splay,int i64 r.shape.sets,int i64 r.shape.size,int i64 r.first,int i64 r.set,slice At r.tags.length ct,slice Ac r.cls.length cc] 105)::jnBlk q p (ZaO S r) ⟨slice At r.tags.length ct,slice Ac r.cls.length cc,slice none 0 0,slice none 0 0⟩::l):=h7;have H7:Hid (St W I6 w6 (Zo (slice A6 es.length c6) es::pt gr (cells #[int i64 r.shape.splay,int i64 r.shape.sets,int i64 r.shape.size,int i64 r.first,int i64 r.set,slice At r.tags.length ct,slice Ac r.cls.length cc] 105)::jnBlk q p (ZaO S r) ⟨slice At r.tags.length ct,slice Ac r.cls.length cc,slice none 0 0,slice none 0 0⟩::Zo (slice none 0 0) []::Zj p S::l)):=Zh (h8.perm (by ((try simp only [ZE,ZF,ZG,Zu]);repeat (first|with_reducible exact ZK _|(apply ZP;(· repeat (first|with_reducible exact ZO|with_reducible apply ZN)))))));clear h8;clear h6 h7 hes hst1 s6 HMG HREAD HRI5 x0 x1 x2 x3 x4 x5 x6 lg S4' HRR;go_wp2;go_loopw [65] (fun a65 wr=>∃ (i:Nat) (I':Hp) (A8:Option Addr) (c8:Nat),a65=int i64 i∧i<=es.length∧(∀ e ∈ es.take i,e.tag=tagOf r.tags e.seq)∧I6.sub I'∧St W I' wr (Zo (slice A6 es.length c6) es::pt gr (cells #[int i64 r.shape.splay,int i64 r.shape.sets,int i64 r.shape.size,int i64 r.first,int i64 r.set,slice At r.tags.length ct,slice Ac r.cls.length cc] 105)::jnBlk q p (ZaO S r) ⟨slice At r.tags.length ct,slice Ac r.cls.length cc,slice A8 i c8,slice none 0 0⟩::Zo (slice A8 i c8) (es.take i)::Zj p S::l)) (fun a65 _=>es.length - (intOf a65).toNat);case atStart=>exact ⟨0,I6,none,0,rfl,ZL _,(fun e he=>by simp at he),Hp.sub.refl _,H7.o⟩
   case round =>
    obtain ⟨i,I9,A8,c8,rfl,hi,htg,hsub,hst⟩:=hrel;clear H7;by_cases hlt:i<es.length
    ·have d0:decide ((i:Int)<(es.length:Int))=true:=by rw [Zk];omega
     have hlt2:(i:Int)<(es.length:Int):=by omega
     obtain ⟨e,he⟩:∃ e,es[i]?=some e:=⟨_,Zy hlt⟩;obtain ⟨g,qq,c2,vd,e2,hg,hbd,hbb,y0,y1,y2⟩:=hst.ents_cell he;simp only [Zz] at e2;obtain ⟨rfl,hnn,rfl⟩:=e2;clear hnn;obtain ⟨Ad,cd,rfl⟩:=hbd.isSl;have htk:es.take (i+1)=es.take i++[e]:=by rw [Zb9,he];rfl
     have hil:(es.take i).length=i:=by rw [ZJ];omega
     have h4:=hst.alloc (cells #[int i64 e.tag,int i64 e.seq,slice Ad e.data.length cd] 50);obtain ⟨tv,hto⟩:=Zn (tagOf r.tags e.seq);have HTG:=Zh htg;have HTK:=Zh htk;have HIL:=Zh hil;have HE:=Zh he;have HTO:=Zh hto;have HSUB:=Zh hsub;have HBD:=Zh hbd;have HBB:=Zh hbb;obtain ⟨tg,sq,d⟩:=e;simp only at y0 y1 y2 h4 HTO HBD HBB;obtain ⟨g16,hg16⟩:=Zn wr.heap.size;rw [<-hg16] at h4;have H4:=Zh h4;clear hst h4 htg htk hil he hto hsub hbd hbb;go_upto_region 19 with fail;have h4:=H4.o;rw [<-hg16];generalize (World.alloc _ _:World)=w4 at h4 |-;clear hg16 H4 y0 y1 y2 hg
     have HMK:=Zh (show ∀ w',St W I9 w' (pt g16 (cells #[int i64 tg,int i64 sq,slice Ad d.length cd] 50)::Zo (slice (some ⟨g,qq,none⟩) es.length c6) es::pt gr (cells #[int i64 r.shape.splay,int i64 r.shape.sets,int i64 r.shape.size,int i64 r.first,int i64 r.set,slice At r.tags.length ct,slice Ac r.cls.length cc] 105)::jnBlk q p (ZaO S r) ⟨slice At r.tags.length ct,slice Ac r.cls.length cc,slice A8 i c8,slice none 0 0⟩::Zo (slice A8 i c8) (es.take i)::Zj p S::l)->(w'.cell? ⟨gr,5,none⟩=some (slice At r.tags.length ct)∧w'.cell? ⟨g16,0,none⟩=some (int i64 tg)∧w'.cell? ⟨g16,1,none⟩=some (int i64 sq)) from fun w' h1=>by
      obtain ⟨a0,a1,a2⟩:=Zak h1;obtain ⟨b0,b1,b2,b3,b4,b5,b6⟩:=ZaC (h1.pull 2 _ rfl)
      exact ⟨b5,a0,a1⟩)
     have HTA:=Zh (show ∀ w' L,St W I9 w' L->TagsAt w' At r.tags.length r.tags from fun w' L h1=>by
      obtain ⟨A,c,e,_,ht⟩:=ZbM h1 (HRI6.o.mono HSUB.o).1;simp only [Zz] at e;obtain ⟨rfl,_,_⟩:=e
      exact ht)
     have HTN:=Zh (show r.tags.length<=1000000 by have:=Ze6 HOK.o.tags;omega);have H4:=Zh h4;clear h4;refine Zca (fun w'=>St W I9 w' (pt g16 (cells #[int i64 tg,int i64 sq,slice Ad d.length cd] 50)::Zo (slice (some ⟨g,qq,none⟩) es.length c6) es::pt gr (cells #[int i64 r.shape.splay,int i64 r.shape.sets,int i64 r.shape.size,int i64 r.first,int i64 r.set,slice At r.tags.length ct,slice Ac r.cls.length cc] 105)::jnBlk q p (ZaO S r) ⟨slice At r.tags.length ct,slice Ac r.cls.length cc,slice A8 i c8,slice none 0 0⟩::Zo (slice A8 i c8) (es.take i)::Zj p S::l)∧w'.cell? ⟨gr,5,none⟩=some (slice At r.tags.length ct)∧w'.cell? ⟨g16,0,none⟩=some (int i64 tg)∧w'.cell? ⟨g16,1,none⟩=some (int i64 sq)) [(0,false),(1,false),(2,false),(3,false),(4,false),(5,false),(6,false),(7,false)] [] [] (by kernel_rfl) (by kernel_rfl) (by (intro w' hb;exact ⟨H4.o.drew.keep hb,HMK.o _ (H4.o.drew.keep hb)⟩)) ?_;repeat (first|refine ZaH (by rfl) _ (by rfl) (by intro w;go_simp;try with_reducible rfl) ?_|refine ZaK (by rfl) _ (by rfl) (by (intro w hSw;(try dsimp only at hSw);go_simp;try with_reducible rfl)) ?_|refine ZaI (by rfl) (by rfl) ?_|fail);(try go_frame)
     refine Zb2 (by rfl) (int i64 tv) (67) (#[slice At r.tags.length ct,int i64 sq]) (by rfl) (by intro w;go_simp;try with_reducible rfl) (by (rintro w1 ⟨hS,_⟩;rw [HTO.o];exact (Zio At _ ct r.tags sq w1 (HTA.o _ _ hS) HTN.o).mono (by rintro e w' ⟨h1,rfl⟩;exact ⟨h1,ZI _ _⟩))) ?_
     (try go_frame)
     repeat (first|refine ZaH (by rfl) _ (by rfl) (by intro w;go_simp;try with_reducible rfl) ?_|refine ZaK (by rfl) _ (by rfl) (by (intro w hSw;(try dsimp only at hSw);go_simp;try with_reducible rfl)) ?_|refine ZaI (by rfl) (by rfl) ?_|fail);(try go_frame)
     refine Zce ?_;refine ZdD ?_;rintro w5 hz5;have h5:=H4.o.drew.keep hz5.below;have H5:=Zh h5;clear h5 hz5 H4 HMK HTA HTN;by_cases htv:tg=tv
     ·subst htv;go_wp2;refine Zw ?_;go_upto_region 20 with fail
      have HMK2:=Zh (show ∀ (I':Hp) (w':World) (L:List HP),St W I' w' (pt g16 (cells #[int i64 tg,int i64 sq,slice Ad d.length cd] 50)::jnBlk q p (ZaO S r) ⟨slice At r.tags.length ct,slice Ac r.cls.length cc,slice A8 i c8,slice none 0 0⟩::L)->(w'.cell? ⟨q,8,none⟩=some (slice A8 i c8)∧w'.cell? ⟨g16,0,none⟩=some (int i64 tg)∧w'.cell? ⟨g16,1,none⟩=some (int i64 sq)∧w'.cell? ⟨g16,2,none⟩=some (slice Ad d.length cd)) from fun I' w' L h1=>by
       obtain ⟨a0,a1,a2⟩:=Zak h1
       exact ⟨jn_c8 (h1.pull 1 _ rfl),a0,a1,a2⟩)
      have h6:=H5.o.drew;have X1:=Zh (HMK2.o _ _ _ ((h6.pull 3 _ rfl).pull 1 _ rfl));have h6a:=h6.keep (ZS _ (cells #[int i64 tg,int i64 sq,slice Ad d.length cd] 50));have X2:=Zh (HMK2.o _ _ _ ((h6a.pull 3 _ rfl).pull 1 _ rfl));obtain ⟨A',c',w12,hrun,h12⟩:=St.ents_append (e:=⟨tg,sq,d⟩) (g:=w5.drew.heap.size) rfl (h6.pull 4 _ rfl) HBD.o HBB.o (by rw [HIL.o];omega);rw [HIL.o] at hrun h12;rw [<-HTK.o] at h12;have h13:=((h12.pull 4 _ rfl).pull 2 _ rfl);have X3:=Zh (HMK2.o _ _ _ h13);have h14:=(h13.drop).jb_l (slice A' (i+1) c')
      have HTG2:=Zh (show ∀ e ∈ es.take (i+1),e.tag=tagOf r.tags e.seq by
       rw [HTK.o];intro x hx;rcases Za6.1 hx with hx|hx
       ·exact HTG.o x hx
       ·rw [Zbj.1 hx];exact HTO.o)
      have k8:=X3.o.1;have fq:=Zbx (h13.drop) 8;have lq:=(h13.drop).lt;have lq0:=((h6.pull 3 _ rfl)).lt;have HRUN:=Zh hrun;have H14:=Zh h14;obtain ⟨x0,x1,x2,x3⟩:=X1.o;clear h6 h6a h12 h13 h14 hrun H5 HTG HTK HBD HBB HE HTO HIL;refine Zay (fun w'=>w'.cell? ⟨q,8,none⟩=some (slice A8 i c8)∧w'.cell? ⟨g16,0,none⟩=some (int i64 tg)∧w'.cell? ⟨g16,1,none⟩=some (int i64 sq)∧w'.cell? ⟨g16,2,none⟩=some (slice Ad d.length cd)) [0,1,2,3,4,5] [6,7] [8,9,10] (by kernel_rfl) (by kernel_rfl) (by (exact ⟨x0,x1,x2,x3⟩)) ?_;simp only [pickL,Zg,Zi];repeat (refine ZM _ (Or.inl ⟨by rfl,by (intro w hSw;(try dsimp only at hSw);go_simp;try with_reducible rfl)⟩) ?_;(try go_frame))
      refine Z7 ?_;unfold Zr;clear x0 x1 x2 x3;go_wp2;refine Zm X2.o ?_;unfold Zr;go_wp2_with (at_builtin;refine ZZ _ rfl (.tmp 81) (.tmp 83) 58 58 rfl _ _ rfl rfl _ _ HRUN.o ?_);refine Zm X3.o ?_;unfold Zr;go_wp2;refine Zw ?_;go_wp2;go_roundw;case rel=>exact ⟨i+1,I9,A',c',by go_num,by omega,HTG2.o,HSUB.o,((H14.o.pull 3 _ rfl).pull 3 _ rfl)⟩
      case measure=>simp [intOf]<;>omega
     ·have hne:(tg != tv)=true:=by simpa using htv
      have HT:=Zh (show tagged r.tags es=es.take i from Zhm HTG.o (fun e he=>by
       rw [HE.o] at he;obtain rfl:=Zey he;show tg≠tagOf r.tags sq;rw [<-HTO.o]
       exact htv) hi)
      have hst9:=((H5.o.drop).drop).drop;have hrI5:=HRI6.o.mono HSUB.o;have S9':=Zh (S6.o.trans HSUB.o);clear H5 HTG HTK HBD HBB HE HTO;go_wp2;refine Zw ?_;have hJl:(ZaO S r).l=es.take i:=by rw [<-HT.o];unfold ZaO;rw [HES.o]
      have hjn:=St.jn_shut (J:=ZaO S r) (V:=⟨slice At r.tags.length ct,slice Ac r.cls.length cc,slice A8 i c8,slice none 0 0⟩) (hrI5:recI I9 (ZaO S r).r _ _) (by rw [hJl];exact (((hst9.win_nil 41 2).pull 2 _ rfl).pull 2 _ rfl));have hlay:=ZhZ hjn HOK.o (by rw [hJl,ZJ];omega);have HLAY:=Zh hlay;clear hlay hjn hst9 hJl;go_wp2_with fail;refine HLAY.o.mono ?_;rintro e w10 ⟨rfl,h10⟩;have hmd:=ZhC o (h10.pull 1 _ rfl) HK.o (Zaw HN.o (by decide)) HB.o HJB.o HEOK.o HJ2.o;have hop:openJ S r=mendJ S (layJ (ZaO S r)):=rfl;obtain ⟨⟨why,S9,J9⟩,hm9⟩:∃ x,x=mendJ S (layJ (ZaO S r)):=⟨_,rfl⟩;rw [<-hm9] at hmd hop;have HMD:=Zh hmd;have HOP:=Zh hop;clear hmd hop h10 hm9 HLAY;go_wp2_with fail;refine HMD.o.mono ?_;rintro e w11 ⟨I11,s11,rfl,h11⟩;have H11:=Zh h11;have S11:=Zh (S9'.o.trans s11);clear h11 s11 HMD;by_cases hw:why=0
      ·subst hw;go_wp2;go_ret2;rw [HOP.o];exact ⟨I11,S11.o,.inr ⟨rfl,q,rfl,H11.o⟩⟩
      ·have hne:(why != 0)=true:=by simpa using hw
       go_wp2;go_ret2;rw [HOP.o];exact ⟨I11,S11.o,.inl ⟨hw,rfl,(H11.o.pull 1 _ rfl).drop⟩⟩
    ·obtain rfl:i=es.length:=by omega
     have d0:decide (((es.length:Nat):Int)<(es.length:Int))=false:=by rw [ZT];omega
     have HT:=Zh (show tagged r.tags es=es.take es.length from Zhm htg (fun e he=>by simp at he) (ZC _));obtain ⟨i,hie⟩:=Zn es.length;have hst9:=(hst.drop).drop;have hrI5:=HRI6.o.mono hsub;have S9':=Zh (S6.o.trans hsub);rw [<-hie] at hst9 HT;clear hst hsub htg hie hlt hi;have hJl:(ZaO S r).l=es.take i:=by rw [<-HT.o];unfold ZaO;rw [HES.o]
     have hjn:=St.jn_shut (J:=ZaO S r) (V:=⟨slice At r.tags.length ct,slice Ac r.cls.length cc,slice A8 i c8,slice none 0 0⟩) (hrI5:recI I9 (ZaO S r).r _ _) (by rw [hJl];exact (((hst9.win_nil 41 2).pull 2 _ rfl).pull 2 _ rfl));have hlay:=ZhZ hjn HOK.o (by rw [hJl,ZJ];omega);have HLAY:=Zh hlay;clear hlay hjn hst9 hJl;go_wp2_with fail;refine HLAY.o.mono ?_;rintro e w10 ⟨rfl,h10⟩;have hmd:=ZhC o (h10.pull 1 _ rfl) HK.o (Zaw HN.o (by decide)) HB.o HJB.o HEOK.o HJ2.o;have hop:openJ S r=mendJ S (layJ (ZaO S r)):=rfl;obtain ⟨⟨why,S9,J9⟩,hm9⟩:∃ x,x=mendJ S (layJ (ZaO S r)):=⟨_,rfl⟩;rw [<-hm9] at hmd hop;have HMD:=Zh hmd;have HOP:=Zh hop;clear hmd hop h10 hm9 HLAY;go_wp2_with fail;refine HMD.o.mono ?_;rintro e w11 ⟨I11,s11,rfl,h11⟩;have H11:=Zh h11;have S11:=Zh (S9'.o.trans s11);clear h11 s11 HMD;by_cases hw:why=0
     ·subst hw;go_wp2;go_ret2;rw [HOP.o];exact ⟨I11,S11.o,.inr ⟨rfl,q,rfl,H11.o⟩⟩
     ·have hne:(why != 0)=true:=by simpa using hw
      go_wp2;go_ret2;rw [HOP.o];exact ⟨I11,S11.o,.inl ⟨hw,rfl,(H11.o.pull 1 _ rfl).drop⟩⟩
end
end Go.Proofs.YtpjchngjhijgmaaGreat
