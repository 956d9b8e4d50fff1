import Derived.Test.YtpjchngjhijgmaaGreatJP31
set_option linter.all false
set_option maxRecDepth 4000
set_option maxHeartbeats 8000000
open Go.RowKit
open Go.IntKind (i64 u64)
open Go.Value (int pointer slice)
open Go.Obj (cells)
namespace Go.Proofs.YtpjchngjhijgmaaGreat
open Tryz
open HP (pt mapOf)
variable {W w w':World} {I:Hp} {l:List HP}
def Zac:Int->List En->List Pl->List Int
 | s,e::es,p::ps=>if p.set=s then Zac s es ps else e.seq::Zac p.set es ps
 | _,_,_=>[]
def Zd4 (J:Jn):List Int:=J.r.first::Zac J.r.set J.l J.at_
def setF (f:Fl) (k:Int):Fl:={ f with set:=k }
theorem Zmr (f:Fl) (k o:Int):(setF f k).get o=f.get o:=rfl
theorem Zgs (f:Fl) (k o x:Int):setF (f.put o x) k=(setF f k).put o x:=by
 unfold Fl.put setF
 (repeat' split) <;> rfl
theorem Zta {c:Rg} {f:Fl} {k:Int} (h:f.okB c=true) (hk:0<=k∧k<1073741824):(setF f k).okB c=true:=by
 rw [Fl.ok_iff] at h |-;exact ⟨h.1,h.2.1,h.2.2.1,h.2.2.2.1,hk⟩
theorem Zms {c:Rg} {f g:Fl} {p:Pl} {nx:Bool} {seq n k:Int} (h:rput c f seq n=(g,p,nx,true)) (hk:0<=k∧k<1073741824):∃ q,rput c (setF f k) seq n=(setF g (if nx then k+1 else k),q,nx,true):=by
 have ho:=ZdT (show (rput c f seq n).2.2.2=true by rw [h]);rw [Zem ho.1 ho.2.1 ho.2.2.1 ho.2.2.2] at h;rw [Zem ho.1 (Zta ho.2.1 hk) ho.2.2.1 ho.2.2.2,Zmr];split at h
 ·rename_i q;simp only [Zv] at h;obtain ⟨rfl,rfl,rfl,_⟩:=h;rw [Zb q,Zgs];exact ⟨_,rfl⟩
 ·rename_i q;simp only [Zv] at h;obtain ⟨rfl,rfl,rfl,_⟩:=h;rw [Za q,Zgs];exact ⟨_,rfl⟩
theorem Zei {c:Rg} {f g:Fl} {p:Pl} {nx:Bool} {seq n:Int} (h:rput c f seq n=(g,p,nx,true)):g.set=p.set∧p.set=(if nx then f.set+1 else f.set)∧(nx=true->g=Fl.put ⟨p.set,0,0,0,0⟩ (seq % c.splay) (22+n))∧(nx=false->g=f.put (seq % c.splay) (f.get (seq % c.splay)+(22+n))):=by
 have ho:=ZdT (show (rput c f seq n).2.2.2=true by rw [h]);rw [Zem ho.1 ho.2.1 ho.2.2.1 ho.2.2.2] at h;split at h
 ·simp only [Zv] at h;obtain ⟨rfl,rfl,rfl,_⟩:=h;exact ⟨by rw [Fl.put_set],rfl,fun _=>rfl,fun q=>(by cases q)⟩
 ·simp only [Zv] at h;obtain ⟨rfl,rfl,rfl,_⟩:=h;exact ⟨by rw [Fl.put_set],rfl,fun q=>(by cases q),fun _=>rfl⟩
theorem ZlQ {c:Rg} {s0:Int}:∀ {es:List En} {ps:List Pl} {f0 f:Fl},laid c s0 es ps f0 f->((Zac f0.set es ps).length:Int)=f.set - f0.set
 | [],[],f0,f,h=>by cases (h:f=f0);simp [Zac]
 | [],_::_,_,_,h=>h.elim
 | _::_,[],_,_,h=>h.elim
 | e::es,p::ps,f0,f,h=>by
  obtain ⟨g,nx,hr,_,h2⟩:=h;obtain ⟨h3,h4,_⟩:=Zei hr;have ih:=ZlQ h2;unfold Zac;cases nx with
  | false =>
   have h4:p.set=f0.set:=h4;rw [Zb h4];rw [h3,h4] at ih;exact ih
  | true =>
   have h4:p.set=f0.set+1:=h4;rw [Za (by omega),Z9];rw [h3] at ih
   push_cast
   omega
theorem Zhc {s:Int}:∀ {a b:List En} {pa pb:List Pl},pa.length=a.length->Zac s (a++b) (pa++pb)=Zac s a pa++Zac ((pa.getLast?.map Pl.set).getD s) b pb
 | [],b,[],pb,_=>rfl
 | [],_,_::_,_,h=>by simp at h
 | _::_,_,[],_,h=>by simp at h
 | e::a,b,p::pa,pb,h=>by
  have h2:pa.length=a.length:=by simpa using h
  have key:((p::pa).getLast?.map Pl.set).getD s=(pa.getLast?.map Pl.set).getD p.set:=by
   cases pa with
   | nil=>rfl
   | cons q qs=>rw [Zi9];cases hq:(q::qs).getLast? with
    | none=>simp at hq
    | some r=>rfl
  rw [key];show (if p.set=s then Zac s (a++b) (pa++pb) else e.seq::Zac p.set (a++b) (pa++pb))=(if p.set=s then Zac s a pa else e.seq::Zac p.set a pa)++_;by_cases q:p.set=s
  ·rw [Zb q,Zb q,Zhc h2,q]
  ·rw [Za q,Za q,Zhc h2];rfl
theorem ZdQ {s b:Int}:∀ {es:List En} {ps:List Pl},runs es b->∀ x ∈ Zac s es ps,b<=x∧x<b+es.length
 | [],ps,_,x,hx=>by cases ps <;> simp [Zac] at hx
 | _::_,[],_,x,hx=>by simp [Zac] at hx
 | e::es,p::ps,h,x,hx=>by
  obtain ⟨h1,h2⟩:=h;unfold Zac at hx;rw [Z9];split at hx
  ·have:=ZdQ h2 x hx
   push_cast;omega
  ·rcases Z4.1 hx with rfl|hx
   ·push_cast;omega
   ·have:=ZdQ h2 x hx
    push_cast;omega
theorem ZhJ {s b:Int}:∀ {es:List En} {ps:List Pl},runs es b->(Zac s es ps).Pairwise (· < ·)
 | [],ps,_=>by cases ps <;> exact List.Pairwise.nil
 | _::_,[],_=>List.Pairwise.nil
 | e::es,p::ps,h=>by
  obtain ⟨h1,h2⟩:=h;unfold Zac;split
  ·exact ZhJ h2
  ·refine List.Pairwise.cons (fun x hx=>?_) (ZhJ h2);have:=(ZdQ h2 x hx).1;omega
theorem ZhK {s b:Int} {e:Int}:∀ {es:List En} {ps:List Pl},runs es b->∀ n:Nat,(n:Int)=e+1 - b->Zac s (es.take n) (ps.take n)=(Zac s es ps).takeWhile fun x=>decide (x<=e)
 | [],ps,_,n,_=>by cases ps <;> simp [Zac]
 | _::_,[],_,n,_=>by simp [Zac]
 | x::es,p::ps,h,0,hn=>by
  have hall:∀ y ∈ Zac s (x::es) (p::ps),¬ y<=e:=fun y hy=>by
   have:=(ZdQ h y hy).1;omega
  cases hq:Zac s (x::es) (p::ps) with
  | nil=>rfl
  | cons y ys =>
   rw [hq] at hall;rw [Zcv,Za (by simpa using hall y (Zat ..))];rfl
 | x::es,p::ps,h,n+1,hn=>by
  obtain ⟨h1,h2⟩:=h;rw [Zdl,Zdl];unfold Zac;split
  ·exact ZhK h2 n (by push_cast at hn;omega)
  ·have hq:x.seq<=e:=by push_cast at hn;omega
   rw [Zcv,Zb (Zt hq),ZhK (e:=e) h2 n (by push_cast at hn;omega)]
def Zbt (c:Rg) (b:Int):List En->Fl->Fl
 | [],f=>f
 | e::es,f=>Zbt c b es (if b<=e.seq then f.put (e.seq % c.splay) (f.get (e.seq % c.splay)+e.data.length+22) else f)
theorem Zhp {c:Rg} {s0 b s k:Int}:∀ {es:List En} {ps:List Pl} {f0 f:Fl},laid c s0 es ps f0 f->runs es s->b<=s->Zac f0.set es ps=[]->Zbt c b es (setF f0 k)=setF f k
 | [],[],f0,f,h,_,_,_=>by cases (h:f=f0);rfl
 | [],_::_,_,_,h,_,_,_=>h.elim
 | _::_,[],_,_,h,_,_,_=>h.elim
 | e::es,p::ps,f0,f,h,hrun,hb,hn=>by
  obtain ⟨g,nx,hr,_,h2⟩:=h;obtain ⟨h5,h6⟩:=hrun;obtain ⟨h3,h4,_,h7⟩:=Zei hr;unfold Zac at hn;split at hn
  ·rename_i q;have hnx:nx=false:=by
    cases nx with
    | false=>rfl
    | true=>have h4:p.set=f0.set+1:=h4;omega
   unfold Zbt;rw [Zb (by omega),Zmr];have hg:=h7 hnx;rw [show f0.get (e.seq % c.splay)+(e.data.length:Int)+22=f0.get (e.seq % c.splay)+(22+(e.data.length:Int)) by omega,<-Zgs,<-hg];exact Zhp h2 h6 (by omega) (by rw [h3,q];exact hn)
  ·cases hn
theorem ZhL {c:Rg} {s0 b s:Int}:∀ {es:List En} {ps:List Pl} {f0 f:Fl},laid c s0 es ps f0 f->runs es s->(Zac f0.set es ps).getLast?=some b->Zbt c b es Fl.zero=setF f 0
 | [],[],f0,f,h,_,hb=>by simp [Zac] at hb
 | [],_::_,_,_,h,_,_=>h.elim
 | _::_,[],_,_,h,_,_=>h.elim
 | e::es,p::ps,f0,f,h,hrun,hb=>by
  obtain ⟨g,nx,hr,_,h2⟩:=h;obtain ⟨h5,h6⟩:=hrun;obtain ⟨h3,h4,h7,_⟩:=Zei hr;unfold Zac at hb;unfold Zbt;split at hb
  ·rename_i q;have:=(ZdQ h6 b (List.mem_of_getLast? hb)).1;rw [Za (by omega)];exact ZhL h2 h6 (by rw [h3,q];exact hb)
  ·rename_i q;have hnx:nx=true:=by
    cases nx with
    | true=>rfl
    | false=>exact absurd h4 q
   cases hf:Zac p.set es ps with
   | nil =>
    rw [hf] at hb;have hb:b=e.seq:=by simpa using hb.symm
    rw [Zb (by omega)];have hz:Fl.zero.put (e.seq % c.splay) (Fl.zero.get (e.seq % c.splay)+(e.data.length:Int)+22)=setF g 0:=by
     rw [h7 hnx,Zgs];rw [show Fl.zero.get (e.seq % c.splay)=0 from Fl.empty_get 0 _,show (0:Int)+(e.data.length:Int)+22=22+(e.data.length:Int) by omega];rfl
    rw [hz];exact Zhp h2 h6 (by omega) (by rw [h3];exact hf)
   | cons y ys =>
    rw [hf,Zi9,<-hf] at hb;have:=(ZdQ h6 b (List.mem_of_getLast? hb)).1;rw [Za (by omega)];exact ZhL h2 h6 (by rw [h3];exact hb)
def Za8 (pos:Int):List Int->List Int
 | a::b::l=>if b - 1<=pos then Za8 pos (b::l) else a::b::l
 | l=>l
theorem ZhM (pos:Int):∀ (es:List En) (ps:List Pl) (i:Nat) (s a:Int) (n:Nat) (st:Int),runs es s ->
  (ZaV pos es ps i (s - 1) (n,st)=(n,st)∧Za8 pos (a::Zac st es ps)=a::Zac st es ps) ∨
  ∃ k,k<es.length∧∃ st',ZaV pos es ps i (s - 1) (n,st)=(i+k,st')∧Za8 pos (a::Zac st es ps)=(s+k)::Zac st' (es.drop k) (ps.drop k)
 | [],ps,_,_,_,_,_,_=>.inl ⟨by cases ps <;> rfl,by cases ps <;> rfl⟩
 | _::_,[],_,_,_,_,_,_=>.inl ⟨rfl,rfl⟩
 | e::es,p::ps,i,s,a,n,st,h=>by
  obtain ⟨h1,h2⟩:=h;have hq:e.seq=s+1 - 1:=by omega
  have st1:∀ r:Nat × Int,ZaV pos (e::es) (p::ps) i (s - 1) r=if p.set=r.2 then ZaV pos es ps (i+1) e.seq r else if pos<s - 1 then r else ZaV pos es ps (i+1) e.seq (i,p.set):=fun _=>rfl;rw [st1];show (_∧Za8 pos (a::if p.set=st then Zac st es ps else e.seq::Zac p.set es ps)=a::if p.set=st then Zac st es ps else e.seq::Zac p.set es ps)∨∃ k,_∧∃ st',_∧Za8 pos (a::if p.set=st then Zac st es ps else e.seq::Zac p.set es ps)=_;by_cases hs:p.set=st
  ·simp only [Zb hs];rw [hq];rcases ZhM pos es ps (i+1) (s+1) a n st h2 with h3|⟨k,hk,st',h3,h4⟩
   ·exact .inl h3
   ·refine .inr ⟨k+1,by simpa using hk,st',by rw [h3];congr 1;omega,?_⟩;rw [h4,Zd9,Zd9];congr 1
    push_cast;omega
  ·simp only [Za hs];by_cases hp:pos<s - 1
   ·simp only [Zb hp];refine .inl ⟨trivial,?_⟩;unfold Za8;rw [Za (by omega)]
   ·simp only [Za hp];have ht:Za8 pos (a::e.seq::Zac p.set es ps)=Za8 pos (e.seq::Zac p.set es ps):=by
     rw [Za8,Zb (by omega)]
    rw [ht,hq];refine .inr ?_;rcases ZhM pos es ps (i+1) (s+1) (s+1 - 1) i p.set h2 with ⟨h3,h4⟩|⟨k,hk,st',h3,h4⟩
    ·refine ⟨0,by simp,p.set,by rw [h3];rfl,?_⟩;have h5:Zac p.set (e::es) (p::ps)=Zac p.set es ps:=Zb rfl;rw [h4,Zdo,Zdo,h5];congr 1;simp
    ·refine ⟨k+1,by simpa using hk,st',by rw [h3];congr 1;omega,?_⟩;rw [h4,Zd9,Zd9];congr 1
     push_cast;omega
def ZdX (R:RJ):Int:=R.sets.headD 0
def rTidy (R:RJ):RJ:={ R with chain:=ZQ R.chain R.en,cls:=R.cls.map fun c=>{ c with pos:=min c.pos R.en },safe:=R.en }
def rPut (R:RJ) (n:Int):Fl × Pl × Bool × Bool:=rput R.c R.fill (R.en+1) n
def rAdd (R:RJ) (d:List Int):RJ:={ R with sets:=if (rPut R d.length).2.2.1=true then R.sets++[R.en+1] else R.sets,fill:=(rPut R d.length).1,l:=R.l++[⟨tagOf R.chain (R.en+1),R.en+1,d⟩],en:=R.en+1 }
def rWhy (R:RJ) (n:Int):Int:=if n<1∨90<n then 1 else if 1099511627776<=R.en then 6 else if (rPut R n).2.2.1=true∧R.c.sets<=R.sets.length then 6 else 0
def Zbe (R:RJ) (d:List Int):(Int × Int) × RJ:=if rWhy R d.length=0 then ((R.en+1,0),rAdd R d) else ((0,rWhy R d.length),R)
def rFits (c:Rg):List Int->Fl->Int->Int->Bool
 | [],_,_,n=>decide (n<=c.sets)
 | x::xs,f,s,n=>if x<1∨90<x∨1099511627776<s then false else rFits c xs (rput c f s x).1 (s+1) (if (rput c f s x).2.2.1=true then n+1 else n)
def rRead (R:RJ) (pos most:Int):List En × Int:=if pos<0∨R.en<pos∨most<0 then ([],3) else if pos<ZdX R - 1 then ([],11) else ((R.l.filter fun e=>decide (pos<e.seq)).take most.toNat,0)
def popS (e:Int):List Int->List Int
 | []=>[]
 | a::l=>a::l.takeWhile fun x=>decide (x<=e)
def Zep (R:RJ) (e:Int):RJ:={ R with l:=R.l.takeWhile fun x=>decide (x.seq<=e),en:=e,sets:=popS e R.sets,fill:=Zbt R.c ((popS e R.sets).getLastD 0) (R.l.takeWhile fun x=>decide (x.seq<=e)) Fl.zero }
def rCut (R:RJ) (e:Int):Int × RJ:=if e<ZdX R - 1∨R.en<e then (3,R) else (0,rTidy (Zep R e))
def rLead (R:RJ) (ts:List Tag):Int × RJ:=if Z3 ts=true∧(R.l.all fun e=>decide (tagOf ts e.seq=tagOf R.chain e.seq))=true then (0,{ R with chain:=ts }) else (1,R)
def actC (l:List Cl) (what id pos:Int) (off:Bool):List Cl × Int:=if what=0 then addC l id pos else if what=1 then dropC l id else if what=2 then Za5 l id pos else turnC l id off
def Zc3 (R:RJ) (what id pos:Int) (off:Bool):Int:=if (actC R.cls what id pos off).2=1 then 1 else if (what=0∨what=2)∧R.en<pos then 3 else (actC R.cls what id pos off).2
def rAct (R:RJ) (what id pos:Int) (off:Bool):Int × RJ:=(Zc3 R what id pos off,if Zc3 R what id pos off=0 then { R with cls:=(actC R.cls what id pos off).1 } else R)
def rPos (R:RJ):Int:=if (slowC R.cls).2=true then min R.safe (slowC R.cls).1 else R.safe
def rLess (R:RJ):RJ:={ R with sets:=Za8 (rPos R) R.sets,l:=R.l.filter fun e=>decide ((Za8 (rPos R) R.sets).headD 0<=e.seq) }
structure SimJ (J:Jn) (R:RJ):Prop where
 c:R.c=J.r.shape
 sets:R.sets=Zd4 J
 fill:R.fill=setF J.fill R.fill.set
 en:R.en=endJ J
 safe:R.safe=J.safe
 chain:R.chain=J.r.tags
 cls:R.cls=J.r.cls
 l:R.l=J.l
theorem SimJ.first {J:Jn} {R:RJ} (h:SimJ J R):ZdX R=J.r.first:=by unfold ZdX;rw [h.sets];rfl
theorem JOK.froms {S:Str} {J:Jn} (h:JOK S J):((Zd4 J).length:Int)=setsJ J:=by
 have:=ZlQ h.lay;unfold Zd4 setsJ;rw [Z9];have e:(layF J.r).set=J.r.set:=rfl;rw [e] at this
 push_cast
 omega
theorem SimJ.same {S:Str} {J:Jn} {R:RJ} (h:SimJ J R) (hj:JOK S J):Sim16 J R :=
 ⟨by rw [h.sets];rfl,by rw [h.sets];exact hj.froms,h.c,h.en,h.safe,h.chain,h.cls,h.l⟩
theorem JOK.last_set {S:Str} {J:Jn} (h:JOK S J):(J.at_.getLast?.map Pl.set).getD J.r.set=J.fill.set:=(Zmq h.lay).symm
theorem SimJ.put {S:Str} {J:Jn} {R:RJ} {n:Int} (h:SimJ J R) (hj:JOK S J) (hk:0<=R.fill.set∧R.fill.set<1073741824) (hn:1<=n∧n<=90) (he:endJ J<1099511627776) :
  ∃ g p nx,rput J.r.shape J.fill (endJ J+1) n=(g,p,nx,true)∧(rPut R n).1=setF g (if nx=true then R.fill.set+1 else R.fill.set)∧(rPut R n).2.2.1=nx∧(fitsJ J [n]=true↔¬ (nx=true∧J.r.shape.sets<=R.sets.length)):=by
 have hc:=hj.ok.shape;have hf:=hj.at.ok;have h0:1<=endJ J+1:=by have:=hj.ok.first.1;unfold endJ;omega
 have hin:=hj.at.inside;have hlen:(R.sets.length:Int)=setsJ J:=by rw [h.sets];exact hj.froms
 have hr:∃ g p nx,rput J.r.shape J.fill (endJ J+1) n=(g,p,nx,true):=by
  rw [Zem hc hf (by omega) hn];split
  ·exact ⟨_,_,_,rfl⟩
  ·exact ⟨_,_,_,rfl⟩
 obtain ⟨g,p,nx,hr⟩:=hr;obtain ⟨q,hq⟩:=Zms hr hk;have hR:rPut R n=(setF g (if nx=true then R.fill.set+1 else R.fill.set),q,nx,true):=by
  unfold rPut;rw [h.c,h.en,h.fill];exact hq
 obtain ⟨h3,h4,_⟩:=Zei hr;refine ⟨g,p,nx,hr,by rw [hR],by rw [hR],?_⟩;have hz:g≠Fl.zero:=(Zcl hr (by have:=hj.at.from_;have:=hj.small;omega)).ne;show (if (rput J.r.shape J.fill (endJ J+1) n).1=Fl.zero then false else if J.r.shape.sets<=(rput J.r.shape J.fill (endJ J+1) n).1.set - J.r.set then false else true)=true↔_;rw [hr];simp only;rw [Za hz,h3,h4];unfold setsJ at hlen;cases nx with
 | true =>
  simp only [Zan,ZaR];split <;> simp <;> omega
 | false =>
  simp only [Zbu,Zas,false_and,ZdI,iff_true];rw [Za (by omega)]
theorem SimJ.add {S:Str} {J:Jn} {R:RJ} {d:List Int} {g:Fl} {p:Pl} {nx:Bool} (h:SimJ J R) (hj:JOK S J) (hr:rput J.r.shape J.fill (endJ J+1) d.length=(g,p,nx,true)) (h1:(rPut R d.length).1=setF g (if nx=true then R.fill.set+1 else R.fill.set)) (h2:(rPut R d.length).2.2.1=nx) :
  SimJ (addJ J (newE J d) p g) (rAdd R d):=by
 obtain ⟨h3,h4,_⟩:=Zei hr;refine ⟨h.c,?_,?_,?_,h.safe,h.chain,h.cls,?_⟩
 ·show (if (rPut R d.length).2.2.1=true then R.sets++[R.en+1] else R.sets)=J.r.first::Zac J.r.set (J.l++[newE J d]) (J.at_++[p]);rw [Zhc hj.at.len,hj.last_set,h2,h.sets,h.en];show _=J.r.first::(_++if p.set=J.fill.set then [] else [(newE J d).seq]);cases nx with
  | true =>
   have h4:p.set=J.fill.set+1:=h4;rw [Zb rfl,Za (by omega)];rfl
  | false =>
   have h4:p.set=J.fill.set:=h4;rw [Za (by simp),Zb h4,Zbc];rfl
 ·show (rPut R d.length).1=setF g (rPut R d.length).1.set;rw [h1];rfl
 ·show R.en+1=J.r.first - 1+((J.l++[newE J d]).length:Int);rw [h.en,Zs,ZcT];unfold endJ
  push_cast;omega
 ·show R.l++[⟨tagOf R.chain (R.en+1),R.en+1,d⟩]=J.l++[newE J d];rw [h.l,h.chain,h.en];rfl
theorem SimJ.tidy {J:Jn} {R:RJ} (h:SimJ J R):SimJ (Zby J) (rTidy R):=by
 refine ⟨h.c,h.sets,h.fill,h.en,h.en,?_,?_,h.l⟩
 ·show ZQ R.chain R.en=ZQ J.r.tags (endJ J);rw [h.chain,h.en]
 ·show R.cls.map _=J.r.cls.map _;rw [h.cls,h.en]
theorem Zjg {e:Int}:∀ {es:List En} {s:Int},runs es s->es.takeWhile (fun x=>decide (x.seq<=e))=es.take (e+1 - s).toNat
 | [],_,_=>by simp
 | x::es,s,h=>by
  obtain ⟨h1,h2⟩:=h;rw [Zcv];by_cases q:x.seq<=e
  ·rw [Zb (Zt q),Zjg h2,show (e+1 - s).toNat=(e+1 - (s+1)).toNat+1 by omega];rfl
  ·rw [Za (by simpa using q),show (e+1 - s).toNat=0 by omega];rfl
theorem Zf4 {e:Int}:∀ {es:List En} {s:Int},runs es s->es.filter (fun x=>decide (e<x.seq))=es.drop (e+1 - s).toNat
 | [],_,_=>by simp
 | x::es,s,h=>by
  obtain ⟨h1,h2⟩:=h;rw [Zci];by_cases q:e<x.seq
  ·rw [Zb (Zt q),Zf4 h2,show (e+1 - s).toNat=0 by omega,show (e+1 - (s+1)).toNat=0 by omega];rfl
  ·rw [Za (by simpa using q),Zf4 h2,show (e+1 - s).toNat=(e+1 - (s+1)).toNat+1 by omega];rfl
theorem SimJ.read {S:Str} {J:Jn} {R:RJ} (h:SimJ J R) (hj:JOK S J) (pos most:Int):rRead R pos most=readJ S J pos most:=by
 unfold rRead readJ ZeQ readL;rw [Za (show ¬ mayJ S J≠0 by simp [hj.may]),h.first,h.en,h.l];split
 ·rw [Za (by decide)]
 ·split
  ·rw [Za (by decide)]
  ·rw [Zb rfl,Zf4 hj.run,show pos+1 - J.r.first=pos - J.r.first+1 by omega]
theorem SimJ.short {S:Str} {J J1:Jn} {R:RJ} {e:Int} {f:Fl} (h:SimJ J R) (hj:JOK S J) (he:¬ (e<J.r.first - 1∨endJ J<e)) (h1:J1=lJ J (J.l.take (e - J.r.first+1).toNat) (J.at_.take (e - J.r.first+1).toNat) f) (h2:laid J.r.shape J.r.set (J.l.take (e - J.r.first+1).toNat) (J.at_.take (e - J.r.first+1).toNat) (layF J.r) f):SimJ J1 (Zep R e):=by
 subst h1;obtain ⟨n,hn⟩:=Zn ((e - J.r.first+1).toNat);rw [<-hn] at h2 |-;have hl:(R.l.takeWhile fun x=>decide (x.seq<=e))=J.l.take n:=by
  rw [h.l,Zjg hj.run,hn,show e+1 - J.r.first=e - J.r.first+1 by omega]
 have hs:popS e R.sets=J.r.first::Zac J.r.set (J.l.take n) (J.at_.take n):=by
  rw [h.sets];show J.r.first::(Zac J.r.set J.l J.at_).takeWhile _=_;rw [ZhK (e:=e) hj.run n (by omega)]
 have hrun:runs (J.l.take n) J.r.first:=ZlB hj.run n;have hz:layF J.r=setF Fl.zero J.r.set:=rfl;refine ⟨h.c,hs,?_,?_,h.safe,h.chain,h.cls,hl⟩
 ·show Zbt R.c ((popS e R.sets).getLastD 0) (R.l.takeWhile fun x=>decide (x.seq<=e)) Fl.zero=setF f (Zbt R.c ((popS e R.sets).getLastD 0) (R.l.takeWhile fun x=>decide (x.seq<=e)) Fl.zero).set;have key:Zbt R.c ((popS e R.sets).getLastD 0) (R.l.takeWhile fun x=>decide (x.seq<=e)) Fl.zero=setF f 0:=by
   rw [hs,hl,h.c];cases hf:Zac J.r.set (J.l.take n) (J.at_.take n) with
   | nil=>exact Zhp (b:=J.r.first) (k:=0) h2 hrun (Zdc _) hf
   | cons y ys =>
    obtain ⟨b,hb⟩:∃ b,(y::ys).getLast?=some b:=⟨_,List.getLast?_eq_some_getLast (List.cons_ne_nil _ _)⟩;have:(J.r.first::y::ys).getLastD 0=b:=by
     rw [List.getLastD_eq_getLast?,Zi9,hb];rfl
    rw [this];exact ZhL h2 hrun (by rw [show (layF J.r).set=J.r.set from rfl,hf];exact hb)
  rw [key];rfl
 ·show e=J.r.first - 1+((J.l.take n).length:Int);unfold endJ at he;rw [ZJ];omega
theorem SimJ.less {S:Str} {J:Jn} {R:RJ} (h:SimJ J R) (hj:JOK S J):SimJ (leftJ J) (rLess R)∧R.l.length - (rLess R).l.length=(doneJ J).1:=by
 have hp:rPos R=posD J:=by unfold rPos posD;rw [h.cls,h.safe]
 have hd:=ZhM (posD J) J.l J.at_ 0 J.r.first J.r.first 0 J.r.set hj.run;have hq:∀ pos (i:Nat) (q:Int) (r:Nat × Int),r.2=J.r.set->ZaV pos J.l J.at_ i q r=ZaV pos J.l J.at_ i 0 r:=fun pos i q r hr=>by
  have hfirst:=fun p hp=>Zfa (p:=p) hj.lay hj.ok.shape (by have:=hj.ok.set;have:=hj.small;omega) hp;cases hl:J.l with
  | nil=>cases J.at_ <;> rfl
  | cons x xs=>cases ha:J.at_ with
   | nil=>rfl
   | cons p ps =>
    rw [ha] at hfirst;have:=hfirst p rfl;unfold ZaV;rw [Zb (by rw [this,hr]),Zb (by rw [this,hr])]
 rw [hq _ _ _ _ rfl] at hd;have hfil:∀ k:Nat,k<=J.l.length->(J.l.filter fun e=>decide (J.r.first+(k:Int)<=e.seq))=J.l.drop k:=fun k hk=>by
  have:(fun e:En=>decide (J.r.first+(k:Int)<=e.seq))=fun e=>decide (J.r.first+(k:Int) - 1<e.seq):=by
   funext e;rw [decide_eq_decide];omega
  rw [this,Zf4 hj.run,show (J.r.first+(k:Int) - 1+1 - J.r.first).toNat=k by omega]
 rcases hd with ⟨h1,h2⟩|⟨k,hk,st',h1,h2⟩
 ·have hdj:doneJ J=(0,J.r.set):=h1;have hs:Za8 (rPos R) R.sets=Zd4 J:=by rw [hp,h.sets];exact h2
  have hl:(rLess R).l=J.l:=by
   show (R.l.filter fun e=>decide ((Za8 (rPos R) R.sets).headD 0<=e.seq))=_;rw [hs,h.l];have:=hfil 0 (ZL _);simpa [Zd4] using this
  unfold leftJ;rw [hdj,Zb rfl,hl,h.l,Zdn];exact ⟨⟨h.c,hs,h.fill,h.en,h.safe,h.chain,h.cls,hl⟩,rfl⟩
 ·have hdj:doneJ J=(k,st'):=by rw [<-ZX k];exact h1
  have hs:Za8 (rPos R) R.sets=(J.r.first+k)::Zac st' (J.l.drop k) (J.at_.drop k):=by rw [hp,h.sets];exact h2
  have hl:(rLess R).l=J.l.drop k:=by
   show (R.l.filter fun e=>decide ((Za8 (rPos R) R.sets).headD 0<=e.seq))=_;rw [hs,h.l];exact hfil k (by omega)
  have hlen:R.l.length - (rLess R).l.length=k:=by rw [hl,h.l,ZW];omega
  refine ⟨?_,by rw [hlen,hdj]⟩;unfold leftJ;by_cases h0:k=0
  ·have hst:st'=J.r.set:=by
    rcases hj.done with e|⟨n,e,h3,_⟩
    ·rw [hdj] at e;simpa using congrArg Prod.snd e
    ·rw [hdj] at e;have:k=n:=by simpa using congrArg Prod.fst e
     omega
   rw [hdj,Zb h0];subst h0 hst;exact ⟨h.c,by rw [show (rLess R).sets=Za8 (rPos R) R.sets from rfl,hs];simp [Zd4],h.fill,h.en,h.safe,h.chain,h.cls,by rw [hl];rfl⟩
  ·rw [hdj,Za h0];unfold ZaN Zai;rw [hdj];refine ⟨h.c,hs,h.fill,?_,h.safe,h.chain,h.cls,hl⟩;show R.en=J.r.first+(k:Int) - 1+((J.l.drop k).length:Int);rw [h.en,ZW];unfold endJ;omega
section
variable {S : Str}
end
theorem ZrF {c:Rg} {at':Int} {ts:List Tag} (hg:goodM c at' ts=true):Sim16 (Zby (Zbs c at' ts)) (Zdi c at' ts):=by
 have hct:ZQ ts (at'+1 - 1)=ts:=by
  rw [show at'+1 - 1=at' by omega];unfold goodM at hg;simp only [ZR,Zk] at hg;have hp:ZQ ts at'<+:ts:=Zdr _;have:=hp.length_le;exact hp.eq_of_length (by omega)
 have he:endJ (Zbs c at' ts)=at'+1 - 1:=by unfold endJ Zbs newR;simp
 refine ⟨rfl,?_,rfl,?_,?_,?_,rfl,rfl⟩
 ·show ((1:Nat):Int)=0 - 0+1;rfl
 ·show at'=endJ (Zbs c at' ts);rw [he];omega
 ·show at'=endJ (Zbs c at' ts);rw [he];omega
 ·show ts=ZQ ts (endJ (Zbs c at' ts));rw [he,hct]
section
variable {p : Nat} {S : Str}
end
theorem JOK.lead_calm {S:Str} {J:Jn} {ts:List Tag} (h:JOK S J) (ha:S.armed=false) (hr:Z3 ts=true) (hl:ZcS J ts=true):∃ S',leadJ S J ts=(0,S',recJ J (tagsR J.r ts))∧JOK S' (recJ J (tagsR J.r ts))∧S'.armed=false:=by
 obtain ⟨h1,h2,h3⟩:=h.lead hr hl;obtain ⟨t,ht,_⟩:=h.rec_;have hpl:=ZdL h.live ht h1;obtain ⟨c1,c2⟩:=ZcY ZaD h.live ha (ZeM S h1);rw [<-hpl] at c1 c2;rw [Zb c1] at h2;exact ⟨_,h2,h3 c1,c2⟩
theorem Zo2 {S:Str} {J:Jn} {ts:List Tag} {m:Nat} (h:Keeps S (m+2)):Keeps (leadJ S J ts).2.1 m:=by
 unfold leadJ;split
 ·exact h.fewer (by omega)
 ·split
  ·exact h.fewer (by omega)
  ·split
   ·exact h.fewer (by omega)
   ·exact ZeF h
structure PJ (S:Str) (J:Jn) (R:RJ) (i:Nat):Prop where
 ok:JOK S J
 calm:S.armed=false
 ks:Keeps S (95000 - 300*i)
 sim:SimJ J R
 tags:J.r.tags.length<=50+i
 len:J.l.length<=i
 fset:J.fill.set<=i
 rset:0<=R.fill.set∧R.fill.set<=i
theorem PJ.later {S:Str} {J:Jn} {R:RJ} {i j:Nat} (h:PJ S J R i) (hij:i<=j):PJ S J R j :=
 ⟨h.ok,h.calm,h.ks.fewer (by omega),h.sim,Zaw h.tags (by omega),Zaw h.len hij,ZbT h.fset (by omega),h.rset.1,ZbT h.rset.2 (by omega)⟩
theorem PJ.set {S:Str} {J:Jn} {R:RJ} {i:Nat} (h:PJ S J R i):J.r.set<=i:=ZbT h.ok.at.from_.1 h.fset
theorem PJ.ends {S:Str} {J:Jn} {R:RJ} {i:Nat} (h:PJ S J R i):0<=R.en∧R.en<=3299023255552:=by rw [h.sim.en];exact h.ok.ends
theorem ZiB {S:Str} {J:Jn} (h:JOK S J):J.r.cls.length<=4:=by
 have:=h.ok.cls;unfold Zae at this;simp only [ZR,Zk] at this;exact this.2
theorem PJ.append {S:Str} {J:Jn} {R:RJ} {i:Nat} {d:List Int} (h:PJ S J R i) (hi:i<80) (hb:∀ y ∈ d,isByte y):∃ S' J',Zbd S J d=((Zbe R d).1,S',J')∧PJ S' J' (Zbe R d).2 (i+1):=by
 have hno:¬ mayJ S J≠0:=by simp [h.ok.may]
 have hset:=h.set;have hlen:=h.len;by_cases hd:d.length<1∨90<d.length
 ·have hw:rWhy R d.length=1:=by unfold rWhy;rw [Zb (by omega)]
  refine ⟨S,J,?_,?_⟩
  ·unfold Zbd Zbe;rw [Za hno,Zb hd,hw,Za (by decide)]
  ·unfold Zbe;rw [hw,Za (by decide)];exact h.later (by omega)
 ·by_cases he:1099511627776<=R.en
  ·have hw:rWhy R d.length=6:=by unfold rWhy;rw [Za (by omega),Zb he]
   have hf:fitsJ J [(d.length:Int)]=false:=by
    have hz:(rput J.r.shape J.fill (endJ J+1) d.length).1=Fl.zero:=by
     have:=h.sim.en;unfold rput;rw [Zb (by right;right;right;left;omega)]
    show (if (rput J.r.shape J.fill (endJ J+1) d.length).1=Fl.zero then false else _)=false;rw [Zb hz]
   refine ⟨S,J,?_,?_⟩
   ·unfold Zbd Zbe;rw [Za hno,Za hd,Zb hf,hw,Za (by decide)]
   ·unfold Zbe;rw [hw,Za (by decide)];exact h.later (by omega)
  ·have hen:=h.sim.en;have hr0:=h.rset;obtain ⟨g,p,nx,hr,h1,h2,h3⟩:=h.sim.put (n:=d.length) h.ok (by omega) (by omega) (by omega);by_cases hf:fitsJ J [(d.length:Int)]=true
   ·have hw:rWhy R d.length=0:=by
     have:=h3.1 hf;unfold rWhy;rw [Za (by omega),Za he,h2,h.sim.c,Za this]
    obtain ⟨S',g',p',nx',hr',e1,e2,e3,_⟩:=h.ok.append_calm (d:=d) h.calm (by omega) hb hf (by omega);rw [hr] at hr';simp only [Zv] at hr';obtain ⟨rfl,rfl,rfl,_⟩:=hr';have hk:=ZnA (J:=J) (d:=d) (m:=95000 - 300*(i+1)) (h.ks.fewer (by omega));rw [e1] at hk;have hpp:=Zei hr;have hfs:=h.fset;refine ⟨S',addJ J (newE J d) p g,?_,?_⟩
    ·rw [e1];unfold Zbe;rw [Zb hw,hen]
    ·unfold Zbe;rw [Zb hw];refine ⟨e2,e3,hk,h.sim.add h.ok hr h1 h2,Zaw h.tags (by omega),?_,?_,?_⟩
     ·show (J.l++[newE J d]).length<=_;rw [Zs,ZcT];omega
     ·show g.set<=_;rw [hpp.1,hpp.2.1];split <;> push_cast <;> omega
     ·show 0<=(rPut R d.length).1.set∧(rPut R d.length).1.set<=_;rw [h1];show 0<=(if nx=true then R.fill.set+1 else R.fill.set)∧(if nx=true then R.fill.set+1 else R.fill.set)<=_;split <;> push_cast <;> omega
   ·have hw:rWhy R d.length=6:=by
     have:nx=true∧J.r.shape.sets<=R.sets.length:=Classical.not_not.1 fun q=>hf (h3.2 q);unfold rWhy;rw [Za (by omega),Za he,h2,h.sim.c,Zb this]
    refine ⟨S,J,?_,?_⟩
    ·unfold Zbd Zbe;rw [Za hno,Za hd,Zb (by simpa using hf),hw,Za (by decide)]
    ·unfold Zbe;rw [hw,Za (by decide)];exact h.later (by omega)
def Zeq (R:RJ):RJ:={ R with safe:=R.en }
theorem PJ.flush {S:Str} {J:Jn} {R:RJ} {i:Nat} (h:PJ S J R i):∃ S',Zd1 S J=(0,S',safeJ J)∧PJ S' (safeJ J) (Zeq R) (i+1):=by
 obtain ⟨S',e1,e2,e3,e4,_,_⟩:=h.ok.flush_calm h.calm;have hk:=ZeC h.ks;rw [e1] at hk;refine ⟨S',e2,e3,e4,hk.fewer (by omega),⟨h.sim.c,h.sim.sets,h.sim.fill,h.sim.en,h.sim.en,h.sim.chain,h.sim.cls,h.sim.l⟩,Zaw h.tags (by omega),Zaw h.len (by omega),ZbT h.fset (by push_cast;omega),h.rset.1,ZbT h.rset.2 (by push_cast;omega)⟩
theorem PJ.lead {S:Str} {J:Jn} {R:RJ} {i:Nat} {ts:List Tag} (h:PJ S J R i) (hi:i<80) (ht:ts.length<=51+i):∃ S' J',leadJ S J ts=((rLead R ts).1,S',J')∧PJ S' J' (rLead R ts).2 (i+1):=by
 have hall:(R.l.all fun e=>decide (tagOf ts e.seq=tagOf R.chain e.seq))=ZcS J ts:=by
  unfold ZcS;rw [h.sim.l,h.sim.chain];have:∀ {es:List En},(∀ e ∈ es,e.tag=tagOf J.r.tags e.seq)->(es.all fun e=>decide (tagOf ts e.seq=tagOf J.r.tags e.seq))=es.all fun e=>decide (tagOf ts e.seq=e.tag):=by
   intro es;induction es with
   | nil=>intro _;rfl
   | cons x es ih =>
    intro hx;simp only [List.all_cons];rw [ih fun e he=>hx e (ZaB _ he),hx x (Zat ..)]
  exact this fun e he=>(h.ok.ents e he).2.2
 unfold rLead;rw [hall];by_cases hg:Z3 ts=true∧ZcS J ts=true
 ·obtain ⟨S',e1,e2,e3⟩:=h.ok.lead_calm h.calm hg.1 hg.2;have hk:=Zo2 (J:=J) (ts:=ts) (m:=95000 - 300*(i+1)) (h.ks.fewer (by omega));rw [e1] at hk;rw [Zb hg];refine ⟨S',_,e1,e2,e3,hk,⟨h.sim.c,h.sim.sets,h.sim.fill,h.sim.en,h.sim.safe,rfl,h.sim.cls,h.sim.l⟩,by show ts.length<=_;omega,Zaw h.len (by omega),ZbT h.fset (by push_cast;omega),h.rset.1,ZbT h.rset.2 (by push_cast;omega)⟩
 ·rw [Za hg];refine ⟨S,J,?_,h.later (by omega)⟩;unfold leadJ;rw [Za (by simp [h.ok.may])];by_cases hr:Z3 ts=false
  ·rw [Zb hr]
  ·rw [Za hr,Zb (by
    cases hl:ZcS J ts with
    | false=>rfl
    | true=>exact absurd ⟨by simpa using hr,hl⟩ hg)]
theorem PJ.cut {S:Str} {J:Jn} {R:RJ} {i:Nat} (h:PJ S J R i) (hi:i<80) (e:Int):∃ S' J',cutJ S J e=((rCut R e).1,S',J')∧PJ S' J' (rCut R e).2 (i+1):=by
 unfold rCut;rw [h.sim.first,h.sim.en];by_cases he:e<J.r.first - 1∨endJ J<e
 ·rw [Zb he];refine ⟨S,J,?_,h.later (by omega)⟩;unfold cutJ;rw [Za (by simp [h.ok.may]),Zb he]
 ·rw [Za he];obtain ⟨f,h1,h2,h3⟩:=h.ok.cut (e - J.r.first+1).toNat;obtain ⟨J1,hJ1⟩:=Zn (lJ J (J.l.take (e - J.r.first+1).toNat) (J.at_.take (e - J.r.first+1).toNat) f);have hsim:=h.sim.short h.ok he hJ1 h2;have hpre:=ZlN (J:=J) (e - J.r.first+1).toNat f;rw [<-hJ1] at h1 hpre;obtain ⟨m1,m2,m3⟩:=h.ok.mend (J1:=J1) (by rw [hJ1];rfl) (by rw [hJ1];exact h2) (by rw [hJ1];exact Zi8 _ _) (by rw [hJ1];exact h3) (fun x hx=>ZbI (by rw [hJ1] at hx;exact hx)) (by rw [hJ1];exact h.ok.dead) (by rw [hJ1];exact h.ok.safe) hpre;obtain ⟨r1,r2,_⟩:=ZhI (J1:=J1) h.ok.live h.ok.rows hpre;obtain ⟨c1,c2⟩:=ZcY ZaD h.ok.live h.calm r2;rw [<-r1] at c1 c2;obtain ⟨hj1,hm⟩:=m3 c1;obtain ⟨t,ht,_⟩:=hj1.rec_;have hpl:=ZdL hj1.live ht m2;obtain ⟨d1,d2⟩:=ZcY ZaD hj1.live c2 (ZeM _ m2);rw [<-hpl] at d1 d2;rw [Zb c1,Zb d1] at m1;have hk:=Zj6 (J:=J1) (m:=95000 - 300*(i+1)) (h.ks.fewer (by have:=h.ok.live.told;omega));have hcj:cutJ S J e=mendJ S J1:=by
   unfold cutJ;rw [Za (by simp [h.ok.may]),Za he,h1]
  rw [hcj];rw [m1] at hk |-;have hj2:=hm d1;have hs2:=hsim.tidy;refine ⟨_,_,rfl,hj2,d2,hk,hs2,?_,?_,?_,?_⟩
  ·show (ZQ J1.r.tags _).length<=_;have h4:J1.r=J.r:=by rw [hJ1];rfl
   rw [h4];exact Zaw (Zdr _).length_le (Zaw h.tags (by omega))
  ·show J1.l.length<=_;rw [hJ1];exact Zaw (Zi8 _ _) (Zaw h.len (by omega))
  ·have h5:=hj1.froms;have h6:=h.ok.froms;have h7:(Zd4 J1).length<=(Zd4 J).length:=by
    rw [<-hsim.sets,<-h.sim.sets];show (popS e R.sets).length<=_;cases R.sets with
    | nil=>exact ZC _
    | cons a l=>exact Nat.succ_le_succ (Zdr _).length_le
   unfold setsJ at h5 h6;have h8:J1.r.set=J.r.set:=by rw [hJ1];rfl
   have h9:J1.fill.set<=J.fill.set:=by omega
   exact ZbT h9 (ZbT h.fset (by push_cast;omega))
  ·have key:(Zbt R.c ((popS e R.sets).getLastD 0) (R.l.takeWhile fun x=>decide (x.seq<=e)) Fl.zero).set=0:=by
    have:∀ (c:Rg) (b:Int) (es:List En) (f:Fl),(Zbt c b es f).set=f.set:=by
     intro c b es;induction es with
     | nil=>intro f;rfl
     | cons x es ih =>
      intro f;unfold Zbt;rw [ih];split
      ·exact Fl.put_set _ _ _
      ·rfl
    rw [this];rfl
   rw [show (rTidy (Zep R e)).fill.set=0 from key];omega
theorem Ztb {l:List Cl} {id pos:Int} (h:Zae l=true):((addC l id pos).2=1↔mayC id pos=false):=by
 unfold addC;rw [h];by_cases q:mayC id pos=false
 ·simp [q]
 ·simp only [q];split
  ·simp_all
  ·split
   ·simp
   ·split <;> simp
theorem Zqf {l:List Cl} {id pos:Int} (h:Zae l=true):((Za5 l id pos).2=1↔mayC id pos=false):=by
 unfold Za5 ZaU;rw [h];obtain ⟨a,b⟩:=Zaf l id;by_cases q:mayC id pos=false
 ·simp [q]
 ·cases b <;> simp [q]
theorem PJ.cls {S:Str} {J:Jn} {R:RJ} {i:Nat} {x:List Cl × Int} {why:Int} {S':Str} (h:PJ S J R i) (hj:JOK S' (clsJ J x why)) (ha:S'.armed=false) (hk:Keeps S' (95000 - 300*(i+1))):PJ S' (clsJ J x why) (if why=0 then { R with cls:=x.1 } else R) (i+1):=by
 unfold clsJ at hj |-;by_cases hw:why=0
 ·rw [Zb hw] at hj |-;rw [Zb hw];exact ⟨hj,ha,hk,⟨h.sim.c,h.sim.sets,h.sim.fill,h.sim.en,h.sim.safe,h.sim.chain,rfl,h.sim.l⟩,Zaw h.tags (by omega),Zaw h.len (by omega),ZbT h.fset (by push_cast;omega),h.rset.1,ZbT h.rset.2 (by push_cast;omega)⟩
 ·rw [Za hw] at hj |-;rw [Za hw];exact ⟨hj,ha,hk,h.sim,Zaw h.tags (by omega),Zaw h.len (by omega),ZbT h.fset (by push_cast;omega),h.rset.1,ZbT h.rset.2 (by push_cast;omega)⟩
theorem PJ.addWhy {S:Str} {J:Jn} {R:RJ} {i:Nat} (h:PJ S J R i) (id pos:Int) (off:Bool):Zc3 R 0 id pos off=Go.Proofs.YtpjchngjhijgmaaGreat.addWhy J id pos:=by
 have hc:=h.ok.ok.cls;unfold Zc3 Go.Proofs.YtpjchngjhijgmaaGreat.addWhy upWhy actC;rw [Zb rfl,h.sim.cls,h.sim.en];have h1:=Ztb (id:=id) (pos:=pos) hc;by_cases q:mayC id pos=false
 ·rw [Zb (h1.2 q),Zb q,Zb (by decide)]
 ·rw [Za fun e=>q (h1.1 e),Za q];by_cases q2:endJ J<pos
  ·rw [Zb ⟨.inl rfl,q2⟩,Zb q2,Zb (by decide)]
  ·rw [Za fun e=>q2 e.2,Za q2,Za (by decide)]
theorem PJ.commitWhy {S:Str} {J:Jn} {R:RJ} {i:Nat} (h:PJ S J R i) (id pos:Int) (off:Bool):Zc3 R 2 id pos off=Go.Proofs.YtpjchngjhijgmaaGreat.commitWhy J id pos:=by
 have hc:=h.ok.ok.cls;have ha:actC R.cls 2 id pos off=Za5 J.r.cls id pos:=by rw [h.sim.cls];rfl
 unfold Zc3 Go.Proofs.YtpjchngjhijgmaaGreat.commitWhy upWhy;rw [ha,h.sim.en];have h1:=Zqf (id:=id) (pos:=pos) hc;by_cases q:mayC id pos=false
 ·rw [Zb (h1.2 q),Zb q,Zb (by decide)]
 ·rw [Za fun e=>q (h1.1 e),Za q];by_cases q2:endJ J<pos
  ·rw [Zb ⟨.inr rfl,q2⟩,Zb q2,Zb (by decide)]
  ·rw [Za fun e=>q2 e.2,Za q2,Za (by decide)]
theorem PJ.dropWhy {S:Str} {J:Jn} {R:RJ} {i:Nat} (h:PJ S J R i) (id pos:Int) (off:Bool):Zc3 R 1 id pos off=(dropC J.r.cls id).2:=by
 have ha:actC R.cls 1 id pos off=dropC J.r.cls id:=by rw [h.sim.cls];rfl
 unfold Zc3;rw [ha];split
 ·rename_i q;exact q.symm
 ·rw [Za (by rintro ⟨q|q,_⟩ <;> omega)]
theorem PJ.turnWhy {S:Str} {J:Jn} {R:RJ} {i:Nat} (h:PJ S J R i) (id pos:Int) (off:Bool):Zc3 R 3 id pos off=(turnC J.r.cls id off).2:=by
 have ha:actC R.cls 3 id pos off=turnC J.r.cls id off:=by rw [h.sim.cls];rfl
 unfold Zc3;rw [ha];split
 ·rename_i q;exact q.symm
 ·rw [Za (by rintro ⟨q|q,_⟩ <;> omega)]
theorem PJ.trim {S S':Str} {J:Jn} {R:RJ} {i:Nat} (h:PJ S J R i) (hj:JOK S' (leftJ J)) (ha:S'.armed=false) (hk:Keeps S' (95000 - 300*(i+1))):PJ S' (leftJ J) (rLess R) (i+1):=by
 have h1:=(h.sim.less h.ok).1;have h2:(leftJ J).r.tags=J.r.tags∧(leftJ J).l.length<=J.l.length∧(leftJ J).fill=J.fill:=by
  unfold leftJ;split
  ·exact ⟨rfl,ZC _,rfl⟩
  ·exact ⟨rfl,by show (J.l.drop _).length<=_;rw [ZW];omega,rfl⟩
 refine ⟨hj,ha,hk,h1,?_,?_,?_,h.rset.1,ZbT h.rset.2 (by push_cast;omega)⟩
 ·rw [h2.1];exact Zaw h.tags (by omega)
 ·exact Zaw h2.2.1 (Zaw h.len (by omega))
 ·rw [h2.2.2];exact ZbT h.fset (by push_cast;omega)
theorem PJ.opened {S S':Str} {J:Jn} {R:RJ} {i:Nat} (h:PJ S J R i) (hj:JOK S' (Zby J)) (ha:S'.armed=false) (hk:Keeps S' (95000 - 300*(i+1))):PJ S' (Zby J) (rTidy R) (i+1) :=
 ⟨hj,ha,hk,h.sim.tidy,Zaw (Zdr _).length_le (Zaw h.tags (by omega)),Zaw h.len (by omega),ZbT h.fset (by push_cast;omega),h.rset.1,ZbT h.rset.2 (by push_cast;omega)⟩
theorem ZlR {c:Rg}:∀ (ns:List Int) (f:Fl) (s n:Int),c.sets<n->rFits c ns f s n=false
 | [],f,s,n,h=>by unfold rFits;rw [ZT];omega
 | x::ns,f,s,n,h=>by
  unfold rFits;split
  ·rfl
  ·exact ZlR ns _ _ _ (by split <;> omega)
theorem ZmN {c:Rg} (hc:c.okB=true) (s0:Int):∀ (ns:List Int) (f:Fl) (k s n:Int),f.okB c=true->0<=k->k+ns.length<1000000000->f.set+ns.length<1000000000->1<=s->n=f.set - s0+1->n<=c.sets ->
  rFits c ns (setF f k) s n=Zc4 c s0 ns f s
 | [],f,k,s,n,_,_,_,_,_,_,hn=>by simp [rFits,Zc4,hn]
 | x::ns,f,k,s,n,hf,hk0,hk,hfs,hs,hn,hle=>by
  rw [Z9] at hk hfs
  push_cast at hk hfs
  unfold rFits Zc4;by_cases hb:x<1∨90<x∨1099511627776<s
  ·have hz:(rput c f s x).1=Fl.zero:=by
    unfold rput;rw [Zb (by rcases hb with q|q|q <;> simp [q])]
   rw [Zb hb,hz,Zb rfl]
  ·rw [Za hb];have hr:∃ g p nx,rput c f s x=(g,p,nx,true):=by
    rw [Zem hc hf (by omega) (by omega)];split
    ·exact ⟨_,_,_,rfl⟩
    ·exact ⟨_,_,_,rfl⟩
   obtain ⟨g,p,nx,hr⟩:=hr;have hst:=Zcl hr (by omega);have hpp:=Zei hr;obtain ⟨q,hq⟩:=Zms (k:=k) hr (by omega);rw [hq,hr];simp only;rw [Za hst.ne];have hgs:=hpp.1.trans hpp.2.1;by_cases ho:c.sets<=g.set - s0
   ·rw [Zb ho];refine ZlR _ _ _ _ ?_;cases nx with
    | true=>simp only [Zan] at hgs |-;omega
    | false=>simp only [Zbu,Zas] at hgs |-;omega
   ·rw [Za ho];have hset:=hst.set_le;refine ZmN hc s0 ns g _ _ _ hst.ok ?_ ?_ ?_ (by omega) ?_ ?_
    ·split <;> omega
    ·split <;> omega
    ·omega
    ·cases nx with
     | true=>simp only [Zan] at hgs |-;omega
     | false=>simp only [Zbu,Zas] at hgs |-;omega
    ·cases nx with
     | true=>simp only [Zan] at hgs |-;omega
     | false=>simp only [Zbu,Zas] at hgs |-;omega
theorem PJ.fits {S:Str} {J:Jn} {R:RJ} {i:Nat} (h:PJ S J R i) (hi:i<=80) {ns:List Int} (hn:ns.length<=40):rFits R.c ns R.fill (R.en+1) R.sets.length=fitsJ J ns:=by
 have hf:=h.fset;have hr:=h.rset;have h1:=h.ok.froms;have h2:=h.ok.at.inside;have h3:1<=endJ J+1:=by have:=h.ok.ok.first.1;unfold endJ;omega
 unfold setsJ at h1;rw [h.sim.c,h.sim.en,h.sim.sets,h.sim.fill];exact ZmN h.ok.ok.shape J.r.set ns J.fill R.fill.set _ _ h.ok.at.ok hr.1 (by omega) (by omega) h3 (by omega) (by omega)
structure A16 where
 what:Int
 n:Int
 m:Int
 off:Bool
 d:List Int
 dv:Value
 ts:List Tag
 tv:Value
 ns:List Int
 nv:Value
def isI16 (x:Int):Prop:=-9223372036854775808<=x∧x<=9223372036854775807
def A16.vals (a:A16):List Value:=[int i64 a.what,int i64 a.n,int i64 a.m,.bool a.off,a.dv,a.tv,a.nv]
def A16.val (a:A16):Value:=.agg #[int i64 a.what,int i64 a.n,int i64 a.m,.bool a.off,a.dv,a.tv,a.nv]
def A16.ok (I:Hp) (a:A16):Prop:=BytesI I a.dv a.d∧RowI I 4 a.tv a.ts.length (flat a.ts)∧IntsI I a.nv a.ns∧isI16 a.what∧isI16 a.n∧isI16 a.m∧∀ y ∈ a.d,isByte y
theorem A16.ok_mono {I I':Hp} {a:A16} (h:a.ok I) (s:I.sub I'):a.ok I':=⟨(ZbX _ _).mono s h.1,h.2.1.mono s,(ZbD _ _).mono s h.2.2.1,h.2.2.2⟩
def A16.few (a:A16):Bool:=decide (¬ (120<a.d.length∨40<a.ts.length∨40<a.ns.length))
def few16 (l:List A16) (most:Int):Bool:=l.all A16.few&&decide ((l.length:Int)<=most)
section
variable {p : Nat} {S : Str}
theorem Zqg (v:Value) (ls:List A16) (most:Int) (w:World) (h:RowI w.hp 7 v ls.length (ls.flatMap A16.vals)) (hok:∀ a ∈ ls,a.ok w.hp) (hn:ls.length<=maxLen) :
  Calls prog 49 #[v,int i64 most] w fun e w'=>e=.returned (.bool (few16 ls most))∧w=w':=by
 have H0:=Zh h;have HOK:=Zh hok;obtain ⟨A0,c0,rfl,_⟩:=h;unfold maxLen at hn;have hn1:(ls.length:Int)<=9223372036854775807:=by omega
 clear hok;go_enter func49,ntmps49;go_wp2;go_loopw [5] (fun a5 wr=>∃ (i:Nat),a5=int i64 i∧i<=ls.length∧(ls.take i).all A16.few=true∧wr=w) (fun a5 _=>ls.length - (intOf a5).toNat);case atStart=>exact ⟨0,rfl,ZL _,rfl,rfl⟩
 case round =>
  obtain ⟨i,rfl,hi,hall,rfl⟩:=hrel;by_cases hlt:i<ls.length
  ·obtain ⟨a,ha⟩:∃ a,ls[i]?=some a:=⟨_,Zy hlt⟩;obtain ⟨b,off,e1,hc⟩:=ZbL (i:=i) H0.o (Hp.sub.refl _) (St.init wr) (fun _=>rfl) ha;simp only [Zz,Zap] at e1;subst e1;have hoka:=HOK.o a (ZaG ha);obtain ⟨Ap,cp,hpv,_⟩:=hoka.1;obtain ⟨At,ct,htv,_⟩:=hoka.2.1;obtain ⟨Ak,ck,hkv,_⟩:=hoka.2.2.1;have y4:=hc 4 (by omega);have y5:=hc 5 (by omega);have y6:=hc 6 (by omega);simp only [A16.vals,Zi,Zg] at y4 y5 y6;rw [hpv] at y4;rw [htv] at y5;rw [hkv] at y6;have hst:(ls.take (i+1)).all A16.few=a.few:=by
    obtain ⟨hil,he⟩:=ZH.1 ha;rw [Zc8 hil,List.all_append,hall,he];simp
   have hfull:a.few=false->few16 ls most=false:=fun hf=>by
    unfold few16;have:ls.all A16.few=false:=ZiM.2 ⟨a,ZaG ha,by simp [hf]⟩;rw [this];rfl
   have HST:=Zh hst;have HFULL:=Zh hfull;clear hc hall ha hoka hst hfull hpv hkv htv;by_cases h1:120<a.d.length
   ·have d1:decide (120<(a.d.length:Int))=true:=by rw [Zk];omega
    have HF:=Zh (HFULL.o (by simp [A16.few,h1]));go_wp2;go_ret;exact ⟨by rw [HF.o];rfl,rfl⟩
   ·have d1:decide (120<(a.d.length:Int))=false:=by rw [ZT];omega
    by_cases h2:40<a.ts.length
    ·have d2:decide (40<(a.ts.length:Int))=true:=by rw [Zk];omega
     have HF:=Zh (HFULL.o (by simp [A16.few,h2]));go_wp2;go_ret;exact ⟨by rw [HF.o];rfl,rfl⟩
    ·have d2:decide (40<(a.ts.length:Int))=false:=by rw [ZT];omega
     by_cases h3:40<a.ns.length
     ·have d3:decide (40<(a.ns.length:Int))=true:=by rw [Zk];omega
      have HF:=Zh (HFULL.o (by simp [A16.few,h3]));go_wp2;go_ret;exact ⟨by rw [HF.o];rfl,rfl⟩
     ·have d3:decide (40<(a.ns.length:Int))=false:=by rw [ZT];omega
      have HF:=Zh (show a.few=true by simp [A16.few];omega);go_wp2;go_roundw;case rel=>exact ⟨i+1,by go_num,by omega,by rw [HST.o];exact HF.o,trivial⟩
      case measure=>simp [intOf]<;>omega
  ·obtain rfl:i=ls.length:=by omega
   rw [ZbJ] at hall;have HALL:=Zh hall;clear hall;go_wp2;go_ret;exact ⟨by unfold few16;rw [HALL.o];rfl,rfl⟩
end
theorem Zjp (l r:List Tag):∀ k,k<=l.length->ZaA (l++r) k=ZaA l k
 | 0,_=>rfl
 | k+1,h=>by
  rw [ZaA,ZaA,Zjp l r k (by omega),ZiQ (by omega),Zna (by omega)]
theorem Zo3 (l:List Tag) (t:Tag):ZaA (l++[t]) (l++[t]).length=(ZaA l l.length&&tagOk t l):=by
 rw [Zs,ZcT,ZaA,Zjp l [t] _ (ZC _)];simp
theorem Zh8:∀ (l:List Tag) (n:Int),n<=l.foldl (fun n t=>max n t.id) n∧∀ x ∈ l,x.id<=l.foldl (fun n t=>max n t.id) n
 | [],n=>⟨Zdc _,fun _ h=>by cases h⟩
 | a::l,n=>by
  obtain ⟨h1,h2⟩:=Zh8 l (max n a.id);simp only [Ze1];refine ⟨by omega,fun x hx=>?_⟩;rcases Z4.1 hx with rfl|hx
  ·omega
  ·exact h2 x hx
theorem Zjq (l:List Tag):0<=ZbY l:=(Zh8 l 0).1
theorem Zo4 {l:List Tag} {t:Tag} (h:ZbY l<t.id):noDup t l=true:=by
 rw [noDup,ZbG];intro x hx;have:=(Zh8 l 0).2 x hx;rw [bne_iff_ne];unfold ZbY at h;omega
theorem ZnD {l:List Tag} (h:ZcP l=false) (s:Int):ZbY l<nextId l s∧nextId l s<=ZbY l+2∧(nextId l s % 2=1↔s=1):=by
 rw [nextId,h];simp only [Zbu,Zas,Zen];have h0:=Zjq l;by_cases h1:(ZbY l+1) % 2=1 <;> by_cases h2:s=1 <;> simp [h1,h2] <;> omega
structure Good (ts:List Tag) (at_:Int):Prop where
 ok:ZaA ts ts.length=true
 one:1<=ts.length
 at0:0<=at_
 at1:at_<=1000000
 last:Zbf ts<=at_
 high:ZcP ts=false
 ids:ZbY ts<=2*ts.length
theorem Good.start:Good [⟨1,1,0,0⟩] 0:=⟨by decide +kernel,ZC _,by omega,by omega,by decide +kernel,by decide +kernel,by decide +kernel⟩
theorem Good.later {ts:List Tag} {a b:Int} (h:Good ts a) (hab:a<=b) (hb:b<=1000000):Good ts b :=
 ⟨h.ok,h.one,by have:=h.at0;omega,hb,by have:=h.last;omega,h.high,h.ids⟩
theorem Good.more {ts:List Tag} {a:Int} (h:Good ts a) (hl:ts.length<=1000) {s own heir:Int} (ho:(own=0∧1<=heir∧heir<=2)∨(1<=own∧own<=2∧heir=0)) :
  Good (ts++[⟨nextId ts s,own,heir,a⟩]) a:=by
 obtain ⟨h1,h2,_⟩:=ZnD h.high s;have hi:=h.ids;have h0:=Zjq ts;have hone:=h.one;refine ⟨?_,by simp,h.at0,h.at1,by rw [ZfU];exact Zdc _,?_,?_⟩
 ·rw [Zo3,h.ok,ZgF,tagOk,Zo4 (t:=⟨nextId ts s,own,heir,a⟩) h1,ZgF,Zt];have:=h.last;have:=h.at1;unfold Zcn;show ¬ (ts.length=0∧a≠0)∧¬ a<Zbf ts∧a<=1099511627776∧1<=nextId ts s∧nextId ts s<=1073741824∧0<=own∧own<=2∧(0<own->heir=0)∧(¬ 0<own->1<=heir∧heir<=2);omega
 ·rw [ZjD,h.high,Bool.false_or,Zq];show ¬ 1073741824<nextId ts s;omega
 ·rw [ZjC,Zs,ZcT];show max (ZbY ts) (nextId ts s)<=_;omega
theorem Good.right {ts:List Tag} {a:Int} (h:Good ts a) (hl:ts.length<=32):Z3 ts=true:=by
 rw [Z3,h.ok,Bool.and_true,Zt ⟨h.one,hl⟩]
def ZbZ (ts:List Tag) (e n m:Int):List Tag:=ts++[⟨nextId ts (1+m % 2),1+m % 2,0,max 0 (e - n % 2)⟩]
end Go.Proofs.YtpjchngjhijgmaaGreat
