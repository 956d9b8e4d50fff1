import Derived.Test.YtpjchngjhijgmaaGreatJP28
set_option linter.all false
set_option maxRecDepth 4000
set_option maxHeartbeats 8000000
open Go.RowKit
open Go.IntKind (i64 u64)
open Go.Value (int pointer slice)
open Go.Obj (cells)
namespace Go.Proofs.YtpjchngjhijgmaaGreat
open Tryz
open HP (pt mapOf)
variable {W w w':World} {I:Hp} {l:List HP}
theorem ZoU {c:Rg} {s0:Int}:∀ {a:List En} {pa:List Pl} {f0 g:Fl},laid c s0 a pa f0 g->f0.set+a.length<=1000000000->g.set<=f0.set+a.length:=by
 intro a;induction a with
 | nil =>
  intro pa f0 g h _
  match pa,h with
  | [],h=>cases (h:g=f0);simp
 | cons x a ih =>
  intro pa f0 g h hh
  match pa,h with
  | y::pa,h =>
   obtain ⟨g1,nx,q1,q2,q3⟩:=h;simp only [Z9] at hh |-;have:=(Zcl q1 (by omega)).set_le;have:=ih q3 (by omega);omega
theorem Zsy {c:Rg} {s0:Int} {es:List En} {ps:List Pl} {f:Fl} (h:laid c s0 es ps ⟨s0,0,0,0,0⟩ f) (hc:c.okB=true) (hb:s0+es.length<=1000000000) {n:Nat} (hn:es.length=n+1):f.set<=s0+n:=by
 match es,ps,h with
 | e::es,p::ps,h =>
  have h1:=Zfa h hc (by omega) (p:=p) rfl;obtain ⟨g,nx,h2,h3,h4⟩:=h;simp only [Z9] at hb hn;have hst:=Zcl h2 (by show s0<=_;omega);rw [hst.place] at h1;have:=ZoU h4 (by simp only at h1;omega);simp only at h1;omega
theorem JOK.goneRows {S:Str} {J:Jn} (h:JOK S J) {n:Nat} {s:Int} (hn:∀ (i:Nat) (q:Pl),J.at_[i]?=some q->(q.set<s↔i<n)) (r:Rc) (hr:r.shape=J.r.shape) (k:K4) :
  Zl (rowsJ (goneJ (recJ J r) n)) k=[]∨Zl (rowsJ (goneJ (recJ J r) n)) k=Zl (rowsJ J) k:=by
 rw [ZdM,ZdM];have e0:Zar (((goneJ (recJ J r) n).l.zip (goneJ (recJ J r) n).at_).filterMap fun x=>if keyOf (goneJ (recJ J r) n).r.shape x.2=k then some x.1 else none)=Zar (((J.l.zip J.at_).drop n).filterMap fun x=>if keyOf J.r.shape x.2=k then some x.1 else none):=by
  show Zar (((J.l.drop n).zip (J.at_.drop n)).filterMap fun x=>if keyOf r.shape x.2=k then some x.1 else none)=_;rw [hr,Zi7,Zi7,List.drop_zipWith]
 rw [e0];obtain ⟨Z,hZ⟩:=Zn (J.l.zip J.at_);have hget:∀ (i:Nat) (x:En × Pl),Z[i]?=some x->J.at_[i]?=some x.2:=fun i x hx=>by
  rw [hZ,show x=(x.1,x.2) from rfl,List.getElem?_zip_eq_some] at hx;exact hx.2
 rw [<-hZ];by_cases hd:(Z.drop n).filterMap (fun x=>if keyOf J.r.shape x.2=k then some x.1 else none)=[]
 ·left;rw [hd];rfl
 ·right;have ht:(Z.take n).filterMap (fun x=>if keyOf J.r.shape x.2=k then some x.1 else none)=[]:=by
   refine List.filterMap_eq_nil_iff.2 fun x hx=>?_;by_cases e:keyOf J.r.shape x.2=k
   ·exfalso;refine hd (List.filterMap_eq_nil_iff.2 fun y hy=>?_);by_cases e2:keyOf J.r.shape y.2=k
    ·exfalso;obtain ⟨i,hi⟩:=ZbH hx;obtain ⟨j,hj⟩:=ZbH hy;have hin:i<n:=by
      have:=(ZH.1 hi).1;rw [ZJ] at this;omega
     rw [Ze0 hin] at hi;rw [Zbw] at hj;have a1:=hget _ _ hi;have a2:=hget _ _ hj;have p1:=h.place (ZaG a1);have p2:=h.place (ZaG a2);have hq:x.2=y.2:=Zmh h.ok.shape h.ok.set.1 ⟨p1.1,p1.2.1,p1.2.2.2.1⟩ ⟨p1.2.2.2.2.1,p1.2.2.2.2.2⟩ ⟨p2.1,p2.2.1,p2.2.2.2.1⟩ ⟨p2.2.2.2.2.1,p2.2.2.2.2.2⟩ (congrArg K4.num (e.trans e2.symm));have b1:=(hn _ _ a1).2 hin;have b2:=(hn _ _ a2).1 (hq ▸ b1);omega
    ·rw [Za e2]
   ·rw [Za e]
  conv=>rhs;rw [<-Zck n Z,List.filterMap_append,ht,Zu]
theorem JOK.trimNone {S:Str} {J:Jn} (h:JOK S J) (hd:(doneJ J).1=0):ZcA S J=(if (ZB S).1=0 then ((0,0),(ZB S).2,J) else ((0,7),(ZB S).2,deadJ J))∧((ZB S).1=0->JOK (ZB S).2 J):=by
 refine ⟨?_,fun h0=>?_⟩
 ·unfold ZcA;rw [Za (by simp [h.may]),Zb hd];rcases Zj3 S with e|e
  ·simp [e,endsJ]
  ·simp [e,endsJ]
 ·obtain ⟨a,b⟩:=h.barrier h0;have:=h.moved a b h.safe;exact this
def Zai (J:Jn):Rc:=goneR J.r (doneJ J).1 (doneJ J).2
def ZaN (J:Jn):Jn:=goneJ (recJ J (Zai J)) (doneJ J).1
theorem JOK.trimOp {S:Str} {J:Jn} (h:JOK S J) (hd:(doneJ J).1≠0):(Zai J).Ok ∧
  ZcA S J=(if (saveJ S (Zai J)).1=0 then (if (trimJ (saveJ S (Zai J)).2 (ZaN J)).1=0 then (((((doneJ J).1:Nat):Int),(0:Int)),(trimJ (saveJ S (Zai J)).2 (ZaN J)).2,ZaN J) else ((0,7),(trimJ (saveJ S (Zai J)).2 (ZaN J)).2,deadJ (ZaN J))) else ((0,7),(saveJ S (Zai J)).2,deadJ J)) ∧
  ((saveJ S (Zai J)).1=0->trimJ (saveJ S (Zai J)).2 (ZaN J)=execS (Zch (rowsJ J) (rowsJ (ZaN J)) (Zp (saveJ S (Zai J)).2 ⟨2,0⟩)) (saveJ S (Zai J)).2 ∧
    (∀ s ∈ Zch (rowsJ J) (rowsJ (ZaN J)) (Zp (saveJ S (Zai J)).2 ⟨2,0⟩),ZcD UJn s) ∧
    ((trimJ (saveJ S (Zai J)).2 (ZaN J)).1=0->JOK (trimJ (saveJ S (Zai J)).2 (ZaN J)).2 (ZaN J))):=by
 rcases h.done with e|⟨n,hn,h1,h2,h3,h4,h5,h6,h7⟩
 ·rw [e] at hd;exact absurd rfl hd
 have hn1:(doneJ J).1=n:=by rw [hn]
 have hs:=h.small;have hfr:=h.at.from_;have hok:(Zai J).Ok:=by
  have a:=h.ok.first;have b:=h.ok.set;refine ⟨h.ok.shape,?_,?_,h.ok.tags,h.ok.cls⟩
  ·show 1<=J.r.first+((doneJ J).1:Int)∧J.r.first+((doneJ J).1:Int)<=_;have c:=h.ends;have d:=h.jb.first;have hl:∃ e,J.l[n]?=some e:=⟨_,Zy h2⟩;obtain ⟨e,he⟩:=hl;have h8:=run_seq h.run (ZaG he);obtain ⟨e2,he2⟩:∃ e,J.l[J.l.length - 1]?=some e:=⟨_,Zy (by omega)⟩;have h9:=(En.okB_iff.1 (h.ents _ (ZaG he2)).1).2.1;have h10:=run_seq h.run (ZaG he2);omega
  ·show 0<=(doneJ J).2∧(doneJ J).2<=_;omega
 obtain ⟨t,ht,hat⟩:=h.rec_;have hwhy:=Zgl h.live ht hok;have hk:=(h.keep hok).1;have hpre:∀ k,Zl (rowsJ (ZaN J)) k<+:Zl (rowsJ J) k:=fun k=>by
  unfold ZaN;rw [hn1];rcases h.goneRows (s:=(doneJ J).2) h6 (Zai J) rfl k with e|e
  ·rw [e];exact List.nil_prefix
  ·rw [e];exact List.prefix_refl _
 have hmid:(saveJ S (Zai J)).1=0->trimJ (saveJ S (Zai J)).2 (ZaN J)=execS (Zch (rowsJ J) (rowsJ (ZaN J)) (Zp (saveJ S (Zai J)).2 ⟨2,0⟩)) (saveJ S (Zai J)).2 ∧
   (∀ s ∈ Zch (rowsJ J) (rowsJ (ZaN J)) (Zp (saveJ S (Zai J)).2 ⟨2,0⟩),ZcD UJn s) ∧
   ((trimJ (saveJ S (Zai J)).2 (ZaN J)).1=0->JOK (trimJ (saveJ S (Zai J)).2 (ZaN J)).2 (ZaN J)):=fun h0=>by
  obtain ⟨a,⟨t2,b1,b2⟩,c⟩:=ZeO h.live ht hok h0;obtain ⟨f1,f2,f3⟩:=ZhI (J:=J) (J1:=ZaN J) a (fun k hk=>by rw [c k hk];exact h.rows k hk) hpre;refine ⟨f1,f2,fun h00=>?_⟩;obtain ⟨g1,g2,g3⟩:=f3 h00;refine ⟨g1,hok,?_,?_,fun e he=>?_,?_,⟨t2,g2.trans b1,b2⟩,g3,h.dead,h.safe⟩
  ·show (doneJ J).2+((J.l.drop (doneJ J).1).length:Int)<=_∧(J.l.drop (doneJ J).1).length<=_;rw [ZW,hn1];have hset:(doneJ J).2<=J.r.set+n:=by
    obtain ⟨q,hq⟩:∃ q,J.at_[n]?=some q:=⟨_,Zy (by rw [h.at.len];exact h2)⟩;have hq1:q.set=(doneJ J).2:=Zfa h5 h.ok.shape (by omega) (by rw [Zbw];exact hq);obtain ⟨f,hf⟩:=ZlC h.lay (n+1);have hl1:(J.l.take (n+1)).length=n+1:=by rw [ZJ];omega
    have ha:=ZmE h.ok.shape hf h.ok.set.1 (by rw [hl1];omega);obtain ⟨e,he⟩:∃ e,J.l[n]?=some e:=⟨_,Zy h2⟩;have hp:=ha.pl n e q (by rw [Ze0 (by omega)];exact he) (by rw [Ze0 (by omega)];exact hq);have hle:=Zsy hf h.ok.shape (by omega) (n:=n) hl1;omega
   omega
  ·show runs (J.l.drop (doneJ J).1) (J.r.first+((doneJ J).1:Int));rw [hn1];exact Zq8 h.run n (by omega)
  ·exact h.ents e (Zda he)
  ·show laid J.r.shape (doneJ J).2 (J.l.drop (doneJ J).1) (J.at_.drop (doneJ J).1) ⟨(doneJ J).2,0,0,0,0⟩ J.fill;rw [hn1];exact h5
 refine ⟨hok,?_,hmid⟩;unfold ZcA;rw [Za (by simp [h.may]),Za hd]
 show (if (keepJ S J (Zai J)).1≠0 then ((0,(keepJ S J (Zai J)).1),(keepJ S J (Zai J)).2.1,(keepJ S J (Zai J)).2.2)
  else if (trimJ (keepJ S J (Zai J)).2.1 (ZaN J)).1≠0 then ((0,(trimJ (keepJ S J (Zai J)).2.1 (ZaN J)).1),(trimJ (keepJ S J (Zai J)).2.1 (ZaN J)).2,endsJ (ZaN J) (trimJ (keepJ S J (Zai J)).2.1 (ZaN J)).1)
  else (((((doneJ J).1:Nat):Int),(0:Int)),(trimJ (keepJ S J (Zai J)).2.1 (ZaN J)).2,ZaN J))=_
 rw [hk];by_cases h0:(saveJ S (Zai J)).1=0
 ·obtain ⟨f1,_,_⟩:=hmid h0;have hoff:=Zfl (Zch (rowsJ J) (rowsJ (ZaN J)) (Zp (saveJ S (Zai J)).2 ⟨2,0⟩)) (saveJ S (Zai J)).2;rw [<-f1] at hoff;simp only [h0,Zan];rw [Za (by simp)];rcases hoff with e|e
  ·simp [e]
  ·simp [e,endsJ]
 ·simp only [h0,Zas];rw [Zb (by simp)]
theorem Zis:LiveJ UJn (newS 1048576):=⟨JInv.new.wider (fun k hk=>by cases hk),rfl⟩
theorem Zmo {S:Str} {c:Rg} {at':Int} {ts:List Tag} (h:LiveJ UJn S) (ha:S.armed=false) (hn:get kJ S.seen=none) (hg:goodM c at' ts=true) :
  JRec S none∧((ZaL S).1=0->whyS (ZaL S).2 kJ≠0)∧JRec (makeS (ZaL S).2 kJ).2 none∧(saveJ (makeS (ZaL S).2 kJ).2 (newR c at' ts)).1≠6∧(makeJ S c at' ts false).1=0∧(makeJ S c at' ts false).2.armed=false:=by
 have hok:=Zgx hg;have hci:=ZhG fun k hk=>(Ze5 h k hk).1;obtain ⟨X,hX⟩:=Zn (ZaL S);have hXp:X=execS (ZcB (Zp S ⟨2,0⟩)) S:=hX.trans (Zj5 h);obtain ⟨c1,c2⟩:=ZcY ZaD h ha hci;obtain ⟨d1,d2⟩:=ZdU ZaD h hci c1;rw [<-hXp] at c1 c2 d1 d2;have h3:get kJ X.2.seen=none:=by
  refine (congrFun d2 kJ).trans (ZtL.trans ?_);rw [hn];simp
 have hwhy:whyS X.2 kJ=4:=by rw [d1.why kJ_ok,h3];rfl
 have hb:(Z5 X.2).1=false:=by simp [Z5,c2]
 have e0:(stepE X.2 (.deed kJ madeD)).1=0:=Zgk _ d1.on d1.inv.coh hb;obtain ⟨h5,h6⟩:=Zfr d1 ZaD Zfx (.inl rfl) e0;have h7:=h6 kJ;rw [Zb rfl,h3] at h7;have h8:get kJ (stepE X.2 (.deed kJ madeD)).2.seen=some ⟨[],[]⟩:=h7;have hm:makeS X.2 kJ=stepE X.2 (.deed kJ madeD):=d1.make ZaD kJ_ok h3;have hpl:=Zk2 h hg hn;obtain ⟨f1,f2⟩:=ZcY ZaD h ha (ZlL h hok);rw [<-hX,hm,hpl];refine ⟨(h.attr_none hn).1,fun _=>by rw [hwhy];decide,?_,?_,f1,f2⟩
 ·show (attrS _ kJ nmJ).2≠0;rw [h5.attr kJ_ok h8];simp [get]
 ·rcases Zgl h5 h8 hok with e|e
  ·rw [e];decide
  ·rw [e];decide
theorem JOK.open_pre {S:Str} {J:Jn} (h:JOK S J):(Zp S ⟨2,0⟩).length<=100∧SeenB S∧JRec S (some J.r)∧J.r.set<=1000000∧((trimJ S (layJ (ZaO S J.r))).1=0->JRec (trimJ S (layJ (ZaO S J.r))).2 (some J.r)):=by
 have hs:=h.small;refine ⟨by have:=h.live.inv.keyCount;omega,h.live.inv.seenB,h.jrec,by omega,fun h0=>?_⟩;rw [h.started] at h0 |-;have htr:trimJ S { J with safe:=0 }=ZB S:=h.trim;rw [htr] at h0 |-;obtain ⟨a,b⟩:=h.barrier h0;exact (h.moved a b h.safe).jrec
theorem Zrr {c:Rg} {at':Int} {ts:List Tag} (hg:goodM c at' ts=true):∃ S1 S2,makeJ (newS 1048576) c at' ts false=(0,S1)∧JOK S1 (Zbs c at' ts)∧S1.armed=false∧openJ S1 (newR c at' ts)=(0,S2,Zby (Zbs c at' ts))∧JOK S2 (Zby (Zbs c at' ts))∧S2.armed=false:=by
 obtain ⟨_,_,_,_,h1,h2⟩:=Zmo (c:=c) (at':=at') (ts:=ts) Zis rfl rfl hg;have h3:=Zsw Zis hg rfl h1;obtain ⟨S2,h4,h5,h6⟩:=h3.open_calm h2;exact ⟨_,S2,Prod.ext h1 rfl,h3,h2,h4,h5,h6⟩
theorem ZoV {S:Str} {c:Rg} {at':Int} {ts:List Tag} {b:Bool} {m:Nat} (h:Keeps S (m+4+2*(Zau S ⟨2,0⟩).length)):Keeps (makeJ S c at' ts b).2 m:=by
 have h1:Keeps (ZaL S).2 (m+4):=Zg3 h;have h2:Keeps (makeS (ZaL S).2 kJ).2 (m+2):=ZfW h1;unfold makeJ;split
 ·exact h.fewer (by omega)
 ·split
  ·exact h.fewer (by omega)
  ·split
   ·exact h.fewer (by omega)
   ·split
    ·exact h1.fewer (by omega)
    ·split
     ·exact h2.fewer (by omega)
     ·exact ZeF h2
theorem Zj6 {S:Str} {J:Jn} {m:Nat} (h:Keeps S (m+2+4*(Zau S ⟨2,0⟩).length)):Keeps (mendJ S J).2.1 m:=by
 have h1:Keeps (trimJ S J).2 (m+2):=Zgd h;unfold mendJ;split
 ·exact h1.fewer (by omega)
 ·exact ZeF h1
theorem Zj7 {S:Str} {r:Rc} {m:Nat} (h:Keeps S (m+2+4*(Zau S ⟨2,0⟩).length)):Keeps (openJ S r).2.1 m:=Zj6 h
theorem LiveJ.told {S:Str} (h:LiveJ UJn S):(Zau S ⟨2,0⟩).length<=32:=by
 unfold Zau;rw [Zb h.on];exact h.inv.keyCount
section
theorem Zj8 (c:Rg) (at':Int) (vt:Value) (ts:List Tag) (h:St W I w l) (ht:RowI I 4 vt ts.length (flat ts)) (htn:ts.length<=1000000) (hg:goodM c at' ts=true) :
  Calls prog 38 #[c.val,int i64 at',vt] w fun e w'=>∃ I' p q S,I.sub I'∧e=.returned (.tuple #[pointer (some ⟨p,0,none⟩),pointer (some ⟨q,0,none⟩)])∧St W I' w' (Zj p S::jnHP q p (Zby (Zbs c at' ts))::l)∧JOK S (Zby (Zbs c at' ts))∧S.armed=false∧Keeps S 99000:=by
 obtain ⟨S1,S2,hm,hj1,ha1,ho,hj2,ha2⟩:=Zrr hg;obtain ⟨p1,p2,p3,p4,_,_⟩:=Zmo (c:=c) (at':=at') (ts:=ts) Zis rfl rfl hg;have hk1:Keeps S1 99990:=by
  have:=ZoV (c:=c) (at':=at') (ts:=ts) (b:=false) (m:=99990) ((Zgg 1048576).fewer (show 99990+4+2*(Zau (newS 1048576) ⟨2,0⟩).length<=100000 by show 99990+4+2*0<=_;omega));rwa [hm] at this
 have hto:=hj1.live.told;have hk2:Keeps S2 99000:=by
  have:=Zj7 (r:=newR c at' ts) (m:=99000) (hk1.fewer (show 99000+2+4*(Zau S1 ⟨2,0⟩).length<=99990 by omega));rwa [ho] at this
 have HJ:=Zh hj2;have HA:=Zh ha2;have HK2:=Zh hk2
 have HMK:=Zh (show ∀ (w1:World) (p:Nat) (l1:List HP),St W I w1 (Zj p (newS 1048576)::l1)->Calls prog 34 #[pointer (some ⟨p,0,none⟩),c.val,int i64 at',vt] w1 fun e w'=>∃ I',I.sub I'∧e=.returned (int i64 0)∧St W I' w' (Zj p S1::l1) from fun _ _ _ h1=>by
  have:=ZkU (m:=99990) c at' vt ts none none h1 ht htn ((Zgg 1048576).fewer (by show 99990+4+2*0<=_;omega)) (by show 0<=_;omega) p1 (fun _ _=>⟨p2,p3,p4⟩);rw [show (none:Option Rc).isSome=false from rfl,hm] at this
  exact this)
 have HOP:=Zh (show ∀ (I1:Hp) (w1:World) (p:Nat) (l1:List HP),St W I1 w1 (Zj p S1::l1)->Calls prog 27 #[pointer (some ⟨p,0,none⟩)] w1 fun e w'=>∃ I' q,I1.sub I'∧e=.returned (.tuple #[pointer (some ⟨q,0,none⟩),int i64 0])∧St W I' w' (Zj p S2::jnHP q p (Zby (Zbs c at' ts))::l1) from fun _ _ _ _ h1=>by
  obtain ⟨q1,q2,q3,q4,q5⟩:=hj1.open_pre;have hs:=ZkT (m:=99000) (newR c at' ts) (some (newR c at' ts)) h1 hj1.live.on (hk1.fewer (by omega)) q1 q2 q3 q4 q5;rw [ho] at hs;refine hs.mono ?_;rintro e w' ⟨I',hs1,⟨hne,_⟩|⟨_,q,he,h2⟩⟩
  ·exact absurd rfl hne
  ·exact ⟨I',q,hs1,he,h2⟩)
 clear hm hj1 ha1 ho hj2 ha2 p1 p2 p3 p4 hk1 hto hk2 ht htn;have h1:=h.alloc (cells #[int i64 c.splay,int i64 c.sets,int i64 c.size] 26);simp only [Rg.val] at HMK |-;have H1:=Zh (Zl4 1048576 h1);have HRC:=Zh (show ∀ (w':World) (L:List HP),St W I w' (pt w.heap.size (cells #[int i64 c.splay,int i64 c.sets,int i64 c.size] 26)::L)->w'.cell? ⟨w.heap.size,0,none⟩=some (int i64 c.splay)∧w'.cell? ⟨w.heap.size,1,none⟩=some (int i64 c.sets)∧w'.cell? ⟨w.heap.size,2,none⟩=some (int i64 c.size) from fun w' L h1=>Zak h1);clear h1;go_enter func38,ntmps38;go_wp2_with fail;refine H1.o.mono ?_;rintro e w2 ⟨p,rfl,h2⟩;obtain ⟨c0,c1,c2⟩:=HRC.o _ _ (h2.pull 1 _ rfl);have HM:=Zh (HMK.o _ _ _ h2);clear h2;go_wp2_with fail;refine HM.o.mono ?_;rintro e w3 ⟨I3,hs3,rfl,h3⟩;have HO:=Zh (HOP.o _ _ _ _ h3);have HS3:=Zh hs3;clear h3 hs3 c0 c1 c2;go_wp2_with fail;refine HO.o.mono ?_;rintro e w4 ⟨I4,q,hs4,rfl,h4⟩;have H4:=Zh h4;have HS4:=Zh (HS3.o.trans hs4);clear h4 hs4;go_wp2;go_ret2;refine ⟨I4,p,q,S2,HS4.o,rfl,?_,HJ.o,HA.o,HK2.o⟩;exact (H4.o.pull 2 _ rfl).drop
end
def tag1:Tag:=⟨1,1,0,0⟩
section
theorem Zs7 {g:Nat} {t:Tag} {ty:TypeId} {f:Nat × Nat} (h:St W I w (pt g (cells #[int i64 t.id,int i64 t.own,int i64 t.heir,int i64 t.at_] ty f)::l)):∃ I',I.sub I'∧RowI I' 4 (slice (some ⟨g,0,none⟩) 1 1) 1 (flat [t])∧St W I' w l:=by
 obtain ⟨I',hs,hI,h2⟩:=h.freeze;refine ⟨I',hs,⟨some ⟨g,0,none⟩,1,rfl,rfl,ZC _,by unfold maxLen;omega,(fun e=>by cases e),fun _=>⟨g,0,_,_,_,rfl,hI,fun i x hx=>?_⟩⟩,h2⟩;simpa [flat,Tag.vals] using hx
theorem Zj9 (h:St W I w l):Calls prog 39 #[] w fun e w'=>∃ I' g,I.sub I'∧e=.returned (slice (some ⟨g,0,none⟩) 1 1)∧RowI I' 4 (slice (some ⟨g,0,none⟩) 1 1) 1 (flat [tag1])∧St W I' w' l:=by
 go_enter func39,ntmps39;obtain ⟨I',hs,hr,h2⟩:=Zs7 (t:=tag1) (h.alloc (cells #[int i64 1,int i64 1,int i64 0,int i64 0] 80));have HS:=Zh hs;have HR:=Zh hr;have H2:=Zh h2;clear hs hr h2;go_wp2;go_ret;exact ⟨_,_,HS.o,rfl,HR.o,H2.o⟩
end
theorem JOK.withC {S:Str} {J:Jn} {cs:List Cl} {why:Int} (h:JOK S J) (hc:why=0->Zae cs=true) :
  withJ S J cs why=(if why≠0 then (why,S,J) else if (saveJ S (clsR J.r cs)).1=0 then (0,(saveJ S (clsR J.r cs)).2,recJ J (clsR J.r cs)) else (7,(saveJ S (clsR J.r cs)).2,deadJ J)) ∧
  (why=0->(saveJ S (clsR J.r cs)).1=0->JOK (saveJ S (clsR J.r cs)).2 (recJ J (clsR J.r cs))):=by
 by_cases hw:why=0
 ·have ok:(clsR J.r cs).Ok:=⟨h.ok.shape,h.ok.first,h.ok.set,h.ok.tags,hc hw⟩;obtain ⟨a,b⟩:=h.keep ok;refine ⟨?_,fun _=>b rfl rfl rfl fun _ _=>rfl⟩;unfold withJ;rw [Za (by simp [hw]),Za (by simp [hw]),a]
 ·refine ⟨?_,fun e=>absurd e hw⟩;unfold withJ;rw [Zb hw,Zb hw]
theorem JOK.append_calm {S:Str} {J:Jn} {d:List Int} (h:JOK S J) (ha:S.armed=false) (hd:1<=d.length∧d.length<=90) (hb:∀ y ∈ d,isByte y) (hf:fitsJ J [(d.length:Int)]=true) (hn:J.r.set+J.l.length<1000000∧J.l.length<100000) :
  ∃ S' g p nx,rput J.r.shape J.fill (endJ J+1) d.length=(g,p,nx,true)∧Zbd S J d=((endJ J+1,0),S',addJ J (newE J d) p g)∧JOK S' (addJ J (newE J d) p g)∧S'.armed=false ∧
   (ZaJ (madeS S (keyOf J.r.shape (rput J.r.shape J.fill (endJ J+1) d.length).2.1)).2 (keyOf J.r.shape (rput J.r.shape J.fill (endJ J+1) d.length).2.1) (Zah (newE J d))).1≠6:=by
 obtain ⟨g,p,nx,hr,hin,h1,h2,h3⟩:=h.append hd hb hf hn;obtain ⟨c1,c2⟩:=ZcY ZaD h.live ha h1;rw [Zb c1] at h2;refine ⟨_,g,p,nx,hr,h2,h3 c1,c2,?_⟩;obtain ⟨hw,hroom,_⟩:=h.appRoom hr hin;have hcc:=Rg.ok h.ok.shape;have hlen:(Zl (rowsJ J) (keyOf J.r.shape p)).length+(Zah (newE J d)).length<=4096:=by
  rw [ZcM];show _+(22+d.length)<=_;omega
 have hpl:=Zk1 h.live (Zh6 h.ok.shape p) (h.rows (keyOf J.r.shape p) Zir) hlen;rw [hpl] at c1;rw [hr];simp only;by_cases q:(madeS S (keyOf J.r.shape p)).1=0
 ·rw [Za (by simp [q])] at c1;rw [c1];decide
 ·rw [Zb q] at c1;exact absurd c1 q
theorem Zmp:attrS (newS 10000) kJ nmJ=([],4):=by kernel_rfl
theorem Zsz:makeJ (newS 10000) ⟨0,0,0⟩ 0 [tag1] false=(1,newS 10000):=by kernel_rfl
def j5:Jn:=Zby (Zbs ⟨1,4,512⟩ 5 [tag1])
theorem Zs8:goodM ⟨1,4,512⟩ 5 [tag1]=true:=by kernel_rfl
theorem Zs9:fitsJ j5 [(([97]:List Int).length:Int)]=true:=by kernel_rfl
theorem Ztt:(rput j5.r.shape j5.fill (endJ j5+1) (([97]:List Int).length:Int)).1.set=0:=by kernel_rfl
theorem ZmX:endJ j5=5:=by kernel_rfl
theorem Zp5 {S:Str} (h:JOK S j5) (ha:S.armed=false):∃ S' J',Zbd S j5 [97]=((6,0),S',J')∧JOK S' J'∧setsJ J'=1∧J'.safe=5 ∧
  (ZaJ (madeS S (keyOf j5.r.shape (rput j5.r.shape j5.fill (endJ j5+1) (([97]:List Int).length:Int)).2.1)).2 (keyOf j5.r.shape (rput j5.r.shape j5.fill (endJ j5+1) (([97]:List Int).length:Int)).2.1) (Zah (newE j5 [97]))).1≠6:=by
 obtain ⟨S',g,p,nx,h1,h2,h3,h4,h5⟩:=h.append_calm (d:=[97]) ha (by decide) (by intro y hy;rw [Zbj.1 hy];unfold isByte;omega) Zs9 (by decide);have hs:=Ztt;rw [h1] at hs;refine ⟨S',_,by rw [h2,ZmX];rfl,h3,?_,rfl,h5⟩;show g.set - 0+1=1;have hs':g.set=0:=hs;omega
def Zm3 (ts:List Tag):Int->List (List Int)->List En
 | _,[]=>[]
 | s,p::ps=>⟨tagOf ts s,s,p⟩::Zm3 ts (s+1) ps
def ZiI:List (List Int)->Str->Jn->Str × Jn × Nat
 | [],S,J=>(S,J,0)
 | p::ps,S,J=>if fitsJ J [(p.length:Int)]=false then (S,J,0) else ((ZiI ps (Zbd S J p).2.1 (Zbd S J p).2.2).1,(ZiI ps (Zbd S J p).2.1 (Zbd S J p).2.2).2.1,(ZiI ps (Zbd S J p).2.1 (Zbd S J p).2.2).2.2+1)
theorem Zp6 {S:Str} {k:K4} {fr:List Int} (h:LiveJ UJn S) (hk:k ∈ UJn) (hn:fr.length<=200):(ZaJ S k fr).1≠6:=by
 have hok:=(ZaD.all k hk).2;have hw:=h.why hok;unfold ZaJ;cases hg:get k S.seen with
 | none =>
  rw [hg] at hw;simp only [Option.isSome_none] at hw;simp only [hw];decide
 | some t =>
  rw [hg] at hw;simp only [Option.isSome_some,Zan] at hw;have hT:=h.inv.getT k t hg;have hr:=h.inv.roomy ZaD;have hf:=h.inv.few ZaD;simp only;have hww:ZbW S t t.b.length fr=0:=by
   have:=hT.1;unfold ZbW;rw [Za (by omega),Za (by rw [hr];intro q;have:=q.2;omega)]
  rw [Zgh hw hg hww];show offE _≠6;rcases ZmK (doS S k (ZbQ t.b.length fr)).1 with e|e <;> rw [e] <;> decide
theorem Zrs {S:Str} {k:K4} (h:LiveJ UJn S) (ha:S.armed=false) (hk:k ∈ UJn):LiveJ UJn (madeS S k).2:=by
 have hok:=(ZaD.all k hk).2;have hw:=h.why hok;unfold madeS;cases hg:get k S.seen with
 | none =>
  rw [hg] at hw;have hw':whyS S k=4:=hw;rw [hw',Zb (by omega),h.make ZaD hok hg];have hb:(Z5 S).1=false:=by simp [Z5,ha]
  exact (Zfr h ZaD hk (.inl rfl) (Zgk _ h.on h.inv.coh hb)).1
 | some t =>
  rw [hg] at hw;have hw':whyS S k=0:=hw;rw [hw',Za (by omega)];exact h
theorem JOK.six {S:Str} {J:Jn} {d:List Int} (h:JOK S J) (ha:S.armed=false) (hd:d.length<=170) (p:Pl):(ZaJ (madeS S (keyOf J.r.shape p)).2 (keyOf J.r.shape p) (Zah (newE J d))).1≠6:=by
 have hk:=Zh6 h.ok.shape p;refine Zp6 (Zrs h.live ha hk) hk ?_;rw [ZcM];show 22+d.length<=_;omega
theorem Zn5 {S:Str} {k:K4} {m:Nat} (h:Keeps S (m+2)):Keeps (madeS S k).2 m:=by
 unfold madeS;split
 ·exact ZfW h
 ·exact h.fewer (by omega)
theorem ZnA {S:Str} {J:Jn} {d:List Int} {m:Nat} (h:Keeps S (m+4)):Keeps (Zbd S J d).2.1 m:=by
 have h1:∀ k,Keeps (madeS S k).2 (m+2):=fun k=>Zn5 h;unfold Zbd;split
 ·exact h.fewer (by omega)
 ·split
  ·exact h.fewer (by omega)
  ·split
   ·exact h.fewer (by omega)
   ·split
    ·exact (h1 _).fewer (by omega)
    ·split
     ·exact Zjl (h1 _)
     ·exact Zjl (h1 _)
section
theorem Zp7 {W w:World} {I:Hp} {l:List HP} {g:Nat} {x:Int} {f:Nat × Nat} (h:St W I w (pt g (cells #[int .u8 x] 5 f)::l)):∃ I',I.sub I'∧BytesI I' (slice (some ⟨g,0,none⟩) 1 1) [x]∧St W I' w l:=by
 obtain ⟨I',hs,hI,h2⟩:=h.freeze;exact ⟨I',hs,⟨some ⟨g,0,none⟩,1,rfl,rfl,ZC _,by unfold maxLen;omega,(fun e=>by cases e),fun _=>⟨g,0,_,_,_,rfl,hI,fun i x hx=>by simpa [byteV] using hx⟩⟩,h2⟩
theorem Zhb (w:World):Calls prog 13 #[] w fun e w'=>e=.returned (.bool true)∧Below w.heap.size w w':=by
 go_enter func13,ntmps13;go_wp2_with fail;refine (Zl4 10000 (St.init w)).mono ?_;rintro e w1 ⟨p,rfl,h1⟩;have hjr:JRec (newS 10000) none:=by show (attrS (newS 10000) kJ nmJ).2≠0;rw [Zmp];decide
 have ho:=ZpT h1 rfl (Zgg 10000).inv hjr;rw [Zmp] at ho;have HO:=Zh ho;clear h1 ho;go_wp2_with fail;refine HO.o.mono ?_;rintro e w2 ⟨rfl,h2⟩;have HT:=Zh (Zj9 h2);clear h2 HO;go_wp2_with fail;refine HT.o.mono ?_;rintro e w3 ⟨I3,g3,hs3,rfl,hr3,h3⟩;have hm:=ZkU (m:=99990) ⟨0,0,0⟩ 0 _ [tag1] none none h3 hr3 (by decide) ((Zgg 10000).fewer (by show 99990+4+2*0<=_;omega)) (by show 0<=_;omega) hjr (fun hg _=>by have h:false=true:=hg;cases h);rw [show (none:Option Rc).isSome=false from rfl,Zsz] at hm;simp only [Rg.val] at hm;have HM:=Zh hm;have HS3:=Zh hs3;clear h3 hm hs3 hr3 HT hjr;go_wp2_with fail;refine HM.o.mono ?_;rintro e w4 ⟨I4,hs4,rfl,h4⟩;have HT:=Zh (Zj9 h4);have HS4:=Zh (HS3.o.trans hs4);clear h4 hs4 HM;go_wp2_with fail;refine HT.o.mono ?_;rintro e w5 ⟨I5,g5,hs5,rfl,hr5,h5⟩;have hop:=Zj8 ⟨1,4,512⟩ 5 _ [tag1] h5 hr5 (by decide) Zs8;simp only [Rg.val] at hop;have HOP:=Zh hop;have HS5:=Zh (HS4.o.trans hs5);clear h5 hop hs5 hr5 HT;go_wp2_with fail;refine HOP.o.mono ?_;rintro e w6 ⟨I6,p6,q6,S6,hs6,rfl,h6,hj6,ha6,hk6⟩;have HB:=Zh hj6.jb;have HF:=Zh (ZjQ (h6.pull 1 _ rfl) hj6.jb);have H6:=Zh h6;have HJ6:=Zh hj6;have HA6:=Zh ha6;have HK6:=Zh hk6;have HS6:=Zh (HS5.o.trans hs6);clear h6 hj6 ha6 hk6 hs6 HOP;go_wp2_with fail;refine HF.o.mono ?_;rintro e w7 ⟨rfl,hb7⟩;have h7:=H6.o.keep hb7;have HE:=Zh (ZcW (h7.pull 1 _ rfl) HB.o);have H7:=Zh h7;rw [show (Zby (Zbs ⟨1,4,512⟩ 5 [tag1])).r.first=6 from by kernel_rfl];clear h7 hb7 HF H6;go_wp2_with fail;refine HE.o.mono ?_;rintro e w8 ⟨rfl,hb8⟩;have h8:=H7.o.keep hb8;rw [show endJ (Zby (Zbs ⟨1,4,512⟩ 5 [tag1]))=5 from ZmX];have hcv:=Zl6;obtain ⟨I9,hs9,hb9,h9⟩:=Zp7 (h8.alloc (cells #[int .u8 97] 5 (1,2)));obtain ⟨S10,J10,a1,a2,a3,a4,a5⟩:=Zp5 HJ6.o HA6.o;have hap:=Zjy (m:=98000) [97] _ _ h9 (HK6.o.fewer (by omega)) HB.o hb9 (by intro y hy;rw [Zbj.1 hy];unfold isByte;omega) a5;have a1':Zbd S6 (Zby (Zbs ⟨1,4,512⟩ 5 [tag1])) [97]=((6,0),S10,J10):=a1;rw [a1'] at hap;have HAP:=Zh hap;have HA2:=Zh a2;have HA3:=Zh a3;have HA4:=Zh a4;have HS9:=Zh (HS6.o.trans hs9);clear h8 hb8 hs9 hb9 h9 a1 a2 a3 a4 a5 hap a1' HE H7;go_wp2_with fail;refine HAP.o.mono ?_;rintro e w10 ⟨I10,hs10,rfl,h10⟩;have HSE:=Zh (ZkB (h10.pull 1 _ rfl) HA2.o.jb);have H10:=Zh h10;clear h10 hs10 HAP hcv;go_wp2_with fail;refine HSE.o.mono ?_;rintro e w11 ⟨rfl,hb11⟩;have h11:=H10.o.keep hb11;have HSF:=Zh (ZkA (h11.pull 1 _ rfl) HA2.o.jb);have H11:=Zh h11;clear h11 hb11 H10 HSE;rw [HA3.o];go_wp2_with fail;refine HSF.o.mono ?_;rintro e w12 ⟨rfl,hb12⟩;have H12:=Zh (H11.o.keep hb12);rw [HA4.o];clear hb12 H11 HSF;go_wp2;go_ret;exact ⟨rfl,H12.o.below⟩
end
def ZtS (ls:List (List Int)) (most long:Int):Bool:=ls.all (fun p=>decide ((p.length:Int)<=long))&&decide ((ls.length:Int)<=most)
def ringK (a b c:Int):Rg:=⟨1+a % 4,4+b % 256 % 5,512+c % 65536 % 3585⟩
theorem ZsA (a b c:Int):(ringK a b c).okB=true:=by
 unfold ringK Rg.okB;rw [Zk];simp only;omega
def rowOf (p:List Int):List Int:=if p=[] then [7] else p.take 90
def ZtE (ls:List (List Int)):List Int:=ls.map fun p=>(p.length:Int)
section
theorem RowsI.mono {I I':Hp} {v:Value} {ls:List (List Int)} (s:I.sub I') (h:RowsI I v ls):RowsI I' v ls:=by
 obtain ⟨vs,h1,h2,h3,h4⟩:=h;exact ⟨vs,h1,RowI.mono s h2,fun i x q hx hq=>RowI.mono s (h3 i x q hx hq),h4⟩
theorem RowsI.slice {I:Hp} {v:Value} {ls:List (List Int)} (h:RowsI I v ls):∃ A c,v=.slice A ls.length c∧ls.length<=c∧c<=maxLen∧(A=none->c=0):=by
 obtain ⟨vs,h1,⟨A,c,e,h2,h3,h4,h5,_⟩,_⟩:=h;exact ⟨A,c,e,h3,h4,h5⟩
theorem RowsI.cell {A:Option Addr} {c:Nat} {ls:List (List Int)} {i:Nat} {p:List Int} (h:RowsI I (.slice A ls.length c) ls) (hst:St W I w l) (hi:ls[i]?=some p):∃ b off A' c',A=some ⟨b,off,none⟩∧w.cell? ⟨b,off+i,none⟩=some (.slice A' p.length c')∧BytesI I (.slice A' p.length c') p:=by
 obtain ⟨vs,h1,h2,h3,h4⟩:=h;have hil:=(ZH.1 hi).1;obtain ⟨x,hx⟩:∃ x,vs[i]?=some x:=⟨_,Zy (by omega)⟩;have hb:=h3 i x p hx hi;obtain ⟨A',c',e,_⟩:=id hb;obtain ⟨b,off,e1,hc⟩:=ZbL (mk:=fun x:Value=>[x]) (k:=1) (i:=i) (l:=vs) (by rw [h1,List.flatMap_singleton'];exact h2) (Hp.sub.refl _) hst (fun _=>rfl) hx;simp only [Zz] at e1;obtain ⟨rfl,_,_⟩:=e1;have y0:=hc 0 (by omega);simp only [Zg,Zcj,ZaP] at y0;exact ⟨b,off,A',c',rfl,by rw [y0,e],by rw [<-e];exact hb⟩
theorem Zrt (a b c:Int) (w:World):Calls prog 14 #[int i64 a,int i64 b,int i64 c] w fun e w'=>e=.returned (ringK a b c).val∧Below w.heap.size w w':=by
 obtain ⟨x,hx⟩:∃ x,a % 4=x:=⟨_,rfl⟩;obtain ⟨y,hy⟩:∃ y,b % 256=y:=⟨_,rfl⟩;obtain ⟨z,hz⟩:∃ z,c % 65536=z:=⟨_,rfl⟩;have ha:bits .and i64 a 3=x:=(ZlX a).trans hx;have hb:bits .and i64 b 255=y:=(Zo9 b).trans hy;have hc:bits .and i64 c 65535=z:=(Zjr c).trans hz;obtain ⟨y5,hy5⟩:∃ y5,y % 5=y5:=⟨_,rfl⟩;obtain ⟨z5,hz5⟩:∃ z5,z % 3585=z5:=⟨_,rfl⟩;have ht1:y.tmod 5=y5:=by rw [<-hy5];exact ZfL (by omega)
 have ht2:z.tmod 3585=z5:=by rw [<-hz5];exact ZfL (by omega)
 have w1:IntKind.i64.wrap (1+x)=1+x:=by rw [Zx];omega
 have w2:IntKind.i64.wrap (4+y5)=4+y5:=by rw [Zx];omega
 have w3:IntKind.i64.wrap (512+z5)=512+z5:=by rw [Zx];omega
 have HV:=Zh (show (ringK a b c).val=.agg #[int i64 (1+x),int i64 (4+y5),int i64 (512+z5)] by unfold ringK Rg.val;rw [hx,hy,hz,hy5,hz5]);clear hx hy hz hy5 hz5;go_enter func14,ntmps14;go_wp2;refine Zaj (v:=.agg #[int i64 (1+x),int i64 (4+y5),int i64 (512+z5)]) (by simp [results,results14,go_sem]) rfl ?_;rw [HV.o];exact ⟨rfl,ZS _ _⟩
end
def setsP (c:Rg):Fl->Int->List Int->List Pl
 | _,_,[]=>[]
 | f,s,n::ns=>(rput c f s n).2.1::setsP c (rput c f s n).1 (s+1) ns
structure Fd (c:Rg) (at':Int) (ps:List (List Int)) (J:Jn) (k:Nat):Prop where
 le:k<=ps.length
 r:J.r=⟨c,at'+1,0,[tag1],[]⟩
 l:J.l=Zm3 [tag1] (at'+1) (ps.take k)
 stop:∀ p,ps[k]?=some p->fitsJ J [(p.length:Int)]=false
def ZtQ (c:Rg) (at':Int) (ps:List (List Int)):List Pl:=setsP c ⟨0,0,0,0,0⟩ (at'+1) (ZtE ps)
def ZtF (P:List Pl) (ns:List Int) (q:Pl):Nat->Int
 | 0=>0
 | i+1=>ZtF P ns q i+if P[i]?=some q then ns.getD i 0+22 else 0
theorem JOK.flush_calm {S:Str} {J:Jn} (h:JOK S J) (ha:S.armed=false):∃ S',(ZB S).2=S'∧Zd1 S J=(0,S',safeJ J)∧JOK S' (safeJ J)∧S'.armed=false∧S'.wet=0∧S'.late=[]:=by
 obtain ⟨h1,h2⟩:=h.flush;have hb:Z5 S=(false,S):=by simp [Z5,ha]
 have h0:(ZB S).1=0:=by unfold ZB;rw [Za (by simp [h.live.on]),hb];rfl
 rw [Zb h0] at h1;have e:(ZB S).2={ S with dry:=Zcp S,late:=[],wet:=0,deeds:=wrap64 (S.deeds+1) }:=by unfold ZB;rw [Za (by simp [h.live.on]),hb];rfl
 exact ⟨_,rfl,h1,h2 h0,by rw [e];exact ha,by rw [e],by rw [e]⟩
theorem put_set (f:Fl) (o x:Int):(f.put o x).set=f.set:=by
 unfold Fl.put
 repeat' split
 all_goals rfl
theorem Zmq {c:Rg} {s0:Int}:∀ {es:List En} {ps:List Pl} {f0 f:Fl},laid c s0 es ps f0 f->f.set=(ps.getLast?.map Pl.set).getD f0.set
 | [],[],f0,f,h=>by have h:f=f0:=h;rw [h];rfl
 | [],_::_,_,_,h=>h.elim
 | _::_,[],_,_,h=>h.elim
 | e::es,p::ps,f0,f,h=>by
  obtain ⟨g,nx,hr,_,h2⟩:=h;have ih:=Zmq h2;have hgp:g.set=p.set:=by
   unfold rput at hr;split at hr
   ·simp at hr
   ·split at hr;all_goals
     simp only [Zv] at hr;obtain ⟨rfl,rfl,_⟩:=hr;rw [put_set]
  rw [ih,hgp];cases ps with
  | nil=>rfl
  | cons q qs=>rw [Zi9];cases hq:(q::qs).getLast? with
   | none=>simp at hq
   | some r=>rfl
def leftJ (J:Jn):Jn:=if (doneJ J).1=0 then J else ZaN J
theorem JOK.trim_calm {S:Str} {J:Jn} (h:JOK S J) (ha:S.armed=false):∃ S',ZcA S J=(((((doneJ J).1:Nat):Int),0),S',leftJ J)∧JOK S' (leftJ J)∧S'.armed=false:=by
 unfold leftJ;by_cases hd:(doneJ J).1=0
 ·obtain ⟨h1,h2⟩:=h.trimNone hd;obtain ⟨S',e1,_,_,e4,_,_⟩:=h.flush_calm ha;have hb:Z5 S=(false,S):=by simp [Z5,ha]
  have h0:(ZB S).1=0:=by unfold ZB;rw [Za (by simp [h.live.on]),hb];rfl
  rw [Zb h0] at h1;rw [Zb hd];refine ⟨(ZB S).2,by rw [h1,hd];rfl,h2 h0,by rw [e1];exact e4⟩
 ·obtain ⟨hr,he,hf⟩:=h.trimOp hd;obtain ⟨t,ht,_⟩:=h.rec_;have hpl:=ZdL h.live ht hr;obtain ⟨c1,c2⟩:=ZcY ZaD h.live ha (ZeM S hr);rw [<-hpl] at c1 c2;obtain ⟨g1,g2,g3⟩:=hf c1;obtain ⟨d1,d2⟩:=ZcY ZaD (ZeO h.live ht hr c1).1 c2 g2;rw [<-g1] at d1 d2;rw [Zb c1,Zb d1] at he;rw [Za hd];exact ⟨_,he,g3 d1,d2⟩
theorem ZnB {S:Str} {J:Jn} {m:Nat} (h:Keeps S (m+200)) (ht:(doneJ J).1≠0->(saveJ S (Zai J)).1=0->(Zau (saveJ S (Zai J)).2 ⟨2,0⟩).length<=32):Keeps (ZcA S J).2.1 m:=by
 have h1:Keeps (saveJ S (Zai J)).2 (m+198):=ZeF h;unfold ZcA;split
 ·exact h.fewer (by omega)
 ·split
  ·exact (ZeC h).fewer (by omega)
  ·rename_i hd;split
   ·exact h1.fewer (by omega)
   ·rename_i h0;have h0':(saveJ S (Zai J)).1=0:=Classical.not_not.1 h0;have ht':=ht hd h0';have h2:Keeps (trimJ (saveJ S (Zai J)).2 (goneJ (recJ J (goneR J.r (doneJ J).1 (doneJ J).2)) (doneJ J).1)).2 m:=Zgd (h1.fewer (by omega));split
    ·exact h2
    ·exact h2
section
variable {p q : Nat} {J : Jn} {S : Str}
theorem ZoW {m:Nat} (h:St W I w (Zj p S::jnHP q p J::l)) (hj:JOK S J) (ha:S.armed=false) (hk:Keeps S (m+200)) :
  Calls prog 45 #[pointer (some ⟨q,0,none⟩)] w fun e w'=>∃ I' S',I.sub I'∧e=.returned (.tuple #[int i64 ((doneJ J).1:Nat),int i64 0])∧St W I' w' (Zj p S'::jnHP q p (leftJ J)::l)∧JOK S' (leftJ J)∧S'.armed=false∧Keeps S' m:=by
 obtain ⟨t,ht,_⟩:=hj.rec_;have hlive:(doneJ J).1≠0->(saveJ S (Zai J)).1=0->LiveJ UJn (saveJ S (Zai J)).2:=fun hd h0=>(ZeO hj.live ht (hj.trimOp hd).1 h0).1;obtain ⟨S',e1,e2,e3⟩:=hj.trim_calm ha;have hs:=Zn3 (some J.r) (m:=m) (m2:=m) h (hk.fewer (by omega)) hj.jb hj.okB (fun r hr=>Zfa hj.lay hj.ok.shape (by have:=hj.ok.set;have:=hj.small;omega) hr) hj.jrec (fun hd=>(hj.trimOp hd).1) fun hd h0=>by
  have hl:=hlive hd h0;have hto:=hl.told;have h1:Keeps (saveJ S (Zai J)).2 (m+198):=ZeF hk;exact ⟨h1.fewer (by show m+4*(Zau (saveJ S (Zai J)).2 ⟨2,0⟩).length<=m+198;omega),Zaw hl.inv.keyCount (by omega),hl.inv.seenB⟩
 have hk2:=ZnB (m:=m) hk fun hd h0=>(hlive hd h0).told;rw [e1] at hs hk2;refine hs.mono ?_;rintro e w' ⟨I',hs1,he,h2⟩;exact ⟨I',S',hs1,he,h2,e2,e3,hk2⟩
end
def clsJ (J:Jn) (x:List Cl × Int) (why:Int):Jn:=if why=0 then recJ J (clsR J.r x.1) else J
def upWhy (J:Jn) (id pos:Int):Int:=if mayC id pos=false then 1 else if endJ J<pos then 3 else 0
theorem JOK.with_calm {S:Str} {J:Jn} {cs:List Cl} {why:Int} (h:JOK S J) (ha:S.armed=false) (hc:why=0->Zae cs=true) :
  ∃ S',withJ S J cs why=(why,S',clsJ J (cs,why) why)∧JOK S' (clsJ J (cs,why) why)∧S'.armed=false:=by
 obtain ⟨h1,h2⟩:=h.withC hc;by_cases hw:why=0
 ·have hr:(clsR J.r cs).Ok:=⟨h.ok.shape,h.ok.first,h.ok.set,h.ok.tags,hc hw⟩;obtain ⟨t,ht,_⟩:=h.rec_;have hpl:=ZdL h.live ht hr;obtain ⟨c1,c2⟩:=ZcY ZaD h.live ha (ZeM S hr);rw [<-hpl] at c1 c2;rw [Za (by simp [hw]),Zb c1] at h1;refine ⟨(saveJ S (clsR J.r cs)).2,?_,?_,c2⟩
  ·rw [h1,clsJ,Zb hw,hw]
  ·rw [clsJ,Zb hw];exact h2 hw c1
 ·rw [Zb hw] at h1;refine ⟨S,?_,?_,ha⟩
  ·rw [h1,clsJ,Za hw]
  ·rw [clsJ,Za hw];exact h
theorem Zf2 {S:Str} {J:Jn} {cs:List Cl} {why:Int} {m:Nat} (h:Keeps S (m+2)):Keeps (withJ S J cs why).2.1 m:=by
 unfold withJ;split
 ·exact h.fewer (by omega)
 ·exact ZeF h
theorem JOK.upto {S:Str} {J:Jn} (h:JOK S J) (id pos:Int):uptoJ S J id pos=upWhy J id pos:=by
 unfold uptoJ upWhy;rw [Za (by simp [h.may])]
def addWhy (J:Jn) (id pos:Int):Int:=if upWhy J id pos≠0 then upWhy J id pos else (addC J.r.cls id pos).2
def commitWhy (J:Jn) (id pos:Int):Int:=if upWhy J id pos≠0 then upWhy J id pos else (Za5 J.r.cls id pos).2
theorem JOK.add_calm {S:Str} {J:Jn} (h:JOK S J) (ha:S.armed=false) (id pos:Int) :
  ∃ S',addJ2 S J id pos=(addWhy J id pos,S',clsJ J (addC J.r.cls id pos) (addWhy J id pos))∧JOK S' (clsJ J (addC J.r.cls id pos) (addWhy J id pos))∧S'.armed=false:=by
 unfold addJ2 addWhy;rw [h.upto,h.may2];by_cases hu:upWhy J id pos=0
 ·rw [Za (by simp [hu]),Za (by simp [hu])];exact h.with_calm ha ZkW
 ·rw [Zb hu,Zb hu,clsJ,Za hu];exact ⟨S,rfl,h,ha⟩
theorem JOK.commit_calm {S:Str} {J:Jn} (h:JOK S J) (ha:S.armed=false) (id pos:Int) :
  ∃ S',ZdC S J id pos=(commitWhy J id pos,S',clsJ J (Za5 J.r.cls id pos) (commitWhy J id pos))∧JOK S' (clsJ J (Za5 J.r.cls id pos) (commitWhy J id pos))∧S'.armed=false:=by
 unfold ZdC commitWhy;rw [h.upto,h.may2];by_cases hu:upWhy J id pos=0
 ·rw [Za (by simp [hu]),Za (by simp [hu])];exact h.with_calm ha Zjo
 ·rw [Zb hu,Zb hu,clsJ,Za hu];exact ⟨S,rfl,h,ha⟩
theorem JOK.drop_calm {S:Str} {J:Jn} (h:JOK S J) (ha:S.armed=false) (id:Int) :
  ∃ S',dropJ S J id=((dropC J.r.cls id).2,S',clsJ J (dropC J.r.cls id) (dropC J.r.cls id).2)∧JOK S' (clsJ J (dropC J.r.cls id) (dropC J.r.cls id).2)∧S'.armed=false:=by
 unfold dropJ;rw [Za (by simp [h.may])];exact h.with_calm ha Zj0
theorem JOK.turn_calm {S:Str} {J:Jn} (h:JOK S J) (ha:S.armed=false) (id:Int) (off:Bool) :
  ∃ S',turnJ S J id off=((turnC J.r.cls id off).2,S',clsJ J (turnC J.r.cls id off) (turnC J.r.cls id off).2)∧JOK S' (clsJ J (turnC J.r.cls id off) (turnC J.r.cls id off).2)∧S'.armed=false:=by
 unfold turnJ;rw [Za (by simp [h.may])];exact h.with_calm ha Zj1
section
variable {p q : Nat} {J : Jn} {S : Str}
theorem Zp8 (id pos:Int) {m:Nat} (h:St W I w (Zj p S::jnHP q p J::l)) (hj:JOK S J) (ha:S.armed=false) (hk:Keeps S (m+2)) :
  Calls prog 46 #[pointer (some ⟨q,0,none⟩),int i64 id,int i64 pos] w fun e w'=>∃ I' S',I.sub I'∧e=.returned (int i64 (addWhy J id pos))∧St W I' w' (Zj p S'::jnHP q p (clsJ J (addC J.r.cls id pos) (addWhy J id pos))::l)∧JOK S' (clsJ J (addC J.r.cls id pos) (addWhy J id pos))∧S'.armed=false∧Keeps S' m:=by
 obtain ⟨S',e1,e2,e3⟩:=hj.add_calm ha id pos;have hs:=Zrf id pos (some J.r) h hk hj.jb hj.jrec;have hk2:Keeps (addJ2 S J id pos).2.1 m:=by
  unfold addJ2;split
  ·exact hk.fewer (by omega)
  ·exact Zf2 hk
 rw [e1] at hs hk2;exact hs.mono fun e w' ⟨I',hs1,he,h2⟩=>⟨I',S',hs1,he,h2,e2,e3,hk2⟩
theorem ZoX (id:Int) (off:Bool) {m:Nat} (h:St W I w (Zj p S::jnHP q p J::l)) (hj:JOK S J) (ha:S.armed=false) (hk:Keeps S (m+2)) :
  Calls prog 47 #[pointer (some ⟨q,0,none⟩),int i64 id,.bool off] w fun e w'=>∃ I' S',I.sub I'∧e=.returned (int i64 (turnC J.r.cls id off).2)∧St W I' w' (Zj p S'::jnHP q p (clsJ J (turnC J.r.cls id off) (turnC J.r.cls id off).2)::l)∧JOK S' (clsJ J (turnC J.r.cls id off) (turnC J.r.cls id off).2)∧S'.armed=false∧Keeps S' m:=by
 obtain ⟨S',e1,e2,e3⟩:=hj.turn_calm ha id off;have hs:=Zp1 id off (some J.r) h hk hj.jb hj.jrec;have hk2:Keeps (turnJ S J id off).2.1 m:=by
  unfold turnJ;split
  ·exact hk.fewer (by omega)
  ·exact Zf2 hk
 rw [e1] at hs hk2;exact hs.mono fun e w' ⟨I',hs1,he,h2⟩=>⟨I',S',hs1,he,h2,e2,e3,hk2⟩
end
structure Firm (S:Str) (k:K4) (o:Option TS):Prop where
 late:lateAt S k=[]
 dry:get k S.dry=o
 seen:get k S.seen=o
def AllK (S:Str) (k:K4) (P:Option TS->Prop):Prop:=(∀ n torn,P (leftS S k n torn).1)∧P (get k S.seen)
def Still (S:Str):Prop:=∀ k,Firm S k (get k S.seen)
def rowB (o:Option TS):List Int:=(o.map (·.b)).getD []
def mendD (V:K4->Option TS) (m1:List (K4 × List Int)) (k:K4):List DStep:=match V k with
 | none=>[]
 | some t=>if t.b=Zl m1 k∧Zl m1 k≠[] then [] else if Zl m1 k=[] then [.deed k goneD] else [.deed k ⟨2,(Zl m1 k).length,[],⟨#[]⟩⟩]
def ZtT (V:K4->Option TS) (m1:List (K4 × List Int)) (ks:List K4):List DStep:=ks.flatMap (mendD V m1)++[.bar]
section
variable {V V' : K4 -> Option TS} {m1 : List (K4 × List Int)} {k k' : K4} {ks : List K4} {t : TS} {S : Str}
end
structure JAny (S:Str) (J:Jn):Prop where
 live:LiveJ UJn S
 ok:J.r.Ok
 small:J.r.set+J.l.length<=1000000∧J.l.length<=100000
 run:runs J.l J.r.first
 ents:∀ e ∈ J.l,e.okB=true∧e.bytes∧e.tag=tagOf J.r.tags e.seq
 lay:laid J.r.shape J.r.set J.l J.at_ (layF J.r) J.fill
 rec_:∃ t,get kJ S.seen=some t∧get nmJ t.attr=some (recB J.r)
 rows:∀ k,k≠kJ->Zl (rowsJ J) k<+:rowB (get k S.seen)
 merged:Zb7 (readRows S) J.r.first=J.l
 dead:J.dead=false
 safe:0<=J.safe∧J.safe<=3299023255552
theorem ZmY {α:Type} {p:α->Bool}:∀ {l:List α} {x:α},x ∈ l.takeWhile p->p x=true
 | [],_,h=>by cases h
 | a::l,x,h=>by
  rw [Zcv] at h;split at h
  ·rename_i q;rcases Z4.1 h with rfl|h
   ·exact q
   ·exact ZmY h
  ·cases h
def Zm4 (J:Jn) (k:K4):List En:=(J.l.zip J.at_).filterMap fun x=>if keyOf J.r.shape x.2=k then some x.1 else none
structure RowP (J:Jn) (s:Int) (k:K4) (o:Option TS):Prop where
 pre:rowB o<+:Zar (Zm4 J k)
 has:∀ M,M<+:Zm4 J k->(∀ e ∈ M,e.seq<=s)->Zar M<+:rowB o
structure JRest (S:Str) (J:Jn) (s:Int):Prop where
 live:LiveJ UJn S
 ok:J.r.Ok
 small:J.r.set+J.l.length<=1000000∧J.l.length<=100000
 run:runs J.l J.r.first
 ents:∀ e ∈ J.l,e.okB=true∧e.bytes∧e.tag=tagOf J.r.tags e.seq
 lay:laid J.r.shape J.r.set J.l J.at_ (layF J.r) J.fill
 rec_:∃ t,get kJ S.seen=some t∧get nmJ t.attr=some (recB J.r)
 rows:∀ k,k≠kJ->RowP J s k (get k S.seen)
 dead:J.dead=false
 safe:0<=J.safe∧J.safe<=3299023255552
structure JWet (S:Str) (J:Jn) (s:Int):Prop where
 ok:JOK S J
 far:s<=endJ J
 rows:∀ k,k≠kJ->AllK S k (RowP J s k)
 rec_:∃ t,AllK S kJ (fun o=>o=some t)∧get nmJ t.attr=some (recB J.r)
section
theorem RowsI.cells {A:Option Addr} {c:Nat} {ls:List (List Int)} {i:Nat} {p:List Int} (h:RowsI I (.slice A ls.length c) ls) (hi:ls[i]?=some p):∃ b off A' c',A=some ⟨b,off,none⟩∧BytesI I (.slice A' p.length c') p∧∀ {W' w':World} {I':Hp} {l':List HP},I.sub I'->St W' I' w' l'->w'.cell? ⟨b,off+i,none⟩=some (.slice A' p.length c'):=by
 obtain ⟨vs,h1,⟨A1,c1,e,h2,h3,h4,h5,h6⟩,h7,h8⟩:=h;have hil:=(ZH.1 hi).1;obtain ⟨x,hx⟩:∃ x,vs[i]?=some x:=⟨_,Zy (by omega)⟩;have hb:=h7 i x p hx hi;obtain ⟨A',c',e2,_⟩:=id hb;obtain ⟨b,off,cs,t,f,e3,e4,e5⟩:=h6 (by omega);simp only [Zz] at e;obtain ⟨rfl,_,_⟩:=e;refine ⟨b,off,A',c',e3,by rw [<-e2];exact hb,fun hs hst=>?_⟩;have h9:=hst.imm _ _ (hs _ _ e4);rw [Zc h9,e5 i x hx,e2]
theorem IntsI.cells {A:Option Addr} {c:Nat} {ns:List Int} {i:Nat} {n:Int} (h:IntsI I (slice A ns.length c) ns) (hi:ns[i]?=some n):∃ b off,A=some ⟨b,off,none⟩∧∀ {W' w':World} {I':Hp} {l':List HP},I.sub I'->St W' I' w' l'->w'.cell? ⟨b,off+i,none⟩=some (int i64 n):=by
 obtain ⟨A1,c1,e,h2,h3,h4,h5,h6⟩:=h;have hil:=(ZH.1 hi).1;obtain ⟨b,off,cs,t,f,e3,e4,e5⟩:=h6 (by omega);simp only [Zz] at e;obtain ⟨rfl,_,_⟩:=e;refine ⟨b,off,e3,fun hs hst=>?_⟩;have h9:=hst.imm _ _ (hs _ _ e4);rw [Zc h9,e5 i (intV n) (by rw [ZcH,hi];rfl)];rfl
end
section
variable {p : Nat} {S : Str}
end
structure TM (S:Str) (J:Jn) (i:Nat):Prop where
 ok:JOK S J
 calm:S.armed=false
 ks:Keeps S (90000 - 10*i)
 cls:J.r.cls=[]
 first:J.r.first=1
 set:J.r.set=0
 len:J.l.length<=i
end Go.Proofs.YtpjchngjhijgmaaGreat
