import Derived.Test.YtcbdghojlbpomaaGreatIF06
set_option linter.all false
set_option maxRecDepth 4000
set_option maxHeartbeats 8000000
open Go.RowKit
open Go.IntKind (i64 u64)
open Go.Value (int pointer slice)
open Go.Obj (cells)
namespace Go.Proofs.YtcbdghojlbpomaaGreat
open Tryz
open HP (pt mapOf)
variable {W w w':World} {I:Hp} {l:List HP}
inductive DStep where
 | deed (k:K4) (d:Dd)
 | bar
def stepE (S:Str):DStep->Int × Str
 | .deed k d=>(offE (doS S k d).1,(doS S k d).2)
 | .bar=>Zr S
def execS:List DStep->Str->Int × Str
 | [],S=>(0,S)
 | s::l,S=>thenE (stepE S s) (execS l)
theorem Zcn {r:Int × Str} {f g:Str->Int × Str} (h:r.1=0->f r.2=g r.2):thenE r f=thenE r g:=by
 unfold thenE;split
 ·rename_i e;exact h e
 ·rfl
theorem ZpM (r:Int × Str):thenE r (fun S=>(0,S))=r:=by
 unfold thenE;split
 ·rename_i e;exact Prod.ext e.symm rfl
 ·rfl
theorem Zmy (r:Int × Str) (f g:Str->Int × Str):thenE (thenE r f) g=thenE r fun S=>thenE (f S) g:=by
 unfold thenE;split
 ·rfl
 ·rfl
theorem Zea:∀ (a b:List DStep) (S:Str),execS (a++b) S=thenE (execS a S) (execS b)
 | [],b,S=>rfl
 | s::a,b,S=>by
  show thenE (stepE S s) (execS (a++b))=thenE (thenE (stepE S s) (execS a)) (execS b);rw [Zmy];exact Zcn fun _=>Zea a b _
theorem Zdo (s:DStep) (S:Str):execS [s] S=stepE S s:=ZpM _
def ZcN (U:List K4):DStep->Prop
 | .deed k d=>k ∈ U∧cowD d
 | .bar=>True
def ZbB:DStep->(K4->Option TS)->K4->Option TS
 | .deed k d,V=>fun k'=>if k'=k then stepD (V k) d else V k'
 | .bar,V=>V
def ZaR:List DStep->(K4->Option TS)->K4->Option TS
 | [],V=>V
 | s::l,V=>ZaR l (ZbB s V)
def ZaX (S:Str):K4->Option TS:=fun k=>get k S.seen
structure Live (U:List K4) (S:Str):Prop where
 inv:CInv U S
 on:S.on=true
theorem ZoC {S:Str} (s:DStep) (hon:S.on=true) (h:(ZT S).1=true):stepE S s=(7,(ZT S).2):=by
 cases s with
 | deed k d=>unfold stepE doS;rw [h];rfl
 | bar=>unfold stepE Zr;rw [Za (by simp [hon]),h];rfl
theorem ZfR {S:Str} (s:DStep) (hon:S.on=true) (hc:Coh S) (h:(ZT S).1=false):(stepE S s).1=0:=by
 cases s with
 | deed k d=>show offE (doS S k d).1=0;rw [(ZhS h).1];rfl
 | bar=>exact (ZgB hon hc h).1
theorem Zen {U:List K4} {S:Str} {s:DStep} (h:Live U S) (hU:UOK U) (hs:ZcN U s) (h0:(stepE S s).1=0) :
  Live U (stepE S s).2∧ZaX (stepE S s).2=ZbB s (ZaX S)∧(ZT S).1=false:=by
 have hb:(ZT S).1=false:=by
  cases hb:(ZT S).1 with
  | false=>rfl
  | true=>rw [ZoC s h.on hb] at h0;cases h0
 cases s with
 | deed k d =>
  have hd:=(ZhS (k:=k) (d:=d) hb).2;refine ⟨⟨h.inv.did hU hs.1 hs.2 hb,hd.on.trans h.on⟩,?_,hb⟩;funext k';exact hd.seen k'
 | bar =>
  have hd:=(ZgB h.on h.inv.coh hb).2;refine ⟨⟨h.inv.dried h.on hb,hd.on.trans h.on⟩,?_,hb⟩;funext k';show get k' (Zr S).2.seen=get k' S.seen;rw [hd.seen]
theorem Zeo {U:List K4} {S:Str} {k:K4} {d:Dd} (h:Live U S) (hU:UOK U) (hk:k ∈ U) (hd:cowD d) (h0:(stepE S (.deed k d)).1=0) :
  Live U (stepE S (.deed k d)).2∧∀ k',get k' (stepE S (.deed k d)).2.seen=if k'=k then stepD (get k S.seen) d else get k' S.seen:=by
 obtain ⟨h1,h2,_⟩:=Zen h hU (s:=.deed k d) ⟨hk,hd⟩ h0;exact ⟨h1,fun k'=>congrFun h2 k'⟩
theorem ZhT {U:List K4} (hU:UOK U):∀ {l:List DStep} {S:Str},Live U S->(∀ s ∈ l,ZcN U s)->(execS l S).1=0->Live U (execS l S).2∧ZaX (execS l S).2=ZaR l (ZaX S)
 | [],_,h,_,_=>⟨h,rfl⟩
 | s::l,S,h,hs,h0=>by
  have e:execS (s::l) S=thenE (stepE S s) (execS l):=rfl;rw [e] at h0 |-;unfold thenE at h0 |-;by_cases h1:(stepE S s).1=0
  ·rw [Zb h1] at h0 |-;obtain ⟨h2,h3,_⟩:=Zen h hU (hs s (Z0 ..)) h1;obtain ⟨h4,h5⟩:=ZhT hU h2 (fun t ht=>hs t (Z8 _ ht)) h0;exact ⟨h4,by rw [h5,h3];rfl⟩
  ·rw [Za h1] at h0;exact absurd h0 h1
theorem ZeO {S:Str} (s:DStep) (ha:S.armed=false) (hon:S.on=true):(stepE S s).2.armed=false∧(stepE S s).2.on=true:=by
 have hb:ZT S=(false,S):=by simp [ZT,ha]
 cases s with
 | deed k d=>unfold stepE doS;rw [hb];exact ⟨ha,hon⟩
 | bar=>unfold stepE Zr;rw [Za (by simp [hon]),hb];exact ⟨ha,hon⟩
theorem ZjQ {U:List K4} (hU:UOK U):∀ {l:List DStep} {S:Str},Live U S->S.armed=false->(∀ s ∈ l,ZcN U s)->(execS l S).1=0∧(execS l S).2.armed=false
 | [],_,_,ha,_=>⟨rfl,ha⟩
 | s::l,S,h,ha,hs=>by
  have hb:(ZT S).1=false:=by simp [ZT,ha]
  have h1:=ZfR s h.on h.inv.coh hb;have e:execS (s::l) S=thenE (stepE S s) (execS l):=rfl;rw [e];unfold thenE;rw [Zb h1];exact ZjQ hU (Zen h hU (hs s (Z0 ..)) h1).1 (ZeO s ha h.on).1 fun t ht=>hs t (Z8 _ ht)
theorem Live.why {U:List K4} {S:Str} (h:Live U S) {k:K4} (hk:k.ok=true):whyS S k=if (get k S.seen).isSome then 0 else 4:=by
 unfold whyS mayS;rw [h.on,hk];rfl
def goneD:Dd:=⟨3,0,[],⟨#[]⟩⟩
theorem Live.drop {U:List K4} {S:Str} (h:Live U S) {k:K4} (hk:k.ok=true) (hs:(get k S.seen).isSome=true):dropS S k=stepE S (.deed k goneD):=by
 unfold dropS;rw [h.why hk,Zb (by rw [hs];rfl)];rfl
theorem Live.make {U:List K4} {S:Str} (h:Live U S) (hU:UOK U) {k:K4} (hk:k.ok=true) (hs:get k S.seen=none):makeS S k=stepE S (.deed k madeD):=by
 have hw:whyS S k=4:=by rw [h.why hk,hs];rfl
 have:=h.inv.count;have:=hU.few;unfold makeS;rw [hw,Za (by decide),Za (by simp),Za (by omega)];rfl
theorem Live.write {U:List K4} {S:Str} (h:Live U S) (hU:UOK U) {k:K4} {t:TS} (hk:k.ok=true) (hs:get k S.seen=some t) {off:Int} {p:List Int} (h0:0<=off) (h1:off+p.length<=64):ZaW S k off p=stepE S (.deed k (Z5 off p)):=by
 have hw:whyS S k=0:=by rw [h.why hk,hs];rfl
 have hr:=h.inv.roomy hU;have hf:=h.inv.few hU;refine (ZjN hw hs ?_).trans rfl;unfold ZbU;rw [Za (by omega),Za (by rw [hr];intro q;have:=q.2;omega)]
theorem Live.append {U:List K4} {S:Str} (h:Live U S) (hU:UOK U) {k:K4} {t:TS} (hk:k.ok=true) (hs:get k S.seen=some t) {p:List Int} (h1:t.b.length+p.length<=64):Zch S k p=stepE S (.deed k (Z5 t.b.length p)):=by
 unfold Zch;rw [hs];exact h.write hU hk hs (by omega) (by omega)
theorem Live.trim {U:List K4} {S:Str} (h:Live U S) {k:K4} {t:TS} (hk:k.ok=true) (hs:get k S.seen=some t) (n:Int):trimS S k n=stepE S (.deed k (cutD t n)):=by
 unfold trimS;rw [hs];simp only;rw [Zb (show whyS S k=0 by rw [h.why hk,hs];rfl)];rfl
theorem Live.set {U:List K4} {S:Str} (h:Live U S) (hU:UOK U) {k:K4} {t:TS} (hk:k.ok=true) (hs:get k S.seen=some t) (v:Int):setS S k nmW [v]=stepE S (.deed k (setD nmW [v])):=by
 have hw:whyS S k=0:=by rw [h.why hk,hs];rfl
 have hr:=h.inv.roomy hU;have hf:=h.inv.few hU;refine (ZhQ hw hs ?_).trans rfl;have hsz:nmW.size=1:=rfl;unfold Zbx;rw [hsz,Za (by simp),Za ?_];unfold growS;rw [hr,hsz,Za (by simp)];cases get nmW t.attr with
 | none=>simp;omega
 | some old=>simp;omega
theorem ZhU (b:Bool):offE b=0∨offE b=7:=by cases b <;> simp [offE]
theorem ZhB {r:Int × Str} (k:K4) (h:r.1≠6):Zbp r k=r:=by unfold Zbp;rw [Za h]
theorem Live.all {U:List K4} {S:Str} (h:Live U S) {k:K4} {t:TS} (hk:k.ok=true) (hs:get k S.seen=some t):allS S k=t.b∧lenAt S k=t.b.length:=by
 have hw:whyS S k=0:=by rw [h.why hk,hs];rfl
 have hl:lenAt S k=t.b.length:=by unfold lenAt;rw [Zb hw,hs]
 refine ⟨?_,hl⟩;unfold allS readS;rw [Zb hw,hs,hl];simp only;rw [Za (by omega)];simp
theorem Live.attr {U:List K4} {S:Str} (h:Live U S) {k:K4} {t:TS} (hk:k.ok=true) (hs:get k S.seen=some t):attrS S k nmW=match get nmW t.attr with
  | none=>([],4)
  | some v=>(v,0):=by
 have hw:whyS S k=0:=by rw [h.why hk,hs];rfl
 unfold attrS;rw [Zb hw,hs];rfl
theorem Live.attr_none {U:List K4} {S:Str} (h:Live U S) {k:K4} (hs:get k S.seen=none):(attrS S k nmW).2≠0∧(attrS S k nmW).1=[]:=by
 have hw:whyS S k≠0:=by
  unfold whyS mayS;rw [h.on,hs];cases k.ok <;> simp
 unfold attrS;rw [Za hw];exact ⟨hw,rfl⟩
abbrev CV:=Int->Int->Option TS
def cview (S:Str) (img:Int):CV:=fun num n=>get (dK img num n) S.seen
def Z7 (o:Option TS):Bool:=match o with
 | some t=>(get nmW t.attr).isSome
 | none=>false
def Za0 (V:CV) (ks:List K4) (num:Int):List Int:=(ks.filter fun k=>decide (k.num=num∧k.snap≠0)&&Z7 (V k.num k.snap)).map (·.snap)
def saveP (V:CV) (img num newest:Int):List DStep :=
 (if (V num newest).isSome then [.deed (dK img num newest) goneD] else [])++(.deed (dK img num newest) madeD ::
  ((match V num 0 with|some t=>[.deed (dK img num newest) (Z5 0 t.b)]|none=>[]) ++
    [.deed (dK img num newest) (setD nmW [if (V num 0).isSome then 1 else 2]),.bar]))
theorem ZjR {U:List K4} {S:Str} (h:Live U S) (hU:UOK U) {k head:K4} (hk:k ∈ U) (hh:head.ok=true) (hne:head≠k) (hs:get k S.seen=none) :
  (thenE (makeS S k) fun S2=>saveD S2 k head)=execS (.deed k madeD::((match get head S.seen with|some t=>[.deed k (Z5 0 t.b)]|none=>[])++[.deed k (setD nmW [if (get head S.seen).isSome then 1 else 2]),.bar])) S:=by
 have hok:=(hU.all k hk).2;rw [h.make hU hok hs];show _=thenE (stepE S (.deed k madeD)) _;refine Zcn fun h0=>?_;obtain ⟨h2,hv2⟩:=Zeo h hU hk (.inl rfl) h0;obtain ⟨S2,hS2⟩:∃ x,(stepE S (.deed k madeD)).2=x:=⟨_,rfl⟩;rw [hS2] at h2 hv2 |-;have hk2:get k S2.seen=some ⟨[],[]⟩:=by
  rw [hv2,Zb rfl];rfl
 have hh2:get head S2.seen=get head S.seen:=by
  rw [hv2,Za hne]
 -- the last two deeds
 have fin:∀ (S3:Str) (st:Int) (t3:TS),Live U S3->get k S3.seen=some t3->saveC S3 k st=execS [.deed k (setD nmW [st]),.bar] S3:=fun S3 st t3 h3 hk3=>by
  unfold saveC;rw [h3.set hU hok hk3];show _=thenE (stepE S3 (.deed k (setD nmW [st]))) (execS [.bar]);unfold thenE;split
  ·exact (Zdo .bar _).symm
  ·rename_i hx;have:(stepE S3 (.deed k (setD nmW [st]))).1≠6:=by
    rcases ZhU (doS S3 k (setD nmW [st])).1 with e|e
    ·exact absurd e hx
    ·show offE _≠6;rw [e];decide
   exact ZhB k this
 unfold saveD saveB ZdV;cases hg:get head S.seen with
 | none =>
  have hw:whyS S2 head≠0:=by rw [h2.why hh,hh2,hg];simp
  rw [Za hw,Za hw];simp only [Zaw,ZP,ZdJ,ZaS,Zau];exact fin S2 2 _ h2 hk2
 | some t =>
  have hgs:get head S2.seen=some t:=hh2.trans hg;have hw:whyS S2 head=0:=by rw [h2.why hh,hgs];rfl
  have hal:=(h2.all hh hgs).1;have hcT:cowT t:=h.inv.getT head t hg;rw [Zb hw,Zb hw,hal,h2.append hU hok hk2 (by simpa using hcT.1)];simp only [Zdc,Zaw,ZZ,ZP,ZaH];show _=thenE (stepE S2 (.deed k (Z5 0 t.b))) _;have hin:ZcN U (.deed k (Z5 0 t.b)):=⟨hk,.inr (.inr (.inl ⟨rfl,Zck _,by show (0:Int)+t.b.length<=64;have:=hcT.1;omega⟩))⟩;show (if (stepE S2 (.deed k (Z5 0 t.b))).1=0 then saveC (stepE S2 (.deed k (Z5 0 t.b))).2 k 1 else Zbp (stepE S2 (.deed k (Z5 0 t.b))) k)=_;unfold thenE;split
  ·rename_i hx;obtain ⟨h3,hv3⟩:=Zeo h2 hU hin.1 hin.2 hx;have hk3:∃ t3,get k (stepE S2 (.deed k (Z5 0 t.b))).2.seen=some t3:=by
    rw [hv3,Zb rfl,hk2];exact ⟨_,rfl⟩
   obtain ⟨t3,hk3⟩:=hk3;exact fin _ 1 t3 h3 hk3
  ·rename_i hx;refine ZhB k ?_;rcases ZhU (doS S2 k (Z5 0 t.b)).1 with e|e
   ·exact absurd e hx
   ·show offE _≠6;rw [e];decide
theorem Zri {img num n num' n':Int}:dK img num n=dK img num' n'↔num=num'∧n=n':=by simp [dK]
theorem ZoD {U:List K4} {S:Str} (h:Live U S) (hU:UOK U) {img num newest:Int} (hk:dK img num newest ∈ U) (hh:(dK img num 0).ok=true) (hn:newest≠0) :
  saveS S img num newest=execS (saveP (cview S img) img num newest) S:=by
 have hok:=(hU.all _ hk).2;have hne:dK img num 0≠dK img num newest:=fun e=>hn (Zri.1 e).2.symm;unfold saveS saveP saveA;cases hg:get (dK img num newest) S.seen with
 | none =>
  have hw:whyS S (dK img num newest)≠0:=by rw [h.why hok,hg];simp
  rw [Za hw,show cview S img num newest=none from hg,show cview S img num 0=get (dK img num 0) S.seen from rfl];simp only [ZdJ,ZaS,Zau,ZP];exact ZjR h hU hk hh hne hg
 | some t =>
  have hw:whyS S (dK img num newest)=0:=by rw [h.why hok,hg];rfl
  rw [Zb hw,h.drop hok (by rw [hg];rfl),show cview S img num newest=some t from hg,show cview S img num 0=get (dK img num 0) S.seen from rfl];simp only [Zdc,Zaw,ZZ,ZP];show _=thenE (stepE S (.deed (dK img num newest) goneD)) _;refine Zcn fun h0=>?_;obtain ⟨h2,hv2⟩:=Zeo h hU hk (.inr (.inl rfl)) h0;have hk2:get (dK img num newest) (stepE S (.deed (dK img num newest) goneD)).2.seen=none:=by
   rw [hv2,Zb rfl];simp [stepD,goneD]
  have hh2:get (dK img num 0) (stepE S (.deed (dK img num newest) goneD)).2.seen=get (dK img num 0) S.seen:=by
   rw [hv2,Za hne]
  have:=ZjR h2 hU hk hh hne hk2;rw [hh2] at this;exact this
theorem Zdt {S:Str} (h:KeysOK S) {img:Int} {k:K4} (hk:k ∈ Zj S ⟨4,img⟩):k=dK img k.num k.snap∧(get k S.seen).isSome=true:=by
 obtain ⟨h1,h2⟩:=(h.mem _ _).1 hk;refine ⟨?_,h2⟩;obtain ⟨a,b,c,d⟩:=k;simp only [K4.grp,G2.mk.injEq] at h1;simp [dK,h1.1,h1.2]
theorem Zg2 {U:List K4} {S:Str} (h:Live U S) (hU:UOK U) (k:K4):((attrS S k nmW).2=0↔Z7 (get k S.seen)=true)∧(attrS S k nmW).1=(match get k S.seen with|some t=>(get nmW t.attr).getD []|none=>[]):=by
 cases hg:get k S.seen with
 | none =>
  obtain ⟨h1,h2⟩:=h.attr_none hg;exact ⟨⟨fun e=>absurd e h1,fun e=>by simp [Z7] at e⟩,h2⟩
 | some t =>
  rw [h.attr (hU.all _ (h.inv.getU hg)).2 hg];unfold Z7;cases hx:get nmW t.attr with
  | none=>simp [hx]
  | some v=>simp [hx]
theorem ZiN {U:List K4} {S:Str} (h:Live U S) (hU:UOK U) (img num:Int):ZcK S img num=Za0 (cview S img) (Zj S ⟨4,img⟩) num:=by
 unfold ZcK ZaP Za0;have hk:ZaQ S ⟨4,img⟩=Zj S ⟨4,img⟩:=by unfold ZaQ;rw [Zb h.on]
 rw [hk];congr 1;refine Zd6 fun k hk=>?_;obtain ⟨h1,_⟩:=Zdt h.inv.keys hk;unfold copyB;congr 1;rw [Zai,Ze,(Zg2 h hU k).1,show cview S img k.num k.snap=get (dK img k.num k.snap) S.seen from rfl,<-h1]
def Inc (l:List Int):Prop:=l.Pairwise (· < ·)
theorem Zh0:∀ {a b:List Int},Inc a->Inc b->(∀ x,x ∈ a↔x ∈ b)->a=b
 | [],b,_,_,h=>by
  cases b with
  | nil=>rfl
  | cons y b=>exact absurd ((h y).2 (Z0 ..)) (by simp)
 | x::a,[],_,_,h=>absurd ((h x).1 (Z0 ..)) (by simp)
 | x::a,y::b,ha,hb,h=>by
  have ha':=ZcU.1 ha;have hb':=ZcU.1 hb;have e:x=y:=by
   rcases ZO.1 ((h x).1 (Z0 ..)) with e|e
   ·exact e
   ·rcases ZO.1 ((h y).2 (Z0 ..)) with f|f
    ·exact f.symm
    ·have:=hb'.1 _ e;have:=ha'.1 _ f;omega
  subst e;rw [Zh0 ha'.2 hb'.2 fun z=>?_];constructor
  ·intro hz;rcases ZO.1 ((h z).1 (Z8 _ hz)) with e|e
   ·subst e;exact absurd (ha'.1 _ hz) (by omega)
   ·exact e
  ·intro hz;rcases ZO.1 ((h z).2 (Z8 _ hz)) with e|e
   ·subst e;exact absurd (hb'.1 _ hz) (by omega)
   ·exact e
theorem ZfG {S:Str} (h:KeysOK S) (img num n:Int):n ∈ Za0 (cview S img) (Zj S ⟨4,img⟩) num↔n≠0∧Z7 (cview S img num n)=true:=by
 unfold Za0;constructor
 ·intro hn;obtain ⟨k,hk,rfl⟩:=ZH.1 hn;obtain ⟨_,h2⟩:=Z1.1 hk;simp only [Zak,Ze] at h2;exact ⟨h2.1.2,by rw [<-h2.1.1];exact h2.2⟩
 ·rintro ⟨h1,h2⟩;refine ZH.2 ⟨dK img num n,Z1.2 ⟨(h.mem _ _).2 ⟨rfl,?_⟩,?_⟩,rfl⟩
  ·unfold Z7 cview at h2;cases hg:get (dK img num n) S.seen with
   | none=>rw [hg] at h2;simp at h2
   | some t=>rfl
  ·simp only [Zak,Ze];exact ⟨⟨rfl,h1⟩,h2⟩
theorem ZfH {S:Str} (h:KeysOK S) (V:CV) (img num:Int):Inc (Za0 V (Zj S ⟨4,img⟩) num):=by
 unfold Za0 Inc;rw [List.pairwise_map];have h1:(Zj S ⟨4,img⟩).Pairwise fun a b=>a.lt b=true:=h.rise _;have h2:((Zj S ⟨4,img⟩).filter fun k=>decide (k.num=num∧k.snap≠0)&&Z7 (V k.num k.snap)).Pairwise fun a b=>a.lt b=true:=h1.filter _;refine List.Pairwise.imp_of_mem (fun {a b} ha hb hab=>?_) h2;obtain ⟨ha1,ha2⟩:=Z1.1 ha;obtain ⟨hb1,hb2⟩:=Z1.1 hb;simp only [Zak,Ze] at ha2 hb2;have e1:=(Zdt h ha1).1;have e2:=(Zdt h hb1).1;rw [e1,e2] at hab;simp only [dK,K4.lt,Ze,ha2.1.1,hb2.1.1] at hab;omega
def ZcI (l:List Int) (newest:Int):Bool:=match l.getLast? with
 | some n=>decide (newest<=n)
 | none=>false
def Za2 (V:CV) (ks:List K4) (img num newest:Int):List DStep:=if newest=0∨ZcI (Za0 V ks num) newest=true then [] else saveP V img num newest
theorem Zni {U:List K4} {S:Str} (h:Live U S) (hU:UOK U) {img num newest:Int} (hk:newest≠0->dK img num newest ∈ U) (hh:(dK img num 0).ok=true) :
  Zbq S img num newest=execS (Za2 (cview S img) (Zj S ⟨4,img⟩) img num newest) S:=by
 unfold Zbq Za2;have e:Zgd S img num newest=ZcI (Za0 (cview S img) (Zj S ⟨4,img⟩) num) newest:=by
  unfold Zgd ZcI;rw [ZiN h hU];rfl
 rw [e];split
 ·rfl
 ·rename_i hc;have hn:newest≠0:=fun q=>hc (.inl q);exact ZoD h hU (hk hn) hh hn
def bodyV (o:Option TS):Option (List Int):=match o with
 | some t=>if get nmW t.attr=some [1] then some t.b else none
 | none=>none
def valO (V:CV) (ks:List K4) (num snap:Int):Option (List Int) :=
 match (if 0<snap then (Za0 V ks num).find? (fun n=>decide (snap<=n)) else none) with
 | some n=>bodyV (V num n)
 | none=>(V num 0).map (·.b)
theorem ZhV {U:List K4} {S:Str} (h:Live U S) (hU:UOK U) {img num snap:Int} (hh:(dK img num 0).ok=true) :
  (atS S img num snap).2=(valO (cview S img) (Zj S ⟨4,img⟩) num snap).isSome∧((atS S img num snap).2=true->allS S (atS S img num snap).1=(valO (cview S img) (Zj S ⟨4,img⟩) num snap).getD []∧lenAt S (atS S img num snap).1=((valO (cview S img) (Zj S ⟨4,img⟩) num snap).getD []).length):=by
 unfold atS valO;rw [ZiN h hU];cases hf:(if 0<snap then (Za0 (cview S img) (Zj S ⟨4,img⟩) num).find? (fun n=>decide (snap<=n)) else none) with
 | none =>
  simp only;rw [h.why hh];cases hg:get (dK img num 0) S.seen with
  | none=>simp [show cview S img num 0=none from hg]
  | some t =>
   have:=h.all hh hg;simp [show cview S img num 0=some t from hg,this]
 | some n =>
  simp only;have hn:n ∈ Za0 (cview S img) (Zj S ⟨4,img⟩) num:=by
   split at hf
   ·exact Zd7 hf
   ·cases hf
  obtain ⟨_,hw⟩:=(ZfG h.inv.keys img num n).1 hn;rw [(Zg2 h hU (dK img num n)).2];cases hg:get (dK img num n) S.seen with
  | none=>rw [show cview S img num n=none from hg] at hw;simp [Z7] at hw
  | some t =>
   rw [show cview S img num n=some t from hg] at hw |-;have hal:=h.all (hU.all _ (h.inv.getU hg)).2 hg;simp only [Z7] at hw;unfold bodyV;simp only;obtain ⟨v,ha⟩:=ZdK.1 hw;by_cases hv:v=[1]
   ·simp [ha,hv,hal]
   ·simp [ha,hv]
theorem ZeX {α:Type} {mk:α->List Value} {k:Nat} (hk:∀ a,(mk a).length=k):∀ (l:List α) (i j:Nat) (a:α),l[i]?=some a->j<k->(l.flatMap mk)[i*k+j]?=(mk a)[j]?
 | [],i,j,a,h,_=>by simp at h
 | b::l,0,j,a,h,hj=>by
  simp only [Zg,Zah] at h;subst h;rw [ZaJ,Zb0,Zar,Zda (by rw [hk];exact hj)]
 | b::l,i+1,j,a,h,hj=>by
  rw [ZaJ,ZdF (by rw [hk,Zbj];omega),hk,show (i+1)*k+j - k=i*k+j by rw [Zbj];omega];exact ZeX hk l i j a (by simpa using h) hj
theorem ZeY {α:Type} {mk:α->List Value} {k:Nat} (hk:∀ a,(mk a).length=k):∀ l:List α,(l.flatMap mk).length=l.length*k
 | []=>by simp
 | a::l=>by rw [ZaJ,ZA,hk,ZeY hk l,Zat,Zbj];omega
theorem ZbJ {α:Type} {mk:α->List Value} {k:Nat} {W w:World} {I I':Hp} {m:List HP} {v:Value} {l:List α} (h:RowI I k v l.length (l.flatMap mk)) (hs:I.sub I') (hst:St W I' w m) (hmk:∀ a,(mk a).length=k) {i:Nat} {a:α} (ha:l[i]?=some a) :
  ∃ b off,v=slice (some ⟨b,off,none⟩) l.length (match v with|slice _ _ c=>c|_=>0)∧∀ j,j<k->w.cell? ⟨b,off+i*k+j,none⟩=(mk a)[j]?:=by
 obtain ⟨A,c',rfl,h2,h3,h4,h5,h6⟩:=h;have hjl:=(ZS.1 ha).1;obtain ⟨b,off,cs,t,f,rfl,e2,e3⟩:=h6 (by omega);refine ⟨b,off,rfl,fun j hj=>?_⟩;rw [Zc (hst.imm_heap (hs _ _ e2)),Zb3];have h7:=ZeX hmk l i j a ha hj;obtain ⟨u,hu⟩:∃ u,(mk a)[j]?=some u:=⟨_,ZL (by rw [hmk];exact hj)⟩;rw [hu];exact e3 (i*k+j) u (by rw [h7,hu])
section
theorem St.ints_append {v v2:Value} {n m:Nat} {xs ys:List Value} (ty:TypeId) (h:St W I w (HP.row 3 1 v n xs::l)) (hs:SliceSrc w 1 v2 m ys) (hb:n+m<=1000000000) :
  ∃ v' w',(Builtin.append_ #[75,75] ty #[v,v2]).run prog w=.ok v' w'∧St W I w' (HP.row 3 1 v' (n+m) (xs++ys)::l):=by
 obtain ⟨A,c,rfl,hsrc,hA⟩:=hs;obtain ⟨i0,hi0,hz0,hz1,hz2⟩:=info_parts ZiH;obtain ⟨v',w',hr,ho',hgr,hv'⟩:=Zdf (P:=prog) w 0 75 ty 3 i0 _ 1 8 underlying75 hi0 hz0 hz1 hz2 rfl (by decide) v n xs h.row_owns A m c ys hsrc hA (by unfold maxLen;omega) (by omega) (ZaY _);exact ⟨v',w',hr,h.row_grown ho' hgr hv'⟩
theorem Zqu (w:World) (x:Int):SliceSrc (w.alloc (cells #[int i64 x] 3)) 1 (slice (some ⟨w.heap.size,0,none⟩) 1 1) 1 [int i64 x]:=by
 refine ⟨_,_,rfl,⟨rfl,fun _=>⟨_,rfl,fun j u hu=>?_⟩,fun u hu=>by (rw [Zaz.1 hu];rfl)⟩,fun e=>by cases e⟩;rw [add_plain,Zar,Zc (Zbh _ _) j,<-hu];simp
theorem Zaa {g:Nat} {c0 c1 c2 c3:Value} {t:TypeId} (h:St W I w l) (e:I g=some (cells #[c0,c1,c2,c3] t)):w.cell? ⟨g,0,none⟩=some c0∧w.cell? ⟨g,1,none⟩=some c1∧w.cell? ⟨g,2,none⟩=some c2∧w.cell? ⟨g,3,none⟩=some c3:=by
 have y:=Zc (h.imm_heap e);have y0:=y 0;have y1:=y 1;have y2:=y 2;have y3:=y 3;simp at y0 y1 y2 y3;exact ⟨y0,y1,y2,y3⟩
theorem St.imm_lt {b:Nat} {o:Obj} (h:St W I w l) (e:I b=some o):b<w.heap.size:=(Zby.1 (h.imm_heap e)).1
end
structure A17 where
 what:Int
 num:Int
 newest:Int
 off:Int
 n:Int
 snap:Int
 p:List Int
 pv:Value
 ms:List Int
 mv:Value
def isI (x:Int):Prop:=-9223372036854775808<=x∧x<=9223372036854775807
def A17.vals (a:A17):List Value:=[int i64 a.what,int i64 a.num,int i64 a.newest,int i64 a.off,int i64 a.n,int i64 a.snap,a.pv,a.mv]
def A17.val (a:A17):Value:=.agg #[int i64 a.what,int i64 a.num,int i64 a.newest,int i64 a.off,int i64 a.n,int i64 a.snap,a.pv,a.mv]
def A17.ok (I:Hp) (a:A17):Prop:=Zw I a.pv a.p∧IntsI I a.mv a.ms∧isI a.what∧isI a.num∧isI a.newest∧isI a.off∧isI a.n∧isI a.snap
def A17.few (a:A17):Bool:=decide (¬ (100<a.p.length∨20<a.ms.length))
def few17 (l:List A17) (most:Int):Bool:=l.all A17.few&&decide ((l.length:Int)<=most)
def cutV (v:Value) (n:Nat):Value:=match v with
 | slice A m c=>slice A (min m n) c
 | v=>v
def Zln (a:A17):Int:=a.off % 64 % (65 - ((min a.p.length 64:Nat):Int))
def mildN (a:A17):Int:=if a.what=1 then a.n % 64 % (65 - Zln a) else if a.what=2 then a.n % 128 % 65 else a.n
def A17.mild (a:A17):A17:=⟨a.what,a.num % 4,a.newest % 16,Zln a,mildN a,a.snap % 16,a.p.take 64,cutV a.pv 64,a.ms,a.mv⟩
def oursS (S:Str) (img:Int) (a:A17):Int × Str :=
 if a.what=0 then ZbL S img a.num a.newest a.off a.p
 else if a.what=1 then ZbC S img a.num a.newest a.off a.n
 else if a.what=2 then ccutS S img a.num a.newest a.n
 else if a.what=3 then Zlt S img a.num a.newest a.p
 else if a.what=4 then ZbY S img a.num a.newest a.snap
 else if a.what=5 then tidyS S img a.ms
 else (0,S)
end Go.Proofs.YtcbdghojlbpomaaGreat
