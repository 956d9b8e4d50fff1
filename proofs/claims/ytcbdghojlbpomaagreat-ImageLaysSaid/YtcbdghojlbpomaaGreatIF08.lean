import Derived.Test.YtcbdghojlbpomaaGreatIF07
set_option linter.all false
set_option maxRecDepth 4000
set_option maxHeartbeats 8000000
open Go.RowKit
open Go.IntKind (i64 u64)
open Go.Value (int pointer slice)
open Go.Obj (cells)
namespace Go.Proofs.YtcbdghojlbpomaaGreat
open Tryz
open HP (pt mapOf)
variable {W w w':World} {I:Hp} {l:List HP}
theorem ZgA (a b:List DStep) (V:K4->Option TS):ZaR (a++b) V=ZaR b (ZaR a V):=by
 induction a generalizing V with
 | nil=>rfl
 | cons s a ih=>exact ih _
def copyT (o:Option TS):TS:=match o with
 | some t=>⟨t.b,[(nmW,[1])]⟩
 | none=>⟨[],[(nmW,[2])]⟩
theorem ZjS (o:Option TS):bodyV (some (copyT o))=o.map (·.b):=by
 cases o with
 | none=>simp [bodyV,copyT,get]
 | some t=>simp [bodyV,copyT,get]
theorem Zg3 (o:Option TS):Z7 (some (copyT o))=true:=by
 cases o with
 | none=>simp [Z7,copyT,get]
 | some t=>simp [Z7,copyT,get]
theorem ZoE (b:List Int):layB [] 0 b=b:=by
 unfold layB;split
 ·rename_i h;exact h.symm
 ·simp
theorem ZjT (V:K4->Option TS) (f:CV) (img num newest:Int) (hf:∀ a b,f a b=V (dK img a b)) (hn:newest≠0) :
  ZaR (saveP f img num newest) V=fun k=>if k=dK img num newest then some (copyT (f num 0)) else V k:=by
 have e1:∀ W:K4->Option TS,(∀ k,k≠dK img num newest->W k=V k) ->
   ZaR (.deed (dK img num newest) madeD::((match f num 0 with|some t=>[.deed (dK img num newest) (Z5 0 t.b)]|none=>[]) ++
   [.deed (dK img num newest) (setD nmW [if (f num 0).isSome then 1 else 2]),.bar])) W=fun k=>if k=dK img num newest then some (copyT (f num 0)) else V k:=by
  intro W hW;funext k;cases hg:f num 0 with
  | none =>
   show ZbB (.deed (dK img num newest) (setD nmW [2])) (ZbB (.deed (dK img num newest) madeD) W) k=_;unfold ZbB;by_cases hk:k=dK img num newest
   ·simp [hk,stepD,madeD,setD,copyT,Zb7,put,del]
   ·simp [hk,hW k hk]
  | some t =>
   show ZbB (.deed (dK img num newest) (setD nmW [1])) (ZbB (.deed (dK img num newest) (Z5 0 t.b)) (ZbB (.deed (dK img num newest) madeD) W)) k=_;unfold ZbB;by_cases hk:k=dK img num newest
   ·simp [hk,stepD,madeD,Z5,setD,copyT,Zb7,put,del,ZoE]
   ·simp [hk,hW k hk]
 unfold saveP;rw [ZgA];refine e1 _ fun k hk=>?_;split
 ·show ZbB (.deed (dK img num newest) goneD) V k=_;unfold ZbB;simp [hk]
 ·rfl
theorem Zqv {U:List K4} {S:Str} (h:Live U S) {img num newest:Int} (hk:dK img num newest ∈ U):∀ s ∈ saveP (cview S img) img num newest,ZcN U s:=by
 intro s hs;unfold saveP at hs;rcases ZY.1 hs with q|q
 ·split at q
  ·simp at q;subst q;exact ⟨hk,.inr (.inl rfl)⟩
  ·cases q
 ·rcases ZO.1 q with rfl|q
  ·exact ⟨hk,.inl rfl⟩
  ·rcases ZY.1 q with q|q
   ·cases hg:cview S img num 0 with
    | none=>rw [hg] at q;cases q
    | some t =>
     rw [hg] at q;simp at q;subst q;refine ⟨hk,.inr (.inr (.inl ⟨rfl,Zck _,?_⟩))⟩;have:=(h.inv.getT _ t hg).1;show (0:Int)+t.b.length<=64;omega
   ·rcases ZO.1 q with rfl|q
    ·exact ⟨hk,.inr (.inr (.inr (.inr (.inl ⟨rfl,rfl,rfl⟩))))⟩
    ·simp at q;subst q;trivial
theorem ZkD {U:List K4} {S:Str} (h:Live U S) {img num newest:Int} (hk:newest≠0->dK img num newest ∈ U) (ks:List K4):∀ s ∈ Za2 (cview S img) ks img num newest,ZcN U s:=by
 unfold Za2;split
 ·intro s hs;cases hs
 ·rename_i hc;exact Zqv h (hk fun q=>hc (.inl q))
structure After (U:List K4) (S S1:Str) (img num newest:Int):Prop where
 live:Live U S1
 same:∀ k,k≠dK img num newest->get k S1.seen=get k S.seen
 head:cview S1 img num 0=cview S img num 0
 val:∀ snap,valO (cview S1 img) (Zj S1 ⟨4,img⟩) num snap=valO (cview S img) (Zj S ⟨4,img⟩) num snap
theorem uncovered {l:List Int} (hi:Inc l) {newest:Int} (h:ZcI l newest=false):∀ n ∈ l,n<newest:=by
 intro n hn;unfold ZcI at h;cases hl:l.getLast? with
 | none=>rw [ZlC] at hl;rw [hl] at hn;cases hn
 | some x =>
  rw [hl] at h;simp only [Zk] at h;obtain ⟨l',rfl⟩:=ZlD.1 hl;rcases ZY.1 hn with q|q
  ·have:=(Zd4.1 hi).2.2 n q x (by simp);omega
  ·simp at q;omega
theorem Zmz {U:List K4} {S:Str} (h:Live U S) (hU:UOK U) {img num newest:Int} (hk:newest≠0->dK img num newest ∈ U)
  (h0:(execS (Za2 (cview S img) (Zj S ⟨4,img⟩) img num newest) S).1=0):After U S (execS (Za2 (cview S img) (Zj S ⟨4,img⟩) img num newest) S).2 img num newest:=by
 obtain ⟨h1,h2⟩:=ZhT hU h (ZkD h hk _) h0;unfold Za2 at h0 h1 h2 |-;by_cases hc:newest=0∨ZcI (Za0 (cview S img) (Zj S ⟨4,img⟩) num) newest=true
 ·rw [Zb hc] at h1 |-;exact ⟨h1,fun _ _=>rfl,rfl,fun _=>rfl⟩
 ·rw [Za hc] at h0 h1 h2 |-;have hn:newest≠0:=fun q=>hc (.inl q);have hcv:ZcI (Za0 (cview S img) (Zj S ⟨4,img⟩) num) newest=false:=by
   cases q:ZcI (Za0 (cview S img) (Zj S ⟨4,img⟩) num) newest with
   | false=>rfl
   | true=>exact absurd (.inr q) hc
  rw [ZjT (ZaX S) (cview S img) img num newest (fun _ _=>rfl) hn] at h2;obtain ⟨S1,hS1⟩:∃ x,(execS (saveP (cview S img) img num newest) S).2=x:=⟨_,rfl⟩;rw [hS1] at h1 h2 |-;have hv:∀ k,get k S1.seen=if k=dK img num newest then some (copyT (cview S img num 0)) else get k S.seen:=fun k=>congrFun h2 k;have hsame:∀ k,k≠dK img num newest->get k S1.seen=get k S.seen:=fun k hk=>by rw [hv,Za hk]
  have hhead:cview S1 img num 0=cview S img num 0:=hsame _ fun e=>hn (Zri.1 e).2.symm;have hnew:cview S1 img num newest=some (copyT (cview S img num 0)):=by unfold cview;rw [hv,Zb rfl];rfl
  have hcs:∀ n,n≠newest->cview S1 img num n=cview S img num n:=fun n hne=>hsame _ fun e=>hne (Zri.1 e).2;have hlt:=uncovered (ZfH h.inv.keys (cview S img) img num) hcv;have hcop:Za0 (cview S1 img) (Zj S1 ⟨4,img⟩) num=Za0 (cview S img) (Zj S ⟨4,img⟩) num++[newest]:=by
   refine Zh0 (ZfH h1.inv.keys _ _ _) ?_ fun x=>?_
   ·refine Zd4.2 ⟨ZfH h.inv.keys _ _ _,Zgs _ _,fun a ha b hb=>?_⟩;simp at hb;subst hb;exact hlt a ha
   ·rw [ZfG h1.inv.keys,ZY,ZfG h.inv.keys];by_cases e:x=newest
    ·subst e;rw [hnew];simp [hn,Zg3]
    ·rw [hcs x e];simp [e]
  refine ⟨h1,hsame,hhead,fun snap=>?_⟩;unfold valO;rw [hcop,hhead];by_cases hs:0<snap
  ·rw [Zb hs,Zb hs,Zgt];cases hf:(Za0 (cview S img) (Zj S ⟨4,img⟩) num).find? (fun n=>decide (snap<=n)) with
   | some n =>
    have hm:=Zd7 hf;simp only [Option.some_or];rw [hcs n (by have:=hlt n hm;omega)]
   | none =>
    simp only [Option.none_or];by_cases hsn:snap<=newest
    ·simp only [List.find?_cons,Zcb hsn];rw [hnew,ZjS]
    ·simp [hsn]
  ·rw [Za hs,Za hs]
def layP (k:K4) (o:Option TS) (off:Int) (p:List Int):List DStep:=match o with
 | some _=>[.deed k (Z5 off p)]
 | none=>[.deed k madeD,.deed k (Z5 off p)]
theorem Zqw (S:Str) (k:K4) (d:Dd):(stepE S (.deed k d)).1=0∨(stepE S (.deed k d)).1=7:=ZhU _
theorem ZkE {U:List K4} {S:Str} (h:Live U S) (hU:UOK U) {k:K4} (hk:k ∈ U) {off:Int} {p:List Int} (h0:0<=off) (h1:off+p.length<=64) :
  clayS S k off p=execS (layP k (get k S.seen) off p) S:=by
 have hok:=(hU.all k hk).2;unfold clayS layP;cases hg:get k S.seen with
 | some t =>
  rw [Zb (by rw [h.why hok,hg];rfl),h.write hU hok hg h0 h1];exact (Zdo _ _).symm
 | none =>
  rw [Za (by rw [h.why hok,hg];simp),h.make hU hok hg];show _=thenE (stepE S (.deed k madeD)) (execS [.deed k (Z5 off p)]);refine Zcn fun hz=>?_;obtain ⟨h2,hv2⟩:=Zeo h hU hk (.inl rfl) hz;have hk2:get k (stepE S (.deed k madeD)).2.seen=some ⟨[],[]⟩:=by rw [hv2,Zb rfl];rfl
  rw [h2.write hU hok hk2 h0 h1,Zdo];refine ZhB k ?_;rcases Zqw (stepE S (.deed k madeD)).2 k (Z5 off p) with e|e
  ·rw [e];decide
  ·rw [e];decide
def turnP (k:K4) (o:Option TS) (p:List Int):List DStep :=
 if p=[] then (match o with|some _=>[.deed k goneD]|none=>[]) else match o with
  | none=>[.deed k madeD,.deed k (Z5 0 p)]
  | some t=>if (p.length:Int)<t.b.length then [.deed k (cutD t p.length),.deed k (Z5 0 p)] else [.deed k (Z5 0 p)]
theorem ZjU {U:List K4} {S:Str} (h:Live U S) (hU:UOK U) {k:K4} (hk:k ∈ U) {p:List Int} (h1:p.length<=64) :
  turnS S k p=execS (turnP k (get k S.seen) p) S:=by
 have hok:=(hU.all k hk).2;unfold turnS turnP;by_cases hp:p=[]
 ·rw [Zb hp,Zb hp];cases hg:get k S.seen with
  | none=>rw [Za (by rw [h.why hok,hg];simp)];rfl
  | some t =>
   rw [Zb (by rw [h.why hok,hg];rfl),h.drop hok (by rw [hg];rfl)];exact (Zdo _ _).symm
 ·rw [Za hp,Za hp];cases hg:get k S.seen with
  | none =>
   rw [Zb (by rw [h.why hok,hg];simp),ZkE h hU hk (Zck _) (by omega)];unfold layP;rw [hg]
  | some t =>
   have hlen:=(h.all hok hg).2;have hcT:=(h.inv.getT k t hg).1;have hr:=h.inv.roomy hU;have hf:=h.inv.few hU;rw [Za (by rw [h.why hok,hg];simp),hlen,hr,Za (by omega)];simp only;split
   ·rw [h.trim hok hg];show _=thenE (stepE S (.deed k (cutD t p.length))) (execS [.deed k (Z5 0 p)]);refine Zcn fun hz=>?_;obtain ⟨h2,hv2⟩:=Zeo h hU hk (.inr (.inr (.inr (.inl rfl)))) hz;have hk2:∃ t2,get k (stepE S (.deed k (cutD t p.length))).2.seen=some t2:=by
     rw [hv2,Zb rfl,hg];exact ⟨_,rfl⟩
    obtain ⟨t2,hk2⟩:=hk2;rw [h2.write hU hok hk2 (Zck _) (by omega),Zdo]
   ·rw [h.write hU hok hg (Zck _) (by omega),Zdo]
def tidyP (V:CV) (img:Int) (marks:List Int):List K4->Int->Int->List DStep
 | [],_,_=>[]
 | k::ks,last,below =>
  let below:=if k.num=last then below else 0
  if k.snap=0 then tidyP V img marks ks k.num below
  else if Z7 (V k.num k.snap)=true∧seenB marks below k.snap=true then tidyP V img marks ks k.num k.snap
  else .deed (dK img k.num k.snap) goneD::tidyP V img marks ks k.num (if Z7 (V k.num k.snap)=true then k.snap else below)
theorem ZfS {U:List K4} (hU:UOK U) (V:CV) (img:Int) (marks:List Int):∀ (ks:List K4) (last below:Int) (S:Str),Live U S->ks.Nodup ->
  (∀ k ∈ ks,k=dK img k.num k.snap∧get k S.seen=V k.num k.snap∧(get k S.seen).isSome=true)->tidyL marks ks last below S=execS (tidyP V img marks ks last below) S
 | [],_,_,S,_,_,_=>rfl
 | k::ks,last,below,S,h,hn,hks=>by
  have hn':=Za9.1 hn;obtain ⟨hk1,hk2,hk3⟩:=hks k (Z0 ..);have hrest:=fun k' hk'=>hks k' (Z8 _ hk');unfold tidyL tidyP;simp only;generalize (if k.num=last then below else 0)=bl;have hw:(attrS S k nmW).2=0↔Z7 (V k.num k.snap)=true:=by rw [<-hk2];exact (Zg2 h hU k).1
  by_cases h0:k.snap=0
  ·rw [Zb h0,Zb h0];exact ZfS hU V img marks ks _ _ S h hn'.2 hrest
  ·rw [Za h0,Za h0];by_cases hc:Z7 (V k.num k.snap)=true∧seenB marks bl k.snap=true
   ·rw [Zb ⟨hw.2 hc.1,hc.2⟩,Zb hc];exact ZfS hU V img marks ks _ _ S h hn'.2 hrest
   ·rw [Za (fun q=>hc ⟨hw.1 q.1,q.2⟩),Za hc];obtain ⟨t,ht⟩:=ZdK.1 hk3;have hkU:=h.inv.getU ht;have hok:=(hU.all k hkU).2;rw [h.drop hok hk3,<-hk1];show _=thenE (stepE S (.deed k goneD)) _;refine Zcn fun hz=>?_;obtain ⟨h2,hv2⟩:=Zeo h hU hkU (.inr (.inl rfl)) hz;have e:(if (attrS S k nmW).2=0 then k.snap else bl)=if Z7 (V k.num k.snap)=true then k.snap else bl:=by
     by_cases q:Z7 (V k.num k.snap)=true
     ·rw [Zb q,Zb (hw.2 q)]
     ·rw [Za q,Za (fun r=>q (hw.1 r))]
    rw [e];refine ZfS hU V img marks ks _ _ _ h2 hn'.2 fun k' hk'=>?_;obtain ⟨a1,a2,a3⟩:=hrest k' hk';have hne:k'≠k:=fun e=>hn'.1 (e ▸ hk');rw [hv2,Za hne];exact ⟨a1,a2,a3⟩
def oursP (V:CV) (ks:List K4) (img:Int) (a:A17):List DStep :=
 if a.what=0 then (if a.p=[] then [] else Za2 V ks img a.num a.newest++layP (dK img a.num 0) (V a.num 0) a.off a.p)
 else if a.what=1 then (match V a.num 0 with
  | none=>[]
  | some t=>Za2 V ks img a.num a.newest++if min a.n (t.b.length - a.off)<1 then [] else [.deed (dK img a.num 0) (Z5 a.off (List.replicate (min a.n (t.b.length - a.off)).toNat 0))])
 else if a.what=2 then (match V a.num 0 with
  | none=>[]
  | some t=>if 0<a.n∧(t.b.length:Int)<=a.n then [] else Za2 V ks img a.num a.newest++[if a.n=0 then .deed (dK img a.num 0) goneD else .deed (dK img a.num 0) (cutD t a.n)])
 else if a.what=3 then Za2 V ks img a.num a.newest++turnP (dK img a.num 0) (V a.num 0) a.p
 else if a.what=4 then Za2 V ks img a.num a.newest++turnP (dK img a.num 0) (V a.num 0) ((valO V ks a.num a.snap).getD [])
 else if a.what=5 then tidyP V img a.ms ks (-1) 0
 else []
structure Fine (U:List K4) (img:Int) (a:A17):Prop where
 obj:objB img a.num=true
 newest:snapB a.newest=true
 snap:a.what=4->snapB a.snap=true
 span:(a.what=0->ZG a.off a.p.length=true)∧(a.what=1->ZG a.off a.n=true)∧(a.what=2->ZG 0 a.n=true)∧(a.what=3->ZG 0 a.p.length=true)
 head:dK img a.num 0 ∈ U
 copy:a.newest≠0->dK img a.num a.newest ∈ U
theorem Zc1 {S:Str} (h:S.on=true):cmayS S true=0:=by unfold cmayS;rw [h];rfl
theorem ZjV {U:List K4} {S:Str} (h:Live U S) (img num snap:Int):((valO (cview S img) (Zj S ⟨4,img⟩) num snap).getD []).length<=64:=by
 unfold valO;split
 ·rename_i n hn;unfold bodyV;cases hg:cview S img num n with
  | none=>simp
  | some t =>
   simp only;split
   ·exact (h.inv.getT _ t hg).1
   ·simp
 ·cases hg:cview S img num 0 with
  | none=>simp
  | some t=>exact (h.inv.getT _ t hg).1
theorem ZoF {U:List K4} {S:Str} (h:Live U S) (hU:UOK U) {img num snap:Int} (hh:(dK img num 0).ok=true):backL S img num snap=(valO (cview S img) (Zj S ⟨4,img⟩) num snap).getD []:=by
 obtain ⟨h1,h2⟩:=ZhV h hU (snap:=snap) hh;unfold backL;cases hb:(atS S img num snap).2 with
 | true=>rw [Zb rfl];exact (h2 hb).1
 | false =>
  rw [Za (by simp)];rw [hb] at h1;cases hv:valO (cview S img) (Zj S ⟨4,img⟩) num snap with
  | none=>rfl
  | some b=>rw [hv] at h1;simp at h1
theorem ZjW {U:List K4} {S:Str} (h:Live U S) (hU:UOK U) {img:Int} {a:A17} (hi:0<=img∧img<=255) (ha:a.what=5∨Fine U img a) :
  oursS S img a=execS (oursP (cview S img) (Zj S ⟨4,img⟩) img a) S:=by
 unfold oursS oursP;by_cases e5:a.what=5
 ·rw [Za (by omega),Za (by omega),Za (by omega),Za (by omega),Za (by omega),Zb e5,Za (by omega),Za (by omega),Za (by omega),Za (by omega),Za (by omega),Zb e5];unfold tidyS;have ho:objB img 0=true:=by unfold objB;rw [Ze];omega
  rw [ho,Zc1 h.on,Za (by simp),show ZaQ S ⟨4,img⟩=Zj S ⟨4,img⟩ by unfold ZaQ;rw [Zb h.on]];refine ZfS hU _ _ _ _ _ _ S h (List.Pairwise.imp (fun {a b} hab e=>by subst e;rw [ZfD] at hab;cases hab) (h.inv.keys.rise ⟨4,img⟩)) fun k hk=>?_;obtain ⟨h1,h2⟩:=Zdt h.inv.keys hk;refine ⟨h1,?_,h2⟩;show get k S.seen=get (dK img k.num k.snap) S.seen;rw [<-h1]
 have hf:=ha.resolve_left e5;have hhead:=(hU.all _ hf.head).2;have hap:=Zni h hU (img:=img) (num:=a.num) (newest:=a.newest) hf.copy hhead;have haf:=fun h0=>Zmz h hU (img:=img) (num:=a.num) (newest:=a.newest) hf.copy h0;obtain ⟨P,hP⟩:∃ P,Za2 (cview S img) (Zj S ⟨4,img⟩) img a.num a.newest=P:=⟨_,rfl⟩;rw [hP] at hap haf;rw [hP];split
 ·rename_i e0;unfold ZbL;rw [hf.obj,hf.newest,hf.span.1 e0,show (true&&true&&true)=true from rfl,Zc1 h.on,Za (by simp)];split
  ·rfl
  ·rw [hap,Zea];refine Zcn fun h0=>?_;have hA:=haf h0;have hw:=hf.span.1 e0;unfold ZG at hw;rw [Ze] at hw;rw [ZkE hA.live hU hf.head hw.1 (by omega),show get (dK img a.num 0) (execS P S).2.seen=cview S img a.num 0 from hA.head]
 split
 ·rename_i e1;unfold ZbC;rw [hf.obj,hf.newest,hf.span.2.1 e1,show (true&&true&&true)=true from rfl,Zc1 h.on,Za (by simp),h.why hhead];cases hg:get (dK img a.num 0) S.seen with
  | none=>rw [show cview S img a.num 0=none from hg];rfl
  | some t =>
   rw [show cview S img a.num 0=some t from hg,Za (by simp),(h.all hhead hg).2,hap];simp only;rw [Zea];refine Zcn fun h0=>?_;have hA:=haf h0;have hw:=hf.span.2.1 e1;unfold ZG at hw;rw [Ze] at hw;split
   ·rfl
   ·have hg1:get (dK img a.num 0) (execS P S).2.seen=some t:=hA.head.trans hg;rw [hA.live.write hU hhead hg1 hw.1 (by rw [Za7];omega),Zdo]
 split
 ·rename_i e2;unfold ccutS;rw [hf.obj,hf.newest,hf.span.2.2.1 e2,show (true&&true&&true)=true from rfl,Zc1 h.on,Za (by simp),h.why hhead];cases hg:get (dK img a.num 0) S.seen with
  | none=>rw [show cview S img a.num 0=none from hg];rfl
  | some t =>
   rw [show cview S img a.num 0=some t from hg,(h.all hhead hg).2];simp only [Zdc,Zaw,ne_eq,Zc9,false_or];split
   ·rfl
   ·rw [hap,Zea];refine Zcn fun h0=>?_;have hA:=haf h0;have hg1:get (dK img a.num 0) (execS P S).2.seen=some t:=hA.head.trans hg;rw [Zdo];split
    ·exact hA.live.drop hhead (by rw [hg1];rfl)
    ·exact hA.live.trim hhead hg1 _
 split
 ·rename_i e3;unfold Zlt;rw [hf.obj,hf.newest,hf.span.2.2.2 e3,show (true&&true&&true)=true from rfl,Zc1 h.on,Za (by simp),hap,Zea];refine Zcn fun h0=>?_;have hA:=haf h0;have hw:=hf.span.2.2.2 e3;unfold ZG at hw;rw [Ze] at hw;rw [ZjU hA.live hU hf.head (by omega),show get (dK img a.num 0) (execS P S).2.seen=cview S img a.num 0 from hA.head]
 split
 ·rename_i e4;unfold ZbY;rw [hf.obj,hf.newest,hf.snap e4,show (true&&true&&true)=true from rfl,Zc1 h.on,Za (by simp),hap,Zea];refine Zcn fun h0=>?_;have hA:=haf h0;have hb:backL (execS P S).2 img a.num a.snap=(valO (cview S img) (Zj S ⟨4,img⟩) a.num a.snap).getD []:=by
   rw [ZoF hA.live hU hhead,hA.val]
  rw [hb,ZjU hA.live hU hf.head (ZjV h _ _ _),show get (dK img a.num 0) (execS P S).2.seen=cview S img a.num 0 from hA.head]
 ·rfl
def U17:List K4:=(List.range 128).map fun i=>dK ((i / 64:Nat):Int) ((i / 16 % 4:Nat):Int) ((i % 16:Nat):Int)
theorem Zla {U:List K4} {k:K4} (hk:k ∈ U) {o:Option TS} {p:List Int} (hp:p.length<=64):∀ s ∈ turnP k o p,ZcN U s:=by
 have hw:cowD (Z5 0 p):=.inr (.inr (.inl ⟨rfl,Zck _,by show (0:Int)+p.length<=64;omega⟩));intro s hs;unfold turnP at hs;split at hs
 ·split at hs
  ·simp at hs;subst hs;exact ⟨hk,.inr (.inl rfl)⟩
  ·cases hs
 ·split at hs
  ·simp at hs;rcases hs with rfl|rfl
   ·exact ⟨hk,.inl rfl⟩
   ·exact ⟨hk,hw⟩
  ·split at hs
   ·simp at hs;rcases hs with rfl|rfl
    ·exact ⟨hk,.inr (.inr (.inr (.inl rfl)))⟩
    ·exact ⟨hk,hw⟩
   ·simp at hs;subst hs;exact ⟨hk,hw⟩
theorem Zgg {U:List K4} (V:CV) (img:Int) (marks:List Int):∀ (ks:List K4) (last below:Int),(∀ k ∈ ks,dK img k.num k.snap ∈ U)->∀ s ∈ tidyP V img marks ks last below,ZcN U s
 | [],_,_,_=>fun s hs=>by cases hs
 | k::ks,last,below,h=>by
  intro s hs;unfold tidyP at hs;simp only at hs;generalize (if k.num=last then below else 0)=bl at hs;have hr:=fun k' hk'=>h k' (Z8 _ hk');split at hs
  ·exact Zgg V img marks ks _ _ hr s hs
  ·split at hs
   ·exact Zgg V img marks ks _ _ hr s hs
   ·rcases ZO.1 hs with rfl|hs
    ·exact ⟨h k (Z0 ..),.inr (.inl rfl)⟩
    ·exact Zgg V img marks ks _ _ hr s hs
theorem Zqx {U:List K4} {S:Str} (h:Live U S) {img:Int} {a:A17} (ha:a.what=5∨Fine U img a):∀ s ∈ oursP (cview S img) (Zj S ⟨4,img⟩) img a,ZcN U s:=by
 intro s hs;unfold oursP at hs;by_cases e5:a.what=5
 ·rw [Za (by omega),Za (by omega),Za (by omega),Za (by omega),Za (by omega),Zb e5] at hs;refine Zgg _ _ _ _ _ _ (fun k hk=>?_) s hs;obtain ⟨h1,h2⟩:=Zdt h.inv.keys hk;obtain ⟨t,ht⟩:=ZdK.1 h2;rw [<-h1];exact h.inv.getU ht
 have hf:=ha.resolve_left e5;have hah:=ZkD h (img:=img) (num:=a.num) hf.copy (Zj S ⟨4,img⟩);split at hs
 ·rename_i e0;have hw:=hf.span.1 e0;unfold ZG at hw;rw [Ze] at hw;have hd:cowD (Z5 a.off a.p):=.inr (.inr (.inl ⟨rfl,hw.1,by show a.off+a.p.length<=64;omega⟩));split at hs
  ·cases hs
  ·rcases ZY.1 hs with q|q
   ·exact hah s q
   ·unfold layP at q;split at q
    ·simp at q;subst q;exact ⟨hf.head,hd⟩
    ·simp at q;rcases q with rfl|rfl
     ·exact ⟨hf.head,.inl rfl⟩
     ·exact ⟨hf.head,hd⟩
 split at hs
 ·rename_i e1;have hw:=hf.span.2.1 e1;unfold ZG at hw;rw [Ze] at hw;split at hs
  ·cases hs
  ·rename_i t ht;rcases ZY.1 hs with q|q
   ·exact hah s q
   ·split at q
    ·cases q
    ·simp at q;subst q;refine ⟨hf.head,.inr (.inr (.inl ⟨rfl,hw.1,?_⟩))⟩;show a.off+((List.replicate (min a.n (t.b.length - a.off)).toNat (0:Int)).length:Int)<=64;rw [Za7];omega
 split at hs
 ·split at hs
  ·cases hs
  ·split at hs
   ·cases hs
   ·rcases ZY.1 hs with q|q
    ·exact hah s q
    ·simp at q;subst q;split
     ·exact ⟨hf.head,.inr (.inl rfl)⟩
     ·exact ⟨hf.head,.inr (.inr (.inr (.inl rfl)))⟩
 split at hs
 ·rename_i e3;have hw:=hf.span.2.2.2 e3;unfold ZG at hw;rw [Ze] at hw;rcases ZY.1 hs with q|q
  ·exact hah s q
  ·exact Zla hf.head (by omega) s q
 split at hs
 ·rcases ZY.1 hs with q|q
  ·exact hah s q
  ·exact Zla hf.head (ZjV h _ _ _) s q
 ·cases hs
structure Calm17 (S:Str):Prop where
 live:Live U17 S
 calm:S.armed=false
def ZqQ (img:Int):DStep->Prop
 | .deed k _=>k.img=img
 | .bar=>True
theorem ZhC (V:CV) (img:Int) (marks:List Int):∀ (ks:List K4) (last below:Int),∀ s ∈ tidyP V img marks ks last below,ZqQ img s
 | [],_,_=>fun s hs=>by cases hs
 | k::ks,last,below=>by
  intro s hs;unfold tidyP at hs;simp only at hs;generalize (if k.num=last then below else 0)=bl at hs;split at hs
  ·exact ZhC V img marks ks _ _ s hs
  ·split at hs
   ·exact ZhC V img marks ks _ _ s hs
   ·rcases ZO.1 hs with rfl|hs
    ·rfl
    ·exact ZhC V img marks ks _ _ s hs
def Zem:DStep->Prop
 | .deed k _=>k.kind=4
 | .bar=>True
theorem ZoG (V:CV) (img num newest:Int):∀ s ∈ saveP V img num newest,Zem s:=by
 intro s hs;unfold saveP at hs;rcases ZY.1 hs with q|q
 ·split at q
  ·simp at q;subst q;rfl
  ·cases q
 ·rcases ZO.1 q with rfl|q
  ·rfl
  ·rcases ZY.1 q with q|q
   ·split at q
    ·simp at q;subst q;rfl
    ·cases q
   ·rcases ZO.1 q with rfl|q
    ·rfl
    ·simp at q;subst q;trivial
theorem Znj (V:CV) (ks:List K4) (img num newest:Int):∀ s ∈ Za2 V ks img num newest,Zem s:=by
 unfold Za2;split
 ·intro s hs;cases hs
 ·exact ZoG V img num newest
theorem ZjX {k:K4} (hk:k.kind=4) (o:Option TS) (p:List Int):∀ s ∈ turnP k o p,Zem s:=by
 intro s hs;unfold turnP at hs;split at hs
 ·split at hs
  ·simp at hs;subst hs;exact hk
  ·cases hs
 ·split at hs
  ·simp at hs;rcases hs with rfl|rfl <;> exact hk
  ·split at hs
   ·simp at hs;rcases hs with rfl|rfl <;> exact hk
   ·simp at hs;subst hs;exact hk
theorem ZfT (V:CV) (img:Int) (marks:List Int):∀ (ks:List K4) (last below:Int),∀ s ∈ tidyP V img marks ks last below,Zem s
 | [],_,_=>fun s hs=>by cases hs
 | k::ks,last,below=>by
  intro s hs;unfold tidyP at hs;simp only at hs;generalize (if k.num=last then below else 0)=bl at hs;split at hs
  ·exact ZfT V img marks ks _ _ s hs
  ·split at hs
   ·exact ZfT V img marks ks _ _ s hs
   ·rcases ZO.1 hs with rfl|hs
    ·rfl
    ·exact ZfT V img marks ks _ _ s hs
theorem ZoH (V:CV) (ks:List K4) (img:Int) (a:A17):∀ s ∈ oursP V ks img a,Zem s:=by
 intro s hs;have hah:=Znj V ks img a.num a.newest;unfold oursP at hs;split at hs
 ·split at hs
  ·cases hs
  ·rcases ZY.1 hs with q|q
   ·exact hah s q
   ·unfold layP at q;split at q
    ·simp at q;subst q;rfl
    ·simp at q;rcases q with rfl|rfl <;> rfl
 split at hs
 ·split at hs
  ·cases hs
  ·rcases ZY.1 hs with q|q
   ·exact hah s q
   ·split at q
    ·cases q
    ·simp at q;subst q;rfl
 split at hs
 ·split at hs
  ·cases hs
  ·split at hs
   ·cases hs
   ·rcases ZY.1 hs with q|q
    ·exact hah s q
    ·simp at q;subst q;split <;> rfl
 split at hs
 ·rcases ZY.1 hs with q|q
  ·exact hah s q
  ·exact ZjX rfl _ _ s q
 split at hs
 ·rcases ZY.1 hs with q|q
  ·exact hah s q
  ·exact ZjX rfl _ _ s q
 split at hs
 ·exact ZfT V img a.ms ks _ _ s hs
 ·cases hs
def Zrc (img:Int) (S T:Str):Prop:=∀ k:K4,k.kind=4->k.img=img->get k S.seen=get k T.seen
theorem ZoI {U:List K4} {S:Str} (h:Live U S) (hU:UOK U) {img num snap off n:Int} (hm:(objB img num&&snapB snap&&ZG off n)=true) :
  ZbO S img num snap off n=(padB ((valO (cview S img) (Zj S ⟨4,img⟩) num snap).getD []) off.toNat n.toNat,0):=by
 have hob:objB img num=true:=by
  simp only [Zak] at hm;exact hm.1.1
 have hh:(dK img num 0).ok=true:=by
  unfold objB at hob;rw [Ze] at hob;unfold dK K4.ok;simp only [Ze];omega
 obtain ⟨h1,h2⟩:=ZhV h hU (snap:=snap) hh;unfold ZbO;rw [hm,Zc1 h.on,Za (by simp)];cases hb:(atS S img num snap).2 with
 | true=>rw [Zb rfl,(h2 hb).1]
 | false =>
  rw [hb] at h1;rw [Za (by simp)];cases hv:valO (cview S img) (Zj S ⟨4,img⟩) num snap with
  | none=>rfl
  | some b=>rw [hv] at h1;simp at h1
def prevL (l:List Int) (n:Int):Int:=((l.filter fun x=>decide (x<n)).getLast?).getD 0
def Zc4 (V:CV) (ks:List K4) (k:K4):List K4:=ks.filter fun a=>(decide (a.num=k.num∧a.snap≠0)&&Z7 (V a.num a.snap))&&a.lt k
def pbK (V:CV) (ks:List K4) (last below:Int) (k:K4):Int:=((Zc4 V ks k).getLast?.map (·.snap)).getD (if k.num=last then below else 0)
theorem getLast_cons {α:Type} (a:α) (l:List α):(a::l).getLast?=some (l.getLast?.getD a):=by
 cases h:l.getLast? with
 | none=>rw [ZlC] at h;subst h;rfl
 | some x =>
  obtain ⟨l',rfl⟩:=ZlD.1 h;rw [<-ZZ,List.getLast?_concat];rfl
theorem Zjc (V:CV) (img:Int) (m:List Int):∀ (ks:List K4) (last below:Int),Za6 ks->(∀ k ∈ ks,k=dK img k.num k.snap∧last<=k.num) ->
  ∀ s,s ∈ tidyP V img m ks last below↔∃ k ∈ ks,s=.deed k goneD∧k.snap≠0∧¬ (Z7 (V k.num k.snap)=true∧seenB m (pbK V ks last below k) k.snap=true)
 | [],_,_,_,_,s=>⟨fun h=>(by cases h),fun ⟨k,hk,_⟩=>(by cases hk)⟩
 | a::ks,last,below,hr,hks,s=>by
  have hr':=ZcU.1 hr;obtain ⟨ha1,ha2⟩:=hks a (Z0 ..);have hnum:∀ k ∈ ks,a.num<=k.num:=fun k hk=>by
   have h1:=hr'.1 k hk;obtain ⟨q1,_⟩:=hks k (Z8 _ hk);rw [ha1,q1] at h1;simp only [dK,K4.lt,Ze] at h1;omega
  obtain ⟨bl,hbl⟩:∃ bl,(if a.num=last then below else 0)=bl:=⟨_,rfl⟩;have hpa:pbK V (a::ks) last below a=bl:=by
   unfold pbK;have:Zc4 V (a::ks) a=[]:=by
    unfold Zc4;rw [Zd2];intro x hx;rcases ZO.1 hx with rfl|hx
    ·rw [ZfD];simp
    ·rw [Zoo (hr'.1 x hx)];simp
   rw [this];exact hbl
  obtain ⟨bl',hbl'⟩:∃ bl',(if a.snap=0 then bl else if Z7 (V a.num a.snap)=true then a.snap else bl)=bl':=⟨_,rfl⟩;have hpk:∀ k ∈ ks,pbK V (a::ks) last below k=pbK V ks a.num bl' k:=fun k hk=>by
   have hak:=hr'.1 k hk;have hkl:=(hks k (Z8 _ hk)).2;have hkn:=hnum k hk;unfold pbK;have e:Zc4 V (a::ks) k=if (decide (a.num=k.num∧a.snap≠0)&&Z7 (V a.num a.snap))=true then a::Zc4 V ks k else Zc4 V ks k:=by
    unfold Zc4;rw [ZaM,hak,Bool.and_true]
   rw [e];by_cases hin:(decide (a.num=k.num∧a.snap≠0)&&Z7 (V a.num a.snap))=true
   ·rw [Zb hin,getLast_cons];simp only [Zak,Ze] at hin;obtain ⟨⟨h1,h2⟩,h3⟩:=hin;rw [Za h2,Zb h3] at hbl';subst hbl';cases (Zc4 V ks k).getLast? with
    | none=>simp [h1]
    | some x=>simp
   ·rw [Za hin];congr 1;by_cases h1:a.num=k.num
    ·have hb:bl'=bl:=by
      rw [<-hbl'];by_cases h2:a.snap=0
      ·rw [Zb h2]
      ·rw [Za h2,Za (fun h3=>hin (by rw [h3,Bool.and_true,Ze];exact ⟨h1,h2⟩))]
     rw [hb,<-hbl,h1,Zb rfl]
    ·rw [Za (show ¬ k.num=last by omega),Za (fun q=>h1 q.symm)]
  have ih:=Zjc V img m ks a.num bl' hr'.2 (fun k hk=>⟨(hks k (Z8 _ hk)).1,hnum k hk⟩) s;have hex:(∃ k ∈ ks,s=.deed k goneD∧k.snap≠0∧¬ (Z7 (V k.num k.snap)=true∧seenB m (pbK V (a::ks) last below k) k.snap=true))↔s ∈ tidyP V img m ks a.num bl':=by
   rw [ih];constructor
   ·rintro ⟨k,hk,h1,h2,h3⟩;exact ⟨k,hk,h1,h2,by rw [<-hpk k hk];exact h3⟩
   ·rintro ⟨k,hk,h1,h2,h3⟩;exact ⟨k,hk,h1,h2,by rw [hpk k hk];exact h3⟩
  have hun:tidyP V img m (a::ks) last below=if a.snap=0 then tidyP V img m ks a.num bl else if Z7 (V a.num a.snap)=true∧seenB m bl a.snap=true then tidyP V img m ks a.num a.snap
   else .deed (dK img a.num a.snap) goneD::tidyP V img m ks a.num (if Z7 (V a.num a.snap)=true then a.snap else bl):=by rw [<-hbl];rfl
  rw [hun,<-ha1];have hsplit:(∃ k ∈ a::ks,s=.deed k goneD∧k.snap≠0∧¬ (Z7 (V k.num k.snap)=true∧seenB m (pbK V (a::ks) last below k) k.snap=true)) ↔
    (s=.deed a goneD∧a.snap≠0∧¬ (Z7 (V a.num a.snap)=true∧seenB m bl a.snap=true))∨s ∈ tidyP V img m ks a.num bl':=by
   rw [<-hex];constructor
   ·rintro ⟨k,hk,h⟩;rcases ZO.1 hk with rfl|hk
    ·rw [hpa] at h;exact .inl h
    ·exact .inr ⟨k,hk,h⟩
   ·rintro (h|⟨k,hk,h⟩)
    ·exact ⟨a,Z0 ..,by rw [hpa];exact h⟩
    ·exact ⟨k,Z8 _ hk,h⟩
  rw [hsplit];by_cases h0:a.snap=0
  ·rw [Zb h0] at hbl' |-;subst hbl';constructor
   ·exact .inr
   ·rintro (h|h)
    ·exact absurd h0 h.2.1
    ·exact h
  ·rw [Za h0] at hbl' |-;by_cases hc:Z7 (V a.num a.snap)=true∧seenB m bl a.snap=true
   ·rw [Zb hc.1] at hbl';subst hbl';rw [Zb hc];constructor
    ·exact .inr
    ·rintro (h|h)
     ·exact absurd hc h.2.2
     ·exact h
   ·rw [Za hc,hbl',ZO];constructor
    ·rintro (h|h)
     ·exact .inl ⟨h,h0,hc⟩
     ·exact .inr h
    ·rintro (h|h)
     ·exact .inl h.1
     ·exact .inr h
theorem Zit:∀ {l:List DStep} {W:K4->Option TS},(∀ s ∈ l,∃ k,s=.deed k goneD)->∀ k,(.deed k goneD ∈ l->ZaR l W k=none)∧(.deed k goneD ∉ l->ZaR l W k=W k)
 | [],W,_,k=>⟨fun h=>(by cases h),fun _=>rfl⟩
 | s::l,W,h,k=>by
  obtain ⟨k',rfl⟩:=h _ (Z0 ..);obtain ⟨h1,h2⟩:=Zit (l:=l) (W:=ZbB (.deed k' goneD) W) (fun t ht=>h t (Z8 _ ht)) k;show (_->ZaR l (ZbB (.deed k' goneD) W) k=_)∧(_->ZaR l (ZbB (.deed k' goneD) W) k=_);have hv:ZbB (.deed k' goneD) W k=if k=k' then none else W k:=by
   show (if k=k' then stepD (W k') goneD else W k)=_;rfl
  by_cases hm:DStep.deed k goneD ∈ l
  ·exact ⟨fun _=>h1 hm,fun hn=>absurd (Z8 _ hm) hn⟩
  ·rw [h2 hm,hv];by_cases hk:k=k'
   ·subst hk;exact ⟨fun _=>Zb rfl,fun hn=>absurd (Z0 ..) hn⟩
   ·rw [Za hk];refine ⟨fun hn=>?_,fun _=>rfl⟩;rcases ZO.1 hn with q|q
    ·exact absurd (DStep.deed.inj q).1 hk
    ·exact absurd q hm
theorem Zlb {S:Str} (h:KeysOK S) (V:CV) {img:Int} {k:K4} (hk:k=dK img k.num k.snap) (hn:k.num≠-1) :
  pbK V (Zj S ⟨4,img⟩) (-1) 0 k=prevL (Za0 V (Zj S ⟨4,img⟩) k.num) k.snap:=by
 unfold pbK prevL Za0 Zc4;rw [Za hn];congr 1;have e:(Zj S ⟨4,img⟩).filter (fun a=>(decide (a.num=k.num∧a.snap≠0)&&Z7 (V a.num a.snap))&&a.lt k) =
   ((Zj S ⟨4,img⟩).filter fun a=>decide (a.num=k.num∧a.snap≠0)&&Z7 (V a.num a.snap)).filter fun a=>decide (a.snap<k.snap):=by
  rw [ZdY];refine Zd6 fun a ha=>?_;obtain ⟨q,_⟩:=Zdt h ha;have e4:a.lt k=decide (a.num<k.num∨(a.num=k.num∧a.snap<k.snap)):=by
   have:a.lt k=(dK img a.num a.snap).lt (dK img k.num k.snap):=by rw [<-q,<-hk]
   rw [this];unfold K4.lt dK;rw [decide_eq_decide];simp
  rw [e4,Zai];simp only [Zak,Ze];constructor
  ·rintro ⟨⟨⟨h1,h2⟩,h3⟩,h4⟩;exact ⟨by omega,⟨h1,h2⟩,h3⟩
  ·rintro ⟨h4,⟨h1,h2⟩,h3⟩;exact ⟨⟨⟨h1,h2⟩,h3⟩,by omega⟩
 rw [e,ZcP,List.getLast?_map];rfl
def tidyA (m:List Int):A17:=⟨5,0,0,0,0,0,[],slice none 0 0,m,slice none 0 0⟩
structure Tidied (S S':Str) (m:List Int):Prop where
 calm:Calm17 S'
 head:∀ num,cview S' 0 num 0=cview S 0 num 0
 kept:∀ num n,0<=num->n≠0->cview S' 0 num n=if Z7 (cview S 0 num n)=true∧seenB m (prevL (Za0 (cview S 0) (Zj S ⟨4,0⟩) num) n) n=true then cview S 0 num n else none
def Only0 (S:Str):Prop:=∀ k:K4,k.img≠0->get k S.seen=none
def OkO (v:Option (List Int)) (o:Option TS):Prop:=Z7 o=true->bodyV o=v
structure AllOk (S:Str) (k:K4) (v:Option (List Int)):Prop where
 left:∀ n torn,OkO v (leftS S k n torn).1
 seen:OkO v (get k S.seen)
structure Firm (S:Str) (k:K4) (o:Option TS):Prop where
 late:lateAt S k=[]
 dry:get k S.dry=o
 seen:get k S.seen=o
structure HeadC (S:Str) (mark num:Int) (v:Option (List Int)):Prop where
 t:∃ t,Firm S (dK 0 num 0) t∧t.map (·.b)=v
 ok:∀ n,mark<=n->AllOk S (dK 0 num n) v
structure CopyC (S:Str) (mark num:Int) (v:Option (List Int)) (c:Int):Prop where
 le:mark<=c
 t:∃ t,Firm S (dK 0 num c) t∧Z7 t=true∧bodyV t=v
 ok:∀ n,mark<=n->n<c->AllOk S (dK 0 num n) v
def OldN (S:Str) (mark num:Int) (v:Option (List Int)):Prop:=HeadC S mark num v∨∃ c,CopyC S mark num v c
structure HeadX (S:Str) (mark num:Int) (v:Option (List Int)) (x:Int):Prop where
 head:HeadC S mark num v
 none:∀ n,mark<=n->n≠x->Z7 (get (dK 0 num n) S.seen)=false
structure CopyN (S:Str) (mark num:Int) (v:Option (List Int)) (c:Int):Prop where
 copy:CopyC S mark num v c
 none:∀ n,mark<=n->n<c->Z7 (get (dK 0 num n) S.seen)=false
def Rest (S:Str) (mark num:Int) (v:Option (List Int)):Prop:=HeadX S mark num v 0∨∃ c,CopyN S mark num v c
def Olds (S:Str) (mark:Int) (v:Int->Option (List Int)):Prop:=∀ num,Rest S mark num (v num)
def Zrd (S:Str) (mark:Int) (v:Int->Option (List Int)) (num0:Int):Prop:=∀ num,num≠num0->Rest S mark num (v num)
def wrP (k:K4) (t:Option TS):List DStep:=match t with
 | some t=>[.deed k (Z5 0 t.b)]
 | none=>[]
theorem ZjY {k:K4} {o:Option TS} {p:List Int}:∀ s ∈ turnP k o p,∃ d,s=.deed k d:=by
 intro s hs;unfold turnP at hs;split at hs
 ·split at hs
  ·simp at hs;exact ⟨_,hs⟩
  ·cases hs
 ·split at hs
  ·simp at hs;rcases hs with q|q <;> exact ⟨_,q⟩
  ·split at hs
   ·simp at hs;rcases hs with q|q <;> exact ⟨_,q⟩
   ·simp at hs;exact ⟨_,hs⟩
end Go.Proofs.YtcbdghojlbpomaaGreat
