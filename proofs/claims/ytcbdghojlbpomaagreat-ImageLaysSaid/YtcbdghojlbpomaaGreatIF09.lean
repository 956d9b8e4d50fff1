import Derived.Test.YtcbdghojlbpomaaGreatIF08
set_option linter.all false
set_option maxRecDepth 4000
set_option maxHeartbeats 8000000
open Go.RowKit
open Go.IntKind (i64 u64)
open Go.Value (int pointer slice)
open Go.Obj (cells)
namespace Go.Proofs.YtcbdghojlbpomaaGreat
open Tryz
open HP (pt mapOf)
variable {W w w':World} {I:Hp} {l:List HP}
structure RO where
 h:Option (List Int)
 cs:List (Int × Option (List Int))
def ratR (o:RO) (snap:Int):Option (List Int) :=
 if 0<snap then (match o.cs.find? fun c=>decide (snap<=c.1) with|some c=>c.2|none=>o.h) else o.h
def needR (cs:List (Int × Option (List Int))) (newest:Int):Bool:=decide (0<newest)&&(match cs.getLast? with|none=>true|some c=>decide (c.1<newest))
def ZbM (o:RO) (newest:Int) (b:Option (List Int)):RO:=⟨b,if needR o.cs newest=true then o.cs++[(newest,o.h)] else o.cs⟩
def Zdy (o:RO) (newest off:Int) (p:List Int):RO:=if p=[] then o else ZbM o newest (some (layB (o.h.getD []) off.toNat p))
def Zdz (d:List Int) (off n:Int):List Int:=if min n (d.length - off)<1 then d else layB d off.toNat (List.replicate (min n (d.length - off)).toNat 0)
def ZdW (o:RO) (newest off n:Int):RO:=match o.h with
 | none=>o
 | some d=>ZbM o newest (some (Zdz d off n))
def rcut (o:RO) (newest size:Int):RO:=match o.h with
 | none=>o
 | some d=>if 0<size∧(d.length:Int)<=size then o else ZbM o newest (if size=0 then none else some (d.take size.toNat))
def rlay (o:RO) (newest:Int) (p:List Int):RO:=ZbM o newest (if p=[] then none else some p)
def rback (o:RO) (newest snap:Int):RO:=ZbM o newest (ratR o snap)
def tidyR (m:List Int):List (Int × Option (List Int))->Int->List (Int × Option (List Int))
 | [],_=>[]
 | c::cs,below=>if seenB m below c.1=true then c::tidyR m cs c.1 else tidyR m cs c.1
def actO (o:RO) (a:A17):RO :=
 if a.what=0 then Zdy o a.newest a.off a.p
 else if a.what=1 then ZdW o a.newest a.off a.n
 else if a.what=2 then rcut o a.newest a.n
 else if a.what=3 then rlay o a.newest a.p
 else if a.what=4 then rback o a.newest a.snap
 else o
def Zrk (R:List RO) (a:A17):List RO :=
 if a.what=5 then R.map fun o=>⟨o.h,tidyR a.ms o.cs 0⟩
 else if a.num<0∨(R.length:Int)<=a.num then R
 else match R[a.num.toNat]? with
  | some o=>R.set a.num.toNat (actO o a)
  | none=>R
structure ObjV (V:CV) (i:Int) (o:RO):Prop where
 head:(V i 0).map (·.b)=o.h
 inc:Inc (o.cs.map (·.1))
 pos:∀ c ∈ o.cs,0<c.1
 mem:∀ n,n≠0->(Z7 (V i n)=true↔n ∈ o.cs.map (·.1))
 val:∀ c ∈ o.cs,bodyV (V i c.1)=c.2
 nz:o.h≠some []∧∀ c ∈ o.cs,c.2≠some []
theorem ObjV.congr {V V':CV} {i:Int} {o:RO} (h:ObjV V i o) (e:∀ n,V' i n=V i n):ObjV V' i o :=
 ⟨by rw [e];exact h.head,h.inc,h.pos,fun n hn=>by rw [e];exact h.mem n hn,fun c hc=>by rw [e];exact h.val c hc,h.nz⟩
theorem ObjV.copies {S:Str} (hk:KeysOK S) {i:Int} {o:RO} (h:ObjV (cview S 0) i o):Za0 (cview S 0) (Zj S ⟨4,0⟩) i=o.cs.map (·.1):=by
 refine Zh0 (ZfH hk _ _ _) h.inc fun x=>?_;rw [ZfG hk];constructor
 ·rintro ⟨h1,h2⟩;exact (h.mem x h1).1 h2
 ·intro hx;obtain ⟨c,hc,rfl⟩:=ZH.1 hx;have:=h.pos c hc;exact ⟨by omega,(h.mem _ (by omega)).2 hx⟩
theorem ObjV.at {S:Str} (hk:KeysOK S) {i:Int} {o:RO} (h:ObjV (cview S 0) i o) (snap:Int):valO (cview S 0) (Zj S ⟨4,0⟩) i snap=ratR o snap:=by
 unfold valO ratR;rw [h.copies hk,List.find?_map];by_cases hs:0<snap
 ·rw [Zb hs,Zb hs];show (match (o.cs.find? fun c=>decide (snap<=c.1)).map (·.1) with|some n=>bodyV (cview S 0 i n)|none=>_)=_;cases hf:o.cs.find? fun c=>decide (snap<=c.1) with
  | none=>exact h.head
  | some c=>exact h.val c (Zd7 hf)
 ·rw [Za hs,Za hs];exact h.head
theorem Ziz {o:RO} {newest:Int} (h0:0<=newest):(newest=0∨ZcI (o.cs.map (·.1)) newest=true)↔needR o.cs newest=false:=by
 unfold ZcI needR;rw [List.getLast?_map];cases o.cs.getLast? with
 | none=>simp;omega
 | some c=>simp;omega
theorem Zf6 {o:RO} (hi:Inc (o.cs.map (·.1))) {newest:Int} (h:needR o.cs newest=true):0<newest∧∀ c ∈ o.cs,c.1<newest:=by
 unfold needR at h;rw [Zak,Ze] at h;refine ⟨h.1,fun c hc=>?_⟩;have h2:=h.2;cases hl:o.cs.getLast? with
 | none=>rw [ZlC] at hl;rw [hl] at hc;cases hc
 | some x =>
  rw [hl] at h2;simp only [Ze] at h2;obtain ⟨l',hl'⟩:=ZlD.1 hl;rw [hl'] at hc hi;rcases ZY.1 hc with q|q
  ·rw [Z4] at hi;have:=(Zd4.1 hi).2.2 c.1 (Zbz q) x.1 (by simp);omega
  ·simp at q;subst q;exact h2
theorem ObjV.change {V V':CV} {i newest:Int} {o:RO} (h:ObjV V i o) {b:Option (List Int)} (hb:(V' i 0).map (·.b)=b) (hz:b≠some [])
  (hv:∀ n,n≠0->V' i n=if needR o.cs newest=true∧n=newest then some (copyT (V i 0)) else V i n):ObjV V' i (ZbM o newest b):=by
 unfold ZbM;cases hn:needR o.cs newest with
 | false =>
  rw [Za (by simp)];have e:∀ n,n≠0->V' i n=V i n:=fun n h0=>by rw [hv n h0,Za (by simp [hn])]
  exact ⟨hb,h.inc,h.pos,fun n h0=>by rw [e n h0];exact h.mem n h0,fun c hc=>by rw [e _ (by have:=h.pos c hc;omega)];exact h.val c hc,hz,h.nz.2⟩
 | true =>
  rw [Zb rfl];obtain ⟨h1,h2⟩:=Zf6 h.inc hn;have e1:V' i newest=some (copyT (V i 0)):=by rw [hv _ (by omega),Zb ⟨hn,rfl⟩]
  have e2:∀ n,n≠0->n≠newest->V' i n=V i n:=fun n h0 hne=>by rw [hv n h0,Za (fun q=>hne q.2)]
  refine ⟨hb,?_,fun c hc=>?_,fun n h0=>?_,fun c hc=>?_,hz,fun c hc=>?_⟩
  ·rw [Z4];refine Zd4.2 ⟨h.inc,Zgs _ _,fun x hx y hy=>?_⟩;obtain ⟨c,hc,rfl⟩:=ZH.1 hx;simp at hy;subst hy;exact h2 c hc
  ·rcases ZY.1 hc with q|q
   ·exact h.pos c q
   ·simp at q;subst q;exact h1
  ·rw [Z4,ZY];by_cases hne:n=newest
   ·subst hne;rw [e1,Zg3];simp
   ·rw [e2 n h0 hne,h.mem n h0];simp [hne]
  ·rcases ZY.1 hc with q|q
   ·rw [e2 _ (by have:=h.pos c q;omega) (by have:=h2 c q;omega)];exact h.val c q
   ·simp at q;subst q;rw [e1,ZjS];exact h.head
  ·rcases ZY.1 hc with q|q
   ·exact h.nz.2 c q
   ·simp at q;subst q;exact h.nz.1
theorem ZiO {k0:K4}:∀ {l:List DStep} {V:K4->Option TS},(∀ s ∈ l,∃ d,s=.deed k0 d)->∀ k,k≠k0->ZaR l V k=V k
 | [],_,_,_,_=>rfl
 | s::l,V,h,k,hk=>by
  obtain ⟨d,rfl⟩:=h _ (Z0 ..);show ZaR l (ZbB (.deed k0 d) V) k=V k;rw [ZiO (fun t ht=>h t (Z8 _ ht)) k hk];show (if k=k0 then _ else V k)=V k;rw [Za hk]
theorem Znk {S:Str} (hk:KeysOK S) {num newest:Int} {o:RO} (h:ObjV (cview S 0) num o) (h0:0<=newest) {l2:List DStep} (hl:∀ s ∈ l2,∃ d,s=.deed (dK 0 num 0) d) :
  (∀ k,k≠dK 0 num 0->ZaR (Za2 (cview S 0) (Zj S ⟨4,0⟩) 0 num newest++l2) (ZaX S) k=if needR o.cs newest=true∧k=dK 0 num newest then some (copyT (cview S 0 num 0)) else ZaX S k) ∧
  ZaR (Za2 (cview S 0) (Zj S ⟨4,0⟩) 0 num newest++l2) (ZaX S) (dK 0 num 0)=ZaR l2 (fun k=>if k=dK 0 num 0 then cview S 0 num 0 else ZaR (Za2 (cview S 0) (Zj S ⟨4,0⟩) 0 num newest) (ZaX S) k) (dK 0 num 0):=by
 have hah:∀ k,ZaR (Za2 (cview S 0) (Zj S ⟨4,0⟩) 0 num newest) (ZaX S) k=if needR o.cs newest=true∧k=dK 0 num newest then some (copyT (cview S 0 num 0)) else ZaX S k:=fun k=>by
  unfold Za2;rw [h.copies hk];cases hn:needR o.cs newest with
  | false =>
   rw [Zb ((Ziz h0).2 hn),Za (by simp)];rfl
  | true =>
   have hne:=(Zf6 h.inc hn).1;rw [Za (fun q=>by rw [(Ziz h0).1 q] at hn;cases hn),ZjT (ZaX S) (cview S 0) 0 num newest (fun _ _=>rfl) (by omega)];by_cases e:k=dK 0 num newest
   ·rw [Zb ⟨rfl,e⟩];exact Zb e
   ·rw [Za (fun q=>e q.2)];exact Za e
 refine ⟨fun k hk0=>?_,?_⟩
 ·rw [ZgA,ZiO hl k hk0];exact hah k
 ·rw [ZgA];congr 1;funext k;by_cases e:k=dK 0 num 0
  ·rw [Zb e,e,hah,Za]
   ·rfl
   ·rintro ⟨q1,q2⟩;have:=(Zf6 h.inc q1).1;have:=(Zri.1 q2).2;omega
  ·rw [Za e]
theorem Zhm {b p:List Int} (h:b.length<=p.length):layB b 0 p=p:=by
 unfold layB;by_cases e:p=[]
 ·subst e;rw [Zb rfl];exact ZbZ (by simpa using h)
 ·rw [Za e,ZcS (by omega)];simp
theorem Zqy {b p:List Int} {off:Nat} (h:p≠[]):layB b off p≠[]:=by
 unfold layB;rw [Za h];simp [h]
theorem Zdr {b p:List Int} {off:Nat} (h:off+p.length<=b.length):(layB b off p).length=b.length:=by
 unfold layB;split
 ·rfl
 ·rw [ZA,ZA,ZN,ZA,Za7,Zas];omega
theorem Zjd (d:List Int) {off n:Int} (h0:0<=off):(Zdz d off n).length=d.length:=by
 unfold Zdz;split
 ·rfl
 ·exact Zdr (by rw [Za7];omega)
theorem ZpN {k:K4} {o:Option TS} {W:K4->Option TS} (hW:W k=o) {off:Int} {p:List Int}:(ZaR (layP k o off p) W k).map (·.b)=some (layB ((o.map (·.b)).getD []) off.toNat p):=by
 unfold layP;cases o with
 | none =>
  show ((if k=k then stepD (if k=k then stepD (W k) madeD else W k) (Z5 off p) else _):Option TS).map (·.b)=_;rw [Zb rfl,Zb rfl];rfl
 | some t =>
  show ((if k=k then stepD (W k) (Z5 off p) else _):Option TS).map (·.b)=_;rw [Zb rfl,hW];rfl
theorem Zje {k:K4} {o:Option TS} {W:K4->Option TS} (hW:W k=o) {p:List Int}:(ZaR (turnP k o p) W k).map (·.b)=if p=[] then none else some p:=by
 unfold turnP;by_cases e:p=[]
 ·rw [Zb e,Zb e];cases o with
  | none =>
   show (W k).map (·.b)=none;rw [hW];rfl
  | some t =>
   show ((if k=k then stepD (W k) goneD else _):Option TS).map (·.b)=_;rw [Zb rfl];rfl
 ·rw [Za e,Za e];cases o with
  | none =>
   show ((if k=k then stepD (if k=k then stepD (W k) madeD else W k) (Z5 0 p) else _):Option TS).map (·.b)=_;rw [Zb rfl,Zb rfl];show some (layB [] 0 p)=some p;rw [Zhm (by simp)]
  | some t =>
   simp only;split
   ·rename_i hlt;show ((if k=k then stepD (if k=k then stepD (W k) (cutD t p.length) else W k) (Z5 0 p) else _):Option TS).map (·.b)=_;rw [Zb rfl,Zb rfl,hW];show some (layB (t.b.take _) 0 p)=some p;rw [Zhm];rw [ZN];show min (min (max 0 (min (p.length:Int) t.b.length)).toNat t.b.length) t.b.length<=p.length;omega
   ·rename_i hlt;show ((if k=k then stepD (W k) (Z5 0 p) else _):Option TS).map (·.b)=_;rw [Zb rfl,hW];show some (layB t.b 0 p)=some p;rw [Zhm (by omega)]
theorem ZeZ {U:List K4} {S:Str} (hU:UOK U) (h:Live U S) (hc:S.armed=false) {a:A17} (ha:a.what=5∨Fine U 0 a) :
  (oursS S 0 a).1=0∧Live U (oursS S 0 a).2∧(oursS S 0 a).2.armed=false∧ZaX (oursS S 0 a).2=ZaR (oursP (cview S 0) (Zj S ⟨4,0⟩) 0 a) (ZaX S):=by
 have hin:=Zqx h ha;rw [ZjW h hU (by omega) ha];obtain ⟨h1,h2⟩:=ZjQ hU h hc hin;obtain ⟨h3,h4⟩:=ZhT hU h hin h1;exact ⟨h1,h3,h2,h4⟩
def okW (o:Option TS):Prop:=o=none∨Z7 o=true
theorem Ze7 {S S':Str} (hk:KeysOK S) {num newest:Int} {o:RO} (h:ObjV (cview S 0) num o) (h0:0<=newest) {l2:List DStep} (hl:∀ s ∈ l2,∃ d,s=.deed (dK 0 num 0) d)
  (hv:ZaX S'=ZaR (Za2 (cview S 0) (Zj S ⟨4,0⟩) 0 num newest++l2) (ZaX S)) {b:Option (List Int)} (hz:b≠some [])
  (hb:∀ W:K4->Option TS,W (dK 0 num 0)=cview S 0 num 0->(ZaR l2 W (dK 0 num 0)).map (·.b)=b) :
  ObjV (cview S' 0) num (ZbM o newest b)∧(∀ i n,i≠num->cview S' 0 i n=cview S 0 i n)∧∀ n,n≠0->okW (cview S 0 num n)->okW (cview S' 0 num n):=by
 obtain ⟨h1,h2⟩:=Znk hk h h0 hl;have e:∀ i n,cview S' 0 i n=ZaR (Za2 (cview S 0) (Zj S ⟨4,0⟩) 0 num newest++l2) (ZaX S) (dK 0 i n):=fun i n=>congrFun hv _;have hc:∀ n,n≠0->cview S' 0 num n=if needR o.cs newest=true∧n=newest then some (copyT (cview S 0 num 0)) else cview S 0 num n:=fun n hn=>by
  rw [e,h1 _ (fun q=>hn (Zri.1 q).2)];by_cases q:needR o.cs newest=true∧n=newest
  ·rw [Zb q,Zb ⟨q.1,by rw [q.2]⟩]
  ·rw [Za q,Za (fun r=>q ⟨r.1,(Zri.1 r.2).2⟩)];rfl
 refine ⟨h.change ?_ hz hc,fun i n hi=>?_,fun n hn hw=>?_⟩
 ·rw [e,h2];exact hb _ (Zb rfl)
 ·rw [e,h1 _ (fun q=>hi (Zri.1 q).1),Za (fun r=>hi (Zri.1 r.2).1)];rfl
 ·rw [hc n hn];split
  ·exact .inr (Zg3 _)
  ·exact hw
theorem at_nz {o:RO} (hz:o.h≠some []∧∀ c ∈ o.cs,c.2≠some []) (snap:Int):ratR o snap≠some []:=by
 unfold ratR;split
 ·split
  ·rename_i c hc;exact hz.2 c (Zd7 hc)
  ·exact hz.1
 ·exact hz.1
theorem Zqz {U:List K4} {S:Str} (hU:UOK U) (h:Live U S) (hc:S.armed=false) {a:A17} {o:RO} (hO:ObjV (cview S 0) a.num o) (ha:Fine U 0 a) (h5:a.what≠5) :
  ObjV (cview (oursS S 0 a).2 0) a.num (actO o a)∧(∀ i n,i≠a.num->cview (oursS S 0 a).2 0 i n=cview S 0 i n)∧∀ n,n≠0->okW (cview S 0 a.num n)->okW (cview (oursS S 0 a).2 0 a.num n):=by
 obtain ⟨_,_,_,hv⟩:=ZeZ hU h hc (.inr ha);obtain ⟨S',hS'⟩:∃ S',(oursS S 0 a).2=S':=⟨_,rfl⟩;rw [hS'] at hv |-;have hkk:=h.inv.keys;have hnew:0<=a.newest:=by have:=ha.newest;unfold snapB at this;rw [Ze] at this;exact this.1
 have same:ZaX S'=ZaX S->ObjV (cview S' 0) a.num o∧(∀ i n,i≠a.num->cview S' 0 i n=cview S 0 i n)∧∀ n,n≠0->okW (cview S 0 a.num n)->okW (cview S' 0 a.num n):=fun e =>
  ⟨hO.congr fun n=>congrFun e _,fun i n _=>congrFun e _,fun n _ hw=>by
   have e2:cview S' 0 a.num n=cview S 0 a.num n:=congrFun e _
   rw [e2];exact hw⟩
 unfold oursP at hv;unfold actO;by_cases w0:a.what=0
 ·rw [Zb w0] at hv |-;unfold Zdy;by_cases ep:a.p=[]
  ·rw [Zb ep] at hv |-;exact same hv
  ·rw [Za ep] at hv |-;refine Ze7 hkk hO hnew (fun s hs=>?_) hv (fun q=>Zqy ep (Zb4 q)) fun W hW=>?_
   ·unfold layP at hs;split at hs
    ·simp at hs;exact ⟨_,hs⟩
    ·simp at hs;rcases hs with q|q <;> exact ⟨_,q⟩
   ·rw [ZpN hW,hO.head]
 ·rw [Za w0] at hv |-;by_cases w1:a.what=1
  ·rw [Zb w1] at hv |-;have hw:=ha.span.2.1 w1;unfold ZG at hw;rw [Ze] at hw;unfold ZdW;rw [<-hO.head];cases ht:cview S 0 a.num 0 with
   | none =>
    rw [ht] at hv;exact same hv
   | some t =>
    rw [ht] at hv;simp only [Zbb] at hv |-;have hnz:t.b≠[]:=fun q=>hO.nz.1 (by rw [<-hO.head,ht,Zbb,q]);refine Ze7 hkk hO hnew (fun s hs=>?_) hv (fun q=>?_) fun W hW=>?_
    ·split at hs
     ·cases hs
     ·simp at hs;exact ⟨_,hs⟩
    ·have:=Zjd t.b (off:=a.off) (n:=a.n) hw.1;rw [Zb4 q] at this;exact hnz (ZbZ (by simpa using this.symm))
    ·rw [ht] at hW;unfold Zdz;by_cases hm:min a.n (t.b.length - a.off)<1
     ·rw [Zb hm,Zb hm];show (W _).map (·.b)=_;rw [hW];rfl
     ·rw [Za hm,Za hm];show ((if dK 0 a.num 0=dK 0 a.num 0 then stepD (W _) _ else _):Option TS).map (·.b)=_;rw [Zb rfl,hW];rfl
  ·rw [Za w1] at hv |-;by_cases w2:a.what=2
   ·rw [Zb w2] at hv |-;have hw:=ha.span.2.2.1 w2;unfold ZG at hw;rw [Ze] at hw;unfold rcut;rw [<-hO.head];cases ht:cview S 0 a.num 0 with
    | none =>
     rw [ht] at hv;exact same hv
    | some t =>
     rw [ht] at hv;simp only [Zbb] at hv |-;by_cases hc2:0<a.n∧(t.b.length:Int)<=a.n
     ·rw [Zb hc2] at hv |-;exact same hv
     ·rw [Za hc2] at hv |-;have hnz:t.b≠[]:=fun q=>hO.nz.1 (by rw [<-hO.head,ht,Zbb,q]);have hl0:0<t.b.length:=ZeB.2 hnz;refine Ze7 hkk hO hnew (fun s hs=>?_) hv (fun q=>?_) fun W hW=>?_
      ·simp at hs;split at hs <;> exact ⟨_,hs⟩
      ·split at q
       ·cases q
       ·have:=congrArg List.length (Zb4 q);rw [ZN,ZaH] at this;omega
      ·rw [ht] at hW;by_cases hn0:a.n=0
       ·rw [Zb hn0,Zb hn0];show ((if dK 0 a.num 0=dK 0 a.num 0 then stepD (W _) goneD else _):Option TS).map (·.b)=_;rw [Zb rfl];rfl
       ·rw [Za hn0,Za hn0];show ((if dK 0 a.num 0=dK 0 a.num 0 then stepD (W _) (cutD t a.n) else _):Option TS).map (·.b)=_;rw [Zb rfl,hW];show some (t.b.take (min (max 0 (min a.n t.b.length)).toNat t.b.length))=some (t.b.take a.n.toNat);congr 2;omega
   ·rw [Za w2] at hv |-;by_cases w3:a.what=3
    ·rw [Zb w3] at hv |-;unfold rlay;refine Ze7 hkk hO hnew ZjY hv (fun q=>?_) fun W hW=>Zje hW;split at q
     ·cases q
     ·rename_i hne;exact hne (Zb4 q)
    ·rw [Za w3] at hv |-;by_cases w4:a.what=4
     ·rw [Zb w4] at hv |-;unfold rback;rw [hO.at hkk] at hv;have hz:=at_nz hO.nz a.snap;refine Ze7 hkk hO hnew ZjY hv hz fun W hW=>?_;rw [Zje hW];cases hr:ratR o a.snap with
      | none=>rfl
      | some d =>
       rw [hr] at hz;rw [ZeA,Za (fun q=>hz (by rw [q]))]
     ·rw [Za w4] at hv |-;rw [Za h5] at hv;exact same hv
def prevG (below:Int) (l:List Int) (n:Int):Int:=((l.filter fun x=>decide (x<n)).getLast?).getD below
theorem ZkF (m:List Int):∀ (cs:List (Int × Option (List Int))) (below:Int),Inc (cs.map (·.1))->tidyR m cs below=cs.filter fun c=>seenB m (prevG below (cs.map (·.1)) c.1) c.1
 | [],_,_=>rfl
 | c::cs,below,h=>by
  have h':=ZcU.1 (show List.Pairwise (· < ·) (c.1::cs.map (·.1)) from h);have e0:prevG below ((c::cs).map (·.1)) c.1=below:=by
   unfold prevG;have:((c::cs).map (·.1)).filter (fun x=>decide (x<c.1))=[]:=by
    rw [Zd2];intro x hx;rcases ZO.1 hx with rfl|hx
    ·simp
    ·have:=h'.1 x hx;simp;omega
   rw [this];rfl
  have e1:∀ d ∈ cs,prevG below ((c::cs).map (·.1)) d.1=prevG c.1 (cs.map (·.1)) d.1:=fun d hd=>by
   have hlt:=h'.1 d.1 (Zbz hd);unfold prevG;rw [Zav,ZaM,Zb (by simpa using hlt),getLast_cons];rfl
  rw [tidyR,ZkF m cs c.1 h'.2,ZaM,e0];have e2:(cs.filter fun d=>seenB m (prevG below ((c::cs).map (·.1)) d.1) d.1)=cs.filter fun d=>seenB m (prevG c.1 (cs.map (·.1)) d.1) d.1 :=
   Zd6 fun d hd=>by rw [e1 d hd]
  rw [e2]
theorem ZjZ {U:List K4} {S:Str} (hU:UOK U) (h:Live U S) (hc:S.armed=false) {a:A17} (ha:a.what=5) :
  (∀ num,cview (oursS S 0 a).2 0 num 0=cview S 0 num 0)∧∀ num n,0<=num->n≠0->cview (oursS S 0 a).2 0 num n=if Z7 (cview S 0 num n)=true∧seenB a.ms (prevL (Za0 (cview S 0) (Zj S ⟨4,0⟩) num) n) n=true then cview S 0 num n else none:=by
 obtain ⟨_,_,_,h3⟩:=ZeZ hU h hc (.inl ha);have hpl:oursP (cview S 0) (Zj S ⟨4,0⟩) 0 a=tidyP (cview S 0) 0 a.ms (Zj S ⟨4,0⟩) (-1) 0:=by
  unfold oursP;rw [Za (by omega),Za (by omega),Za (by omega),Za (by omega),Za (by omega),Zb ha]
 rw [hpl] at h3;have hky:∀ k ∈ Zj S ⟨4,0⟩,k=dK 0 k.num k.snap∧-1<=k.num:=fun k hk=>by
  obtain ⟨q1,q2⟩:=Zdt h.inv.keys hk;obtain ⟨t,ht⟩:=ZdK.1 q2;have:=(hU.all _ (h.inv.getU ht)).2;unfold K4.ok at this;rw [Ze] at this;exact ⟨q1,by omega⟩
 have hde:=Zjc (cview S 0) 0 a.ms (Zj S ⟨4,0⟩) (-1) 0 (h.inv.keys.rise _) hky;have hv:∀ k,(DStep.deed k goneD ∈ tidyP (cview S 0) 0 a.ms (Zj S ⟨4,0⟩) (-1) 0->get k (oursS S 0 a).2.seen=none)∧(DStep.deed k goneD ∉ tidyP (cview S 0) 0 a.ms (Zj S ⟨4,0⟩) (-1) 0->get k (oursS S 0 a).2.seen=get k S.seen):=fun k=>by
  have:=congrFun h3 k;unfold ZaX at this;rw [this];exact Zit (fun s hs=>by obtain ⟨k,_,q,_⟩:=(hde s).1 hs;exact ⟨k,q⟩) k
 refine ⟨fun num=>?_,fun num n hnum hn=>?_⟩
 ·unfold cview;refine (hv _).2 fun hm=>?_;obtain ⟨k,_,q,hs,_⟩:=(hde _).1 hm;have:=(DStep.deed.inj q).1;rw [<-this] at hs;exact hs rfl
 ·have hkk:∀ k,dK 0 num n=k->k.num=num∧k.snap=n:=fun k e=>by rw [<-e];exact ⟨rfl,rfl⟩
  by_cases hm:DStep.deed (dK 0 num n) goneD ∈ tidyP (cview S 0) 0 a.ms (Zj S ⟨4,0⟩) (-1) 0
  ·rw [show cview (oursS S 0 a).2 0 num n=none from (hv _).1 hm];obtain ⟨k,hk,q,_,hc⟩:=(hde _).1 hm;obtain ⟨e1,e2⟩:=hkk k (DStep.deed.inj q).1;rw [Zlb h.inv.keys (cview S 0) (Zdt h.inv.keys hk).1 (by omega),e1,e2] at hc;rw [Za hc]
  ·rw [show cview (oursS S 0 a).2 0 num n=cview S 0 num n from (hv _).2 hm];split
   ·rfl
   ·rename_i hc;cases hg:cview S 0 num n with
    | none=>rfl
    | some t =>
     refine absurd ((hde _).2 ⟨dK 0 num n,(h.inv.keys.mem _ _).2 ⟨rfl,?_⟩,rfl,hn,?_⟩) hm
     ·show (cview S 0 num n).isSome=true;rw [hg];rfl
     ·rw [Zlb h.inv.keys (cview S 0) (k:=dK 0 num n) rfl (by show num≠-1;omega)];exact hc
theorem ZpO {U:List K4} {S:Str} (hU:UOK U) (h:Live U S) (hc:S.armed=false) {a:A17} (ha:a.what=5) {i:Int} (hi:0<=i) {o:RO} (hO:ObjV (cview S 0) i o):ObjV (cview (oursS S 0 a).2 0) i ⟨o.h,tidyR a.ms o.cs 0⟩:=by
 obtain ⟨h1,h2⟩:=ZjZ hU h hc ha;rw [ZkF a.ms o.cs 0 hO.inc];have hp:∀ n,prevL (o.cs.map (·.1)) n=prevG 0 (o.cs.map (·.1)) n:=fun n=>rfl;have h3:∀ n,n≠0->cview (oursS S 0 a).2 0 i n=if Z7 (cview S 0 i n)=true∧seenB a.ms (prevG 0 (o.cs.map (·.1)) n) n=true then cview S 0 i n else none:=fun n hn=>by
  rw [h2 i n hi hn,hO.copies h.inv.keys];rfl
 refine ⟨by rw [h1];exact hO.head,?_,fun c hc'=>hO.pos c (Z1.1 hc').1,fun n hn=>?_,fun c hc'=>?_,hO.nz.1,fun c hc'=>hO.nz.2 c (Z1.1 hc').1⟩
 ·exact List.Pairwise.sublist (List.Sublist.map _ List.filter_sublist) hO.inc
 ·rw [h3 n hn];constructor
  ·intro hw;split at hw
   ·rename_i hq;obtain ⟨c,hcm,rfl⟩:=ZH.1 ((hO.mem n hn).1 hq.1);exact Zbz (Z1.2 ⟨hcm,hq.2⟩)
   ·simp [Z7] at hw
  ·intro hm;obtain ⟨c,hcm,rfl⟩:=ZH.1 hm;obtain ⟨q1,q2⟩:=Z1.1 hcm;have hw:=(hO.mem c.1 hn).2 (Zbz q1);rw [Zb ⟨hw,q2⟩];exact hw
 ·obtain ⟨q1,q2⟩:=Z1.1 hc';have:=hO.pos c q1;rw [h3 c.1 (by omega),Zb ⟨(hO.mem c.1 (by omega)).2 (Zbz q1),q2⟩];exact hO.val c q1
structure Sim (S:Str) (R:List RO):Prop where
 len:R.length=4
 obj:∀ (i:Nat) (o:RO),R[i]?=some o->ObjV (cview S 0) i o
def Zre (num:Int):DStep->Prop
 | .deed k _=>k.num=num
 | .bar=>True
theorem ZhD {U:List K4} {S:Str} (hU:UOK U) (h:Live U S) {i:Int} {o:RO} (hO:ObjV (cview S 0) i o) (hi:0<=i∧i<=512) {snap:Int} (hs:0<=snap∧snap<=1073741824) :
  Zct S 0 i snap=((ratR o snap).isSome,0)∧ZbP S 0 i snap=((((ratR o snap).getD []).length:Int),0)∧∀ off n,ZG off n=true->ZbO S 0 i snap off n=(padB ((ratR o snap).getD []) off.toNat n.toNat,0):=by
 have hob:objB 0 i=true:=by
  unfold objB;rw [Ze];omega
 have hsn:snapB snap=true:=by
  unfold snapB;rw [Ze];omega
 have hh:(dK 0 i 0).ok=true:=by
  unfold dK K4.ok;simp only [Ze];omega
 have hv:=hO.at h.inv.keys snap;obtain ⟨a1,a2⟩:=ZhV h hU (snap:=snap) hh;rw [hv] at a1 a2;refine ⟨?_,?_,fun off n hw=>?_⟩
 ·unfold Zct;rw [hob,hsn,Bool.and_true,Zc1 h.on,Za (by simp),a1]
 ·unfold ZbP;rw [hob,hsn,Bool.and_true,Zc1 h.on,Za (by simp),a1];cases hr:ratR o snap with
  | none=>rfl
  | some d =>
   rw [hr] at a1 a2;rw [Zb (show (some d).isSome=true from rfl),(a2 a1).2]
 ·rw [ZoI h hU (by rw [hob,hsn,hw];rfl),hv]
structure Ly where
 order:Nat
 unit:Nat
 count:Nat
 deriving DecidableEq
structure Ly.ok (l:Ly):Prop where
 o1:3<=l.order
 o2:l.order<=6
 u1:2<=l.unit
 u2:l.unit<=l.order
 c1:1<=l.count
 c2:l.count<=4
def Ly.U (l:Ly):Nat:=2 ^ l.unit
def Ly.P (l:Ly):Nat:=2 ^ (l.order - l.unit)
def ZB (l:Ly) (x:Nat):Nat × Nat :=
 ((x / l.U / l.count) / l.P*l.count+x / l.U % l.count,(x / l.U / l.count) % l.P*l.U+x % l.U)
def backN (l:Ly) (o i:Nat):Nat:=((o / l.count*l.P+i / l.U)*l.count+o % l.count)*l.U+i % l.U
theorem Ly.Upos (l:Ly):0<l.U:=Nat.pos_of_ne_zero (by unfold Ly.U;exact Nat.pos_iff_ne_zero.1 (Nat.pow_pos (by omega)))
theorem Ly.Ppos (l:Ly):0<l.P:=Nat.pos_of_ne_zero (by unfold Ly.P;exact Nat.pos_iff_ne_zero.1 (Nat.pow_pos (by omega)))
theorem Ly.PU {l:Ly} (h:l.ok):l.P*l.U=2 ^ l.order:=by
 unfold Ly.P Ly.U;rw [<-ZeC,Nat.sub_add_cancel h.u2]
theorem dm1 {a b c:Nat} (h:c<b):(a*b+c) / b=a:=by
 rw [Zcc,Nat.mul_add_div (by omega),Nat.div_eq_of_lt h,Zbg]
theorem dm2 {a b c:Nat} (h:c<b):(a*b+c) % b=c:=by
 rw [Zcc,Nat.mul_add_mod,Zgu h]
theorem Zg4 {l:Ly} (h:l.ok) (x:Nat):backN l (ZB l x).1 (ZB l x).2=x:=by
 have hU:=l.Upos;have hc:0<l.count:=h.c1;unfold backN ZB;simp only;rw [dm1 (ZaU _ hc),dm2 (ZaU _ hc),dm1 (ZaU _ hU),dm2 (ZaU _ hU),Zcc (x / l.U / l.count / l.P),Zcl,Zcc (x / l.U / l.count),Zcl,Zcc (x / l.U),Zcl]
theorem Znl {l:Ly} (h:l.ok) {o i:Nat} (hi:i<2 ^ l.order):ZB l (backN l o i)=(o,i):=by
 have hU:=l.Upos;have hc:0<l.count:=h.c1;have hP:i / l.U<l.P:=by
  rw [Nat.div_lt_iff_lt_mul hU,Ly.PU h];exact hi
 unfold backN ZB;rw [dm1 (ZaU _ hU),dm2 (ZaU _ hU),dm1 (ZaU _ hc),dm2 (ZaU _ hc),dm1 hP,dm2 hP,Zcc (o / l.count),Zcl,Zcc (i / l.U),Zcl]
theorem ZfU {l:Ly} (h:l.ok) {x y:Nat} (e:ZB l x=ZB l y):x=y:=by
 rw [<-Zg4 h x,<-Zg4 h y,e]
theorem ZkG {l:Ly} (h:l.ok) (x:Nat):(ZB l x).2<2 ^ l.order:=by
 rw [<-Ly.PU h];unfold ZB;simp only;have h1:=ZaU (x / l.U / l.count) l.Ppos;have h2:=ZaU x l.Upos;have h3:(x / l.U / l.count % l.P+1)*l.U<=l.P*l.U:=Zcj _ h1;rw [Zbj,Zd8] at h3;omega
theorem Zjf {l:Ly} {x d:Nat} (hd:x % l.U+d<l.U):ZB l (x+d)=((ZB l x).1,(ZB l x).2+d):=by
 have h1:(x+d) / l.U=x / l.U:=by
  conv=>lhs;rw [<-Zcl x l.U,Zb3,Zcc]
  exact dm1 hd
 have h2:(x+d) % l.U=x % l.U+d:=by
  conv=>lhs;rw [<-Zcl x l.U,Zb3,Zcc]
  exact dm2 hd
 unfold ZB;rw [h1,h2];simp only [Zb3]
theorem ZqA {l:Ly} (h:l.ok) {o i j:Nat} (hij:i<j):backN l o i<backN l o j:=by
 have hU:=l.Upos;unfold backN;have h1:=Zcl i l.U;have h2:=Zcl j l.U;have h3:=ZaU i hU;have h4:=ZaU j hU;by_cases e:i / l.U=j / l.U
 ·rw [e] at h1 |-;omega
 ·have h5:i / l.U<j / l.U:=by
   have:=Nat.div_le_div_right (c:=l.U) (Nat.le_of_lt hij);omega
  have h6:(o / l.count*l.P+i / l.U+1)*l.count<=(o / l.count*l.P+j / l.U)*l.count:=Zcj _ (by omega);have h7:((o / l.count*l.P+i / l.U)*l.count+o % l.count+1)*l.U<=((o / l.count*l.P+j / l.U)*l.count+o % l.count)*l.U:=by
   refine Zcj _ ?_;rw [Zbj,Zd8] at h6;have:=h.c1;omega
  rw [Zbj _ 1,Zd8] at h7;omega
def Zcu (l:Ly) (size o:Nat):Nat->Nat
 | 0=>0
 | n+1=>if size<=backN l o n then Zcu l size o n else n+1
def ZI (l:Ly) (size o:Nat):Nat:=Zcu l size o (2 ^ l.order)
theorem Zg5 (l:Ly) (size o:Nat):∀ n,Zcu l size o n<=n
 | 0=>Z9 _
 | n+1=>by
  unfold Zcu;split
  ·exact Nat.le_succ_of_le (Zg5 l size o n)
  ·exact Z9 _
theorem ZiP {l:Ly} (h:l.ok) (size o:Nat):∀ n i,i<n->(i<Zcu l size o n↔backN l o i<size)
 | 0,i,hi=>by omega
 | n+1,i,hi=>by
  unfold Zcu;split
  ·rename_i hs;by_cases e:i=n
   ·subst e;have:=Zg5 l size o i;omega
   ·exact ZiP h size o n i (by omega)
  ·rename_i hs;by_cases e:i=n
   ·subst e;omega
   ·have:=ZqA h (o:=o) (show i<n by omega);omega
theorem ZfV {l:Ly} (h:l.ok) (size o:Nat) {i:Nat} (hi:i<2 ^ l.order):i<ZI l size o↔backN l o i<size:=ZiP h size o _ i hi
theorem ZhE (l:Ly) (size o:Nat):ZI l size o<=2 ^ l.order:=Zg5 ..
theorem Zec {l:Ly} (h:l.ok) {size x:Nat}:(ZB l x).2<ZI l size (ZB l x).1↔x<size:=by
 rw [ZfV h _ _ (ZkG h x),Zg4 h]
theorem Zjg {l:Ly} (h:l.ok) {a b:Nat} (hab:a<=b) (o:Nat):ZI l a o<=ZI l b o:=by
 by_cases e:ZI l a o=0
 ·omega
 ·have h1:=ZhE l a o;have h2:=(ZfV h a o (i:=ZI l a o - 1) (by omega)).1 (by omega);have h3:=(ZfV h b o (i:=ZI l a o - 1) (by omega)).2 (by omega);omega
structure Ext where
 obj:Nat
 off:Nat
 len:Nat
 at_:Nat
def Ext.items (e:Ext):List (Nat × Nat × Nat):=(List.range e.len).map fun j=>(e.obj,e.off+j,e.at_+j)
def Ext.vals (e:Ext):List Value:=[int i64 e.obj,int i64 e.off,int i64 e.len,int i64 e.at_]
structure Cover (l:Ly) (off n:Nat) (es:List Ext):Prop where
 flat:es.flatMap Ext.items=(List.range n).map fun j=>((ZB l (off+j)).1,(ZB l (off+j)).2,j)
 one:∀ e ∈ es,1<=e.len
theorem Cover.nil (l:Ly) (off:Nat):Cover l off 0 []:=⟨rfl,fun e he=>by cases he⟩
theorem ZiQ {l:Ly} {off at_ k:Nat} (hk:(off+at_) % l.U+k<=l.U):Ext.items ⟨(ZB l (off+at_)).1,(ZB l (off+at_)).2,k,at_⟩=(List.range k).map fun j=>((ZB l (off+(at_+j))).1,(ZB l (off+(at_+j))).2,at_+j):=by
 unfold Ext.items;refine ZeD fun j hj=>?_;have hj:j<k:=Za8.1 hj;have:=Zjf (l:=l) (x:=off+at_) (d:=j) (by omega);rw [<-Zb3,this]
theorem ZgP {α:Type} (f:Nat->α) (n k:Nat):(List.range (n+k)).map f=(List.range n).map f++(List.range k).map fun j=>f (n+j):=by
 rw [List.range_add,Z4,ZdD];rfl
theorem Cover.add {l:Ly} {off n k:Nat} {es:List Ext} (h:Cover l off n es) (hk:(off+n) % l.U+k<=l.U) (h1:1<=k):Cover l off (n+k) (es++[⟨(ZB l (off+n)).1,(ZB l (off+n)).2,k,n⟩]):=by
 refine ⟨?_,fun e he=>?_⟩
 ·rw [ZcX,h.flat,ZgP];show _++(Ext.items _++[])=_;rw [ZdG,ZiQ hk]
 ·rcases ZY.1 he with q|q
  ·exact h.one e q
  ·rw [Zaz.1 q];exact h1
theorem Zj0 (es:List Ext):(es.flatMap Ext.items).length=(es.map (·.len)).sum:=by
 induction es with
 | nil=>rfl
 | cons e es ih=>rw [ZaJ,ZA,ih,Zav,Zd1];simp [Ext.items]
theorem Cover.merge {l:Ly} {off n k:Nat} {es:List Ext} {e:Ext} (h:Cover l off n (es++[e])) (hk:(off+n) % l.U+k<=l.U) (ho:e.obj=(ZB l (off+n)).1) (hi:e.off+e.len=(ZB l (off+n)).2) (h1:1<=k):Cover l off (n+k) (es++[{ e with len:=e.len+k }]):=by
 have hat:e.at_+e.len=n:=by
  have h0:=h.one e (Zfj _ (Zaz.2 rfl));have hf:=h.flat;have hl:=congrArg List.length hf;rw [Zj0] at hl;simp only [Z4,List.sum_append,Zav,Zc6,Zd1,List.sum_nil,ZE,ZeE] at hl;have hg:=congrArg (fun q=>q[n - 1]?) hf;rw [ZcX] at hg;have e1:(es.flatMap Ext.items).length=n - e.len:=by rw [Zj0];omega
  rw [ZdF (by rw [e1];omega),e1,ZaN,Zdd (by omega)] at hg;have e2:List.flatMap Ext.items [e]=Ext.items e:=by simp
  rw [e2] at hg;unfold Ext.items at hg;rw [ZaN,Zdd (by omega)] at hg;simp only [Zbb,Zah,Zba] at hg;omega
 refine ⟨?_,fun x hx=>?_⟩
 ·have hf:=h.flat;rw [ZcX] at hf |-;rw [ZgP,<-hf];simp only [ZaJ,List.flatMap_nil,ZdG];rw [Zam];congr 1;unfold Ext.items;simp only;rw [ZgP];congr 1;have:=ZiQ (l:=l) (off:=off) (at_:=n) hk;unfold Ext.items at this;rw [<-this];refine ZeD fun j _=>?_;rw [<-ho,<-hi];simp only [Zba,ZK];omega
 ·rcases ZY.1 hx with q|q
  ·exact h.one x (Zet _ q)
  ·rw [Zaz.1 q];show 1<=e.len+k;omega
end Go.Proofs.YtcbdghojlbpomaaGreat
