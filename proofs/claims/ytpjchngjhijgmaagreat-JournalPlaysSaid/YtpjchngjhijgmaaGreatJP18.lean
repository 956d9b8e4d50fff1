import Derived.Test.YtpjchngjhijgmaaGreatJP17
set_option linter.all false
set_option maxRecDepth 4000
set_option maxHeartbeats 8000000
open Go.RowKit
open Go.IntKind (i64 u64)
open Go.Value (int pointer slice)
open Go.Obj (cells)
namespace Go.Proofs.YtpjchngjhijgmaaGreat
open Tryz
open HP (pt mapOf)
variable {W w w':World} {I:Hp} {l:List HP}
theorem ZfN {n:Int} {k:Nat} (h0:0<=n) (h1:n<2 ^ (8*k)):getB (putB n k)=n:=Zil k n h0 h1
def En.bytes (e:En):Prop:=∀ x ∈ e.data,isByte x
theorem ZoH {e:En} (h:e.bytes):∀ x ∈ headB e,isByte x:=by
 intro x hx;unfold headB at hx;simp only [Za6] at hx;rcases hx with (((hx|hx)|hx)|hx)|hx
 ·simp only [Z4,Zbv,Zbi] at hx;unfold isByte;omega
 ·exact Zdw _ _ x hx
 ·exact Zdw _ _ x hx
 ·exact Zdw _ _ x hx
 ·exact h x hx
theorem ZnS {e:En} (h:e.bytes):∀ x ∈ Zah e,isByte x:=by
 intro x hx;rcases Za6.1 hx with hx|hx
 ·exact ZoH h x hx
 ·exact Zdw _ _ x hx
theorem En.okB_iff {e:En}:e.okB=true↔(1<=e.tag∧e.tag<=1073741824)∧(1<=e.seq∧e.seq<=1099511627776)∧1<=e.data.length∧e.data.length<=90:=by
 unfold En.okB;rw [Zk];omega
theorem Zlz (b:List Int):0<=crcOf b∧crcOf b<4294967296:=u32_xor _ _
theorem ZpJ (e:En) (rest:List Int):(headB e++rest).take 4=Zd0∧((headB e++rest).drop 4).take 4=putB e.tag 4∧((headB e++rest).drop 8).take 8=putB e.seq 8∧((headB e++rest).drop 16).take 2=putB e.data.length 2∧(headB e++rest).drop 18=e.data++rest:=by
 have hl1:=Zb1 e.tag 4;have hl2:=Zb1 e.seq 8;have hl3:=Zb1 e.data.length 2;unfold headB;generalize putB e.tag 4=a at *;generalize putB e.seq 8=b at *;generalize putB (e.data.length:Int) 2=c at *
 match a,hl1 with
 | [a0,a1,a2,a3],_ =>
  match b,hl2 with
  | [b0,b1,b2,b3,b4,b5,b6,b7],_ =>
   match c,hl3 with
   | [c0,c1],_=>exact ⟨rfl,rfl,rfl,rfl,rfl⟩
theorem ZnT {e:En} (h:e.okB=true) (rest:List Int) (hl:4<=rest.length):takeR (headB e++rest)=if getB (rest.take 4)≠crcOf (headB e) then (enZ,0,13) else (e,22+e.data.length,0):=by
 rw [En.okB_iff] at h;obtain ⟨p1,p2,p3,p4,p5⟩:=ZpJ e rest;have ht:tagR (headB e++rest)=e.tag:=by
  unfold tagR;rw [p2];exact ZfN (by omega) (by have:(2:Int) ^ (8*4)=4294967296:=rfl;omega)
 have hs:seqR (headB e++rest)=e.seq:=by
  unfold seqR;rw [p3];exact ZfN (by omega) (by have:(2:Int) ^ (8*8)=18446744073709551616:=rfl;omega)
 have hn:lenR (headB e++rest)=e.data.length:=by
  unfold lenR;rw [p4];exact ZfN (by omega) (by have:(2:Int) ^ (8*2)=65536:=rfl;omega)
 have hlen:(headB e++rest).length=18+e.data.length+rest.length:=by rw [Zs,ZfS]
 have hne:headB e++rest≠[]:=by
  intro e0;rw [e0,ZaZ] at hlen;omega
 unfold takeR;rw [Za hne,Za (by rintro (q|q);(· omega);(· exact q p1)),ht,hs,hn]
 rw [Za (by
  rw [not_or];refine ⟨?_,by omega⟩;unfold mayF;rw [Zt (by omega)]
  simp)]
 have h18:(headB e++rest).take (18+((e.data.length:Int)).toNat)=headB e:=by
  rw [Zeu,<-ZfS e,ZdJ];rfl
 have h18d:(headB e++rest).drop (18+((e.data.length:Int)).toNat)=rest:=by
  rw [Zeu,<-ZfS e,List.drop_left'];rfl
 rw [h18,h18d,p5,Zeu,ZdJ rfl]
theorem ZpK {e:En} (h:e.okB=true) (rest:List Int):takeR (Zah e++rest)=(e,22+e.data.length,0):=by
 unfold Zah;rw [ZV,ZnT h _ (by rw [Zs,Zb1];omega),Za];have hl:=Zb1 (crcOf (headB e)) 4;rw [ZdJ hl,ZfN (Zlz _).1 (by have:(2:Int) ^ (8*4)=4294967296:=rfl;have:=(Zlz (headB e)).2;omega)];simp
theorem take_nil:takeR []=(enZ,0,4):=by unfold takeR;rw [Zb rfl]
theorem ZkH:∀ (f g:Nat) (r:List Int),r.length<=f->r.length<=g->allGo f r=allGo g r
 | 0,g,r,h,_=>by
  have:r=[]:=Zcq (by omega);subst this;cases g with
  | zero=>rfl
  | succ g=>simp [allGo,take_nil]
 | f+1,0,r,_,h=>by
  have:r=[]:=Zcq (by omega);subst this;simp [allGo,take_nil]
 | f+1,g+1,r,h1,h2=>by
  unfold allGo;split
  ·rfl
  ·rename_i h;have hk:=Zgr (r:=r) (by simpa using h);have:=ZkH f g (r.drop (takeR r).2.1) (by rw [ZW];omega) (by rw [ZW];omega);rw [this]
def Zar (es:List En):List Int:=es.flatMap Zah
theorem ZfT (e:En) (es:List En):Zar (e::es)=Zah e++Zar es:=rfl
theorem ZgS (a b:List En):Zar (a++b)=Zar a++Zar b:=Zcu
theorem ZkI {rest:List Int}:∀ {es:List En},(∀ e ∈ es,e.okB=true)->(takeR rest).2.2≠0->(allB (Zar es++rest)).1=es
 | [],_,hr=>by
  unfold allB;cases hl:(Zar []++rest).length with
  | zero=>rfl
  | succ n =>
   unfold allGo;rw [Zb (by simpa [Zar] using hr)]
 | e::es,he,hr=>by
  have h1:=he e (Zat ..);have ih:=ZkI (es:=es) (fun x hx=>he x (ZaB _ hx)) hr;unfold allB at ih |-;rw [ZfT,ZV];have hb:=ZpK h1 (Zar es++rest);obtain ⟨n,hn⟩:∃ n,(Zah e++(Zar es++rest)).length=n+1:=⟨_,by rw [Zs,ZcM];exact (Nat.succ_pred (by omega)).symm⟩;rw [hn];unfold allGo;rw [hb];simp only;rw [Za (by simp)];have hd:(Zah e++(Zar es++rest)).drop (22+e.data.length)=Zar es++rest:=by
   rw [<-ZcM e,List.drop_left' rfl]
  rw [hd,ZkH n (Zar es++rest).length _ (by rw [Zs,ZcM] at hn;omega) (ZC _),ih]
theorem Zjd {es:List En} (he:∀ e ∈ es,e.okB=true):(allB (Zar es)).1=es:=by
 have:=ZkI (rest:=[]) he (by rw [take_nil];simp);rwa [Zbc] at this
theorem ZnU (m:List (Int × En)) (e:En) (s:Int):get s (Zbp m e)=if (get s m).isSome then get s m else if s=e.seq then some e else none:=by
 unfold Zbp;by_cases h:(get e.seq m).isSome=true
 ·rw [Zb h];by_cases hs:(get s m).isSome=true
  ·rw [Zb hs]
  ·rw [Za hs,Za (by rintro rfl;exact hs h)];simpa using hs
 ·rw [Za h];by_cases e1:s=e.seq
  ·subst e1;rw [ZcU,Za h,Zb rfl]
  ·rw [Zdv (by exact e1),Za e1];split
   ·rfl
   ·rename_i h2;simpa using h2
def Zd2 (es:List En) (s:Int):Option En:=es.find? fun e=>decide (e.seq=s)
theorem ZjS (s:Int):∀ (es:List En) (m:List (Int × En)),get s (es.foldl Zbp m)=if (get s m).isSome then get s m else Zd2 es s
 | [],m=>by
  show get s m=_;split
  ·rfl
  ·rename_i h;simpa [Zd2] using h
 | e::es,m=>by
  rw [Ze1,ZjS s es,ZnU];unfold Zd2;rw [List.find?_cons];by_cases h:(get s m).isSome=true
  ·simp only [h,Zan]
  ·by_cases e1:s=e.seq
   ·rw [Za h,Za h,Zb e1,Zt e1.symm];rfl
   ·rw [Za h,Za h,Za e1,Zq (by exact fun q=>e1 q.symm)];rfl
theorem ZoI (rs:List (List Int)):Zbq rs=(rs.flatMap fun r=>(allB r).1).foldl Zbp []:=by
 unfold Zbq;generalize ([]:List (Int × En))=m;induction rs generalizing m with
 | nil=>rfl
 | cons r rs ih=>rw [Ze1,Za0,ZeZ,ih]
theorem Zg5 (rs:List (List Int)) (s:Int):get s (Zbq rs)=Zd2 (rs.flatMap fun r=>(allB r).1) s:=by
 rw [ZoI,ZjS];rfl
def runs:List En->Int->Prop
 | [],_=>True
 | e::es,s=>e.seq=s∧runs es (s+1)
theorem ZlA {m:List (Int × En)}:∀ {es:List En} {s:Int},runs es s->(∀ e ∈ es,get e.seq m=some e)->get (s+es.length) m=none->runM m s=es
 | [],s,_,_,h=>by
  rw [Zgw];simp only [ZaZ,Int.ofNat_zero,Int.add_zero] at h;have h':get s m=none:=by simpa using h
  rw [h']
 | e::es,s,hr,hg,h=>by
  rw [Zgw];have h1:=hg e (Zat ..);rw [hr.1] at h1;rw [h1];simp only
  rw [ZlA hr.2 (fun x hx=>hg x (ZaB _ hx)) (by
   rw [<-h];congr 1;simp only [Z9]
   omega)]
theorem Zfk:∀ {es:List En} {s:Int} {i:Nat} {e:En},runs es s->es[i]?=some e->e.seq=s+i
 | e'::es,s,0,e,h,he=>by
  simp at he;subst he;simp [h.1]
 | e'::es,s,i+1,e,h,he=>by
  rw [Zfk h.2 (by simpa using he)];omega
theorem ZoJ:∀ {a b:List En} {s:Int},runs (a++b) s↔runs a s∧runs b (s+a.length)
 | [],b,s=>by simp [runs]
 | e::a,b,s=>by
  show (e.seq=s∧runs (a++b) (s+1))↔(e.seq=s∧runs a (s+1))∧runs b (s+((a.length+1:Nat):Int));rw [ZoJ (a:=a),and_assoc,show s+1+(a.length:Int)=s+((a.length+1:Nat):Int) by omega]
theorem ZlB {es:List En} {s:Int} (h:runs es s) (n:Nat):runs (es.take n) s:=by
 rw [<-Zck n es] at h;exact (ZoJ.1 h).1
theorem Zq8 {es:List En} {s:Int} (h:runs es s) (n:Nat) (hn:n<=es.length):runs (es.drop n) (s+n):=by
 rw [<-Zck n es] at h;have:=(ZoJ.1 h).2;rwa [ZJ,ZcJ hn] at this
theorem Zsm {es:List En} {s:Int} (h:runs es s) {a b:En} (ha:a ∈ es) (hb:b ∈ es) (e:a.seq=b.seq):a=b:=by
 obtain ⟨i,hi⟩:=ZbH ha;obtain ⟨j,hj⟩:=ZbH hb;have h1:=Zfk h hi;have h2:=Zfk h hj;obtain rfl:i=j:=by omega
 rw [hi] at hj;exact Zey hj
theorem ZkJ {es:List En} {s:Int} {e:En} (h:Zd2 es s=some e):e ∈ es∧e.seq=s:=⟨List.mem_of_find?_eq_some h,by simpa using List.find?_some h⟩
theorem ZoK {es:List En} {s:Int}:Zd2 es s=none↔∀ e ∈ es,e.seq≠s:=by
 unfold Zd2;rw [List.find?_eq_none];simp
theorem ZpL {rs:List (List Int)} {es:List En} {s:Int} (hs:1<=s) (hr:runs es s) (h1:∀ e ∈ es,e ∈ rs.flatMap fun r=>(allB r).1) (h2:∀ e ∈ rs.flatMap fun r=>(allB r).1,s<=e.seq->e.seq<=s+es.length->e ∈ es):Zb7 rs s=es:=by
 unfold Zb7;rw [Za (by omega)];have hget:∀ e ∈ es,get e.seq (Zbq rs)=some e:=fun e he=>by
  rw [Zg5];obtain ⟨i,hi⟩:=ZbH he;have hq:=Zfk hr hi;have hil:=(ZH.1 hi).1;cases hf:Zd2 (rs.flatMap fun r=>(allB r).1) e.seq with
  | none=>exact absurd rfl (ZoK.1 hf e (h1 e he))
  | some x =>
   obtain ⟨hx1,hx2⟩:=ZkJ hf;rw [Zsm hr (h2 x hx1 (by omega) (by omega)) he hx2]
 refine ZlA hr hget ?_;rw [Zg5,ZoK];intro x hx hxs;have hm:=h2 x hx (by omega) (by omega);obtain ⟨i,hi⟩:=ZbH hm;have hq:=Zfk hr hi;have hil:=(ZH.1 hi).1;omega
def keyOf (c:Rg) (p:Pl):K4:=⟨2,0,rnum c p,0⟩
def Zc6 (m:List (K4 × List Int)) (k:K4) (b:List Int):List (K4 × List Int):=put k ((get k m).getD []++b) m
def ZcC (c:Rg):List En->List Pl->List (K4 × List Int)->List (K4 × List Int)
 | e::es,p::ps,m=>ZcC c es ps (Zc6 m (keyOf c p) (Zah e))
 | _,_,m=>m
def rowsJ (J:Jn):List (K4 × List Int):=ZcC J.r.shape J.l J.at_ []
def Zl (m:List (K4 × List Int)) (k:K4):List Int:=(get k m).getD []
def fixS (m:List (K4 × List Int)) (k:K4) (S:Str):Int × Str :=
 if (readS S k 0 (lenAt S k)).2≠0 then ((readS S k 0 (lenAt S k)).2,S)
 else if (readS S k 0 (lenAt S k)).1=Zl m k∧Zl m k≠[] then (0,S)
 else if Zl m k=[] then dropS S k
 else if Zl m k<+:(readS S k 0 (lenAt S k)).1 then trimS S k (Zl m k).length
 else if (trimS S k 0).1≠0 then trimS S k 0 else ZbA (trimS S k 0).2 k 0 (Zl m k)
def fixL (m:List (K4 × List Int)):List K4->Str->Int × Str
 | [],S=>ZB S
 | k::ks,S=>if (fixS m k S).1≠0 then fixS m k S else fixL m ks (fixS m k S).2
def trimJ (S:Str) (J:Jn):Int × Str:=fixL (rowsJ J) (Zau S ⟨2,0⟩) S
def Zbg (r:Rc) (e:Int):Rc:=⟨r.shape,r.first,r.set,ZQ r.tags e,r.cls.map fun c=>{ c with pos:=min c.pos e }⟩
def ZgD (J:Jn) (e:Int):Jn:={ J with safe:=e }
def mendJ (S:Str) (J:Jn):Int × Str × Jn :=
 if (trimJ S J).1≠0 then ((trimJ S J).1,(trimJ S J).2,endsJ J (trimJ S J).1)
 else ((saveJ (trimJ S J).2 (Zbg J.r (endJ J))).1,(saveJ (trimJ S J).2 (Zbg J.r (endJ J))).2,
  endsJ (ZgD (recJ J (Zbg J.r (endJ J))) (endJ J)) (saveJ (trimJ S J).2 (Zbg J.r (endJ J))).1)
def tagged (ts:List Tag) (es:List En):List En:=es.takeWhile fun e=>decide (e.tag=tagOf ts e.seq)
def readRows (S:Str):List (List Int):=(Zau S ⟨2,0⟩).map fun k=>(readS S k 0 (lenAt S k)).1
def ZaO (S:Str) (r:Rc):Jn:=⟨r,tagged r.tags (Zb7 (readRows S) r.first),[],Fl.zero,0,false⟩
def openJ (S:Str) (r:Rc):Int × Str × Jn:=mendJ S (layJ (ZaO S r))
def cutJ (S:Str) (J:Jn) (e:Int):Int × Str × Jn :=
 if mayJ S J≠0 then (mayJ S J,S,mayJ2 S J)
 else if e<J.r.first - 1∨endJ J<e then (3,S,J)
 else mendJ S (layJ (lJ J (J.l.take (e - J.r.first+1).toNat) J.at_ J.fill))
def rowHP (v:Value) (x:List Int):HP:=HP.row 5 1 v x.length (x.map byteV)
def Zdk (b:Nat) (m:List (K4 × List Int)):HP:=mapOf keyKT rowHP b m
theorem Pl.vals_len (p:Pl):p.vals.length=2:=rfl
section
variable {p q : Nat} {J : Jn}
theorem St.places_cell {v:Value} {ps:List Pl} {i:Nat} {pl:Pl} (h:St W I w (ZY v ps::l)) (hi:ps[i]?=some pl):∃ g q c,v=slice (some ⟨g,q,none⟩) ps.length c∧g<w.heap.size∧ps.length<=c ∧
  w.cell? ⟨g,q+i*2,none⟩=some (int i64 pl.set)∧w.cell? ⟨g,q+i*2+1,none⟩=some (int i64 pl.obj):=by
 have hil:=(ZH.1 hi).1;have hl:=St.win_len h;obtain ⟨g,q,c,e1,hg,hnc,hc⟩:=St.win_cell h (by rw [hl];omega);refine ⟨g,q,c,e1,hg,hnc,?_,?_⟩
 ·exact hc (i*2) _ ((Zde Pl.vals_len ps i 0 pl hi (by decide)).trans rfl)
 ·rw [Zbb];exact hc (i*2+1) _ ((Zde Pl.vals_len ps i 1 pl hi (by decide)).trans rfl)
theorem St.want_entry {b:Nat} {m:List (K4 × List Int)} (k:K4) (h:St W I w (Zdk b m::l)) :
  ∃ st A c w',(Instr.mapEntry 215 (.map (some b)) k.val).run prog w=.ok (.tuple #[slice A (Zl m k).length c,goInt (st:Nat)]) w'∧w'.heap.size=w.heap.size ∧
   St W I w' (rowHP (slice A (Zl m k).length c) (Zl m k)::HP.held keyKT rowHP b k (slice A (Zl m k).length c) st (del k m)::l):=by
 obtain ⟨st,v,w',hr,hs,h1|⟨x,hg,h1⟩⟩:=St.mapOf_entry h underlying215 (z:=slice none 0 0) (fun w=>by kernel_rfl) k
 ·obtain ⟨hg,rfl,h2⟩:=h1;refine ⟨st,none,0,w',?_,hs,?_⟩
  ·rw [show (Zl m k).length=0 by simp [Zl,hg]];exact hr
  ·rw [show Zl m k=[] by simp [Zl,hg]];exact h2.row_nil _ _
 ·have e:Zl m k=x:=by simp [Zl,hg]
  obtain ⟨A,c,rfl⟩:=ZA (St.row_owns h1);rw [e];exact ⟨st,A,c,w',hr,hs,h1⟩
theorem ZkK {m:List (K4 × List Int)} {k0:K4} {b:List Int} {n:Nat} (h:∀ k,(Zl m k).length<=n) (hb:b.length<=1000) (k:K4):(Zl (Zc6 m k0 b) k).length<=n+1000:=by
 unfold Zl Zc6;have h1:=h k;by_cases e:k=k0
 ·subst e;rw [ZcU];unfold Zl at h1;rw [ZgM,Zs];omega
 ·rw [Zdv e];unfold Zl at h1;omega
theorem ZpM (h:St W I w (jnHP q p J::l)) (hl:J.at_.length=J.l.length) (hn:J.l.length<=100000) (hE:∀ e ∈ J.l,e.okB=true) :
  Calls prog 154 #[pointer (some ⟨q,0,none⟩)] w fun e w'=>∃ I' b,I.sub I'∧e=.returned (.map (some b))∧St W I' w' (Zdk b (rowsJ J)::jnHP q p J::l):=by
 obtain ⟨V,hrI,h1⟩:=h.jn_open;obtain ⟨A,c,hvl,hnc,_⟩:=(h1.pull 1 _ rfl).ents_slice;obtain ⟨Aa,ca,hva,hnca,_⟩:=(h1.pull 2 _ rfl).win_slice;obtain ⟨vt,vc,vl,va⟩:=V;simp only at hvl hva hrI h1;subst hvl;subst hva;have k8:=jn_c8 h1;simp only at k8;have lq:=h1.lt;obtain ⟨gm,hgm⟩:=Zn w.heap.size;have h2:=(h1.alloc (.map #[] 0));rw [<-hgm] at h2;have h3:St W I (w.alloc (.map #[] 0)) (Zdk gm []::jnBlk q p J ⟨vt,vc,slice A J.l.length c,slice Aa J.at_.length ca⟩::Zo (slice A J.l.length c) J.l::ZY (slice Aa J.at_.length ca) J.at_::l):=h2.mapOf_made;obtain ⟨n0,hn0⟩:=Zn J.l.length;rw [hl] at h3;rw [<-hn0] at k8 h3 hn hnc hl;have HN0:=Zh hn0;have HL:=Zh hl;have HE:=Zh hE;have HRI:=Zh hrI;have H3:=Zh h3;have HGM:=Zh hgm;have hmm:=@run_makeMap prog;clear h h1 hrI hn0 hE h2 h3 hl hnca hgm;go_enter func154,ntmps154;go_wp2_with fail;rw [<-HGM.o];clear hmm;go_loopw [15] (fun a15 wr=>∃ (i:Nat) (m:List (K4 × List Int)) (I1:Hp),a15=int i64 i∧i<=n0∧I.sub I1∧(∀ k,(Zl m k).length<=1000*i)∧rowsJ J=ZcC J.r.shape (J.l.drop i) (J.at_.drop i) m∧St W I1 wr (Zdk gm m::jnBlk q p J ⟨vt,vc,slice A n0 c,slice Aa n0 ca⟩::Zo (slice A n0 c) J.l::ZY (slice Aa n0 ca) J.at_::l)) (fun a15 _=>n0 - (intOf a15).toNat);case atStart=>exact ⟨0,[],I,rfl,ZL _,Hp.sub.refl _,fun k=>by simp [Zl,get],rfl,H3.o⟩
 case round =>
  obtain ⟨i,m,I1,rfl,hi,hsub,hwl,hgo,hst⟩:=hrel;have HSUB:=Zh hsub;clear hsub;have HWL:=Zh hwl;clear hwl;clear k8 lq H3;by_cases hlt:i<n0
  ·have hlt2:(i:Int)<(n0:Int):=by omega
   obtain ⟨e,he⟩:∃ e,J.l[i]?=some e:=⟨_,Zy (by rw [<-HN0.o];exact hlt)⟩;obtain ⟨pl,hpl⟩:∃ e,J.at_[i]?=some e:=⟨_,Zy (by rw [HL.o];exact hlt)⟩;obtain ⟨g,qq,c2,vd,e2,hg,hbd,hbb,y0,y1,y2⟩:=(hst.pull 2 _ rfl).ents_cell he;rw [<-HN0.o] at e2;simp only [Zz] at e2;obtain ⟨rfl,hnn,rfl⟩:=e2;clear hnn;obtain ⟨g',qq',c3,e3,hg',hnc3,z0,z1⟩:=(hst.pull 3 _ rfl).places_cell hpl;rw [HL.o] at e3 hnc3;simp only [Zz] at e3;obtain ⟨rfl,hnn,rfl⟩:=e3;clear hnn;obtain ⟨Ad,cd,rfl⟩:=hbd.isSl;have hok:=HE.o e (ZaG he);have hmay:mayF e.tag e.seq e.data.length=true:=by
    have:=En.okB_iff.1 hok;unfold mayF;exact Zt (by omega)
   have hdr:rowsJ J=ZcC J.r.shape (J.l.drop (i+1)) (J.at_.drop (i+1)) (Zc6 m (keyOf J.r.shape pl) (Zah e)):=by
    rw [hgo,ZaS (ZH.1 he).1,ZaS (ZH.1 hpl).1,(ZH.1 he).2,(ZH.1 hpl).2];rfl
   have hsz:(Zah e).length<=1000:=by
    rw [ZcM];have:=(En.okB_iff.1 hok).2.2;omega
   have HSZ:=Zh hsz;have h4:=hst.alloc (cells #[int i64 e.tag,int i64 e.seq,slice Ad e.data.length cd] 50);obtain ⟨tg,sq,d⟩:=e;simp only at y0 y1 y2 hmay h4 hbd;have hlay:=Zlr tg sq d Ad cd (wr.alloc (cells #[int i64 tg,int i64 sq,slice Ad d.length cd] 50)) hmay (ZaW h4 hbd) hbb;have HLAY:=Zh hlay;have HDR:=Zh hdr;have H4:=Zh h4;have hgs:g<(wr.alloc (cells #[int i64 tg,int i64 sq,slice Ad d.length cd] 50)).heap.size:=by simp;omega
   clear hbd hbb he hok hmay hgo hdr hsz hlay h4 hst hgs;go_wp2_with fail;refine HLAY.o.mono ?_;rintro e w5 ⟨A5,c5,f5,rfl,rfl,h5⟩;obtain ⟨I5,hs5,hB5,h6⟩:=ZbU H4.o h5.below h5.row_new;have hg5:g'<w5.heap.size:=ZfC (by simp;omega) h5.below.size;have hz0:w5.cell? ⟨g',qq'+i*2,none⟩=some (int i64 pl.set):=(h5.below.cell (by simp;omega)).trans (((ZS wr _).cell hg').trans z0);have hz1:w5.cell? ⟨g',qq'+i*2+1,none⟩=some (int i64 pl.obj):=(h5.below.cell (by simp;omega)).trans (((ZS wr _).cell hg').trans z1);have h7:=h6.drop;have k9:=jn_c9 (h7.pull 1 _ rfl);have lq:=(h7.pull 1 _ rfl).lt;have hjn:=St.jn_shut (J:=J) (V:=⟨vt,vc,slice (some ⟨g,qq,none⟩) n0 c,slice (some ⟨g',qq',none⟩) n0 ca⟩) (recI.mono (HSUB.o.trans hs5) HRI.o) (((h7.pull 3 _ rfl).pull 3 _ rfl).pull 3 _ rfl);have hkey:=Zlu pl hjn;obtain ⟨rn,hrn⟩:=Zn (rnum J.r.shape pl);rw [<-hrn] at hkey;have HRN:=Zh (show keyOf J.r.shape pl=⟨2,0,rn,0⟩ by unfold keyOf;rw [hrn]);obtain ⟨ps,po⟩:=pl;simp only [Pl.val] at hkey hz0 hz1;have HKEY:=Zh hkey;have H7:=Zh h7;have HB5:=Zh hB5;have HS5:=Zh hs5;clear h5 hs5 hB5 h6 h7 hjn hkey hrn H4 HLAY z0 z1;go_wp2_with fail;refine HKEY.o.mono ?_;rintro e w6 ⟨rfl,hb6⟩;have h8:=((H7.o.keep hb6).alloc (cells #[int i64 2,int i64 0,int i64 rn,int i64 0] 43));obtain ⟨w7,hw7⟩:∃ x,w6.alloc (cells #[int i64 2,int i64 0,int i64 rn,int i64 0] 43)=x:=⟨_,rfl⟩;rw [hw7] at h8;obtain ⟨st,Am,cm,w8,hr8,hs8,h9⟩:=St.want_entry (keyOf J.r.shape ⟨ps,po⟩) (h8.pull 1 _ rfl);obtain ⟨x,hx⟩:∃ x,Zl m (keyOf J.r.shape ⟨ps,po⟩)=x:=⟨_,rfl⟩;rw [hx] at hr8 h9;have hxl:x.length<=1000*i:=by rw [<-hx];exact HWL.o _
   obtain ⟨v10,w10,hr10,h10⟩:=St.bytes_append 46 h9 (ZaW h9 (HB5.o)) (by have:=HSZ.o;omega);obtain ⟨A10,c10,rfl⟩:=ZA h10.row_owns;rw [<-Zbo] at h10;obtain ⟨y,hy⟩:∃ y,x++Zah ⟨tg,sq,d⟩=y:=⟨_,rfl⟩;have hyl:x.length+(Zah ⟨tg,sq,d⟩).length=y.length:=by rw [<-hy,Zs]
   rw [hy,hyl] at h10;obtain ⟨w11,hr11,hs11,h11⟩:=St.held_put (T:=keyKT) (own:=rowHP) (x:=y) h10 underlying215
   have HA:=Zh (show Zc6 m (keyOf J.r.shape ⟨ps,po⟩) (Zah ⟨tg,sq,d⟩)=(keyOf J.r.shape ⟨ps,po⟩,y)::del (keyOf J.r.shape ⟨ps,po⟩) m by
    show put _ (Zl m _++_) m=_;rw [hx,hy]
    rfl)
   have h12:St W I5 w11 (Zdk gm (Zc6 m (keyOf J.r.shape ⟨ps,po⟩) (Zah ⟨tg,sq,d⟩))::pt w6.heap.size (cells #[int i64 2,int i64 0,int i64 rn,int i64 0] 43)::jnBlk q p J ⟨vt,vc,slice (some ⟨g,qq,none⟩) n0 c,slice (some ⟨g',qq',none⟩) n0 ca⟩::Zo (slice (some ⟨g,qq,none⟩) n0 c) J.l::ZY (slice (some ⟨g',qq',none⟩) n0 ca) J.at_::l):=by
    rw [HA.o];exact h11
   rw [hyl] at hr10;rw [HRN.o] at hr8;simp only [keyKT,K4.val,goInt] at hr8 hr11;have H12:=Zh (h12.pull 1 _ rfl).drop;have HR10:=Zh hr10;have HNEW:=Zh (ZkK (k0:=keyOf J.r.shape ⟨ps,po⟩) HWL.o HSZ.o);subst hw7;have HS5':=Zh (HSUB.o.trans HS5.o);clear hb6 h8 h9 h10 h11 h12 hs8 hs11 hx hy hxl HWL HA HKEY H7 hr10 hz0 hz1 hyl k9;go_wp2_with (at_builtin;refine ZZ _ rfl (.tmp 36) (.tmp 37) 46 46 rfl _ _ rfl rfl _ _ HR10.o ?_);go_roundw;case rel=>exact ⟨i+1,_,I5,by go_num,by omega,HS5'.o,by intro k;have:=HNEW.o k;omega,HDR.o,H12.o⟩
   case measure=>simp [intOf]<;>omega
  ·obtain rfl:i=n0:=by omega
   have hlt2:¬ (i:Int)<(i:Int):=by omega
   rw [ZbS (by rw [<-HN0.o];exact ZC _),ZbS (by rw [HL.o];exact ZC _)] at hgo;have HGO:=Zh (show rowsJ J=m by rw [hgo];rfl);have HST:=Zh hst;clear hgo hst;go_wp2;go_ret;rw [HGO.o];exact ⟨I1,HSUB.o,gm,rfl,(St.jn_shut (J:=J) (V:=⟨vt,vc,slice A i c,slice Aa i ca⟩) (recI.mono HSUB.o HRI.o) (((HST.o.pull 3 _ rfl).pull 3 _ rfl).pull 3 _ rfl)).pull 1 _ rfl⟩
end
def SeenB (S:Str):Prop:=∀ k t,get k S.seen=some t->∀ y ∈ t.b,isByte y
def BytO (o:Option TS):Prop:=∀ t,o=some t->∀ y ∈ t.b,isByte y
theorem ZkL {b:List Int} {off:Nat} {p:List Int} (hb:∀ y ∈ b,isByte y) (hp:∀ y ∈ p,isByte y):∀ y ∈ layB b off p,isByte y:=by
 intro y hy;unfold layB at hy;split at hy
 ·exact hb y hy
 ·simp only [Za6] at hy;rcases hy with (hy|hy)|hy
  ·rcases Za6.1 (ZbI hy) with hy|hy
   ·exact hb y hy
   ·rw [List.eq_of_mem_replicate hy];unfold isByte;omega
  ·exact hp y hy
  ·exact hb y (Zda hy)
theorem ZoL {o:Option TS} {d:Dd} (ho:BytO o) (hd:∀ y ∈ d.p,isByte y):BytO (stepD o d):=by
 intro t ht;unfold stepD at ht;split at ht
 ·simp only [Zaa] at ht;subst ht;intro y hy;cases hy
 split at ht
 ·cases ht
 split at ht
 ·cases ht
 rename_i u;have hu:=ho u rfl;split at ht
 ·simp only [Zaa] at ht;subst ht;exact ZkL hu hd
 split at ht
 ·simp only [Zaa] at ht;subst ht;exact fun y hy=>hu y (ZbI hy)
 split at ht
 ·simp only [Zaa] at ht;subst ht;exact hu
 ·simp only [Zaa] at ht;subst ht;exact hu
theorem Zip {S:Str} {k:K4} {d:Dd} (h:SeenB S) (hd:∀ y ∈ d.p,isByte y) (h0:offE (doS S k d).1=0):SeenB (doS S k d).2:=by
 have hb:(Z5 S).1=false:=by
  cases hb:(Z5 S).1 with
  | false=>rfl
  | true=>rw [Zsk hb] at h0;cases h0
 have hdn:=(Zgv (k:=k) (d:=d) hb).2;intro k' t ht;rw [hdn.seen] at ht;split at ht
 ·exact ZoL (fun t ht=>h k t ht) hd t ht
 ·exact h k' t ht
theorem ZpN {S:Str} {k:K4} (h:SeenB S) (h0:(dropS S k).1=0):SeenB (dropS S k).2:=by
 unfold dropS at h0 |-;split
 ·rename_i hw;rw [Zb hw] at h0;exact Zip h (fun y hy=>by cases hy) h0
 ·exact h
theorem ZkM {S:Str} {k:K4} {n:Int} (h:SeenB S) (h0:(trimS S k n).1=0):SeenB (trimS S k n).2:=by
 unfold trimS at h0 |-;split
 ·rename_i t ht;rw [ht] at h0;simp only at h0;split
  ·rename_i hw;rw [Zb hw] at h0;exact Zip h (fun y hy=>by cases hy) h0
  ·exact h
 ·exact h
theorem ZoM {S:Str} {k:K4} {off:Int} {b:List Int} (h:SeenB S) (hb:∀ y ∈ b,isByte y) (h0:(ZbA S k off b).1=0):SeenB (ZbA S k off b).2:=by
 by_cases hw:whyS S k=0
 ·cases hg:get k S.seen with
  | none =>
   unfold ZbA at h0 |-;rw [hg] at h0 |-;exact h
  | some t =>
   by_cases hw2:ZbW S t off b=0
   ·rw [Zgh hw hg hw2] at h0 |-;exact Zip h hb h0
   ·rw [Zhv hw hg hw2];exact h
 ·rw [Zhu hw];exact h
theorem ZkN {S:Str} {k:K4} {off n:Int} (h:SeenB S):∀ y ∈ (readS S k off n).1,isByte y:=by
 intro y hy;unfold readS at hy;split at hy
 ·split at hy
  ·cases hy
  ·rename_i t ht;split at hy
   ·cases hy
   ·exact h k t ht y (Zda (ZbI hy))
 ·cases hy
theorem ZkO {mm:List (K4 × List Int)} {k:K4} {S:Str} {m:Nat} (h:Keeps S (m+4)):Keeps (fixS mm k S).2 m:=by
 have h2:Keeps S (m+2):=h.fewer (by omega);unfold fixS;split
 ·exact h.fewer (by omega)
 split
 ·exact h.fewer (by omega)
 split
 ·exact Zhh h2
 split
 ·exact ZfX h2
 split
 ·exact ZfX h2
 ·exact Zjv (ZfX (m:=m+2) h)
theorem ZpO {mm:List (K4 × List Int)} {k:K4} {S:Str} (h:SeenB S) (hm:∀ y ∈ Zl mm k,isByte y) (h0:(fixS mm k S).1=0):SeenB (fixS mm k S).2:=by
 unfold fixS at h0 |-;split
 ·exact h
 rename_i h1;rw [Za h1] at h0;split
 ·exact h
 rename_i h2;rw [Za h2] at h0;split
 ·rename_i h3;rw [Zb h3] at h0;exact ZpN h h0
 rename_i h3;rw [Za h3] at h0;split
 ·rename_i h4;rw [Zb h4] at h0;exact ZkM h h0
 rename_i h4;rw [Za h4] at h0;split
 ·rename_i h5;rw [Zb h5] at h0;exact absurd h0 h5
 ·rename_i h5;rw [Za h5] at h0;exact ZoM (ZkM h (by simpa using h5)) hm h0
theorem Zgd {mm:List (K4 × List Int)}:∀ {ks:List K4} {S:Str} {m:Nat},Keeps S (m+4*ks.length)->Keeps (fixL mm ks S).2 m
 | [],S,m,h=>ZeC (by simpa using h)
 | k::ks,S,m,h=>by
  have h1:Keeps (fixS mm k S).2 (m+4*ks.length):=ZkO (by simpa [Nat.mul_add,Zbb] using h);unfold fixL;split
  ·exact h1.fewer (by omega)
  ·exact Zgd h1
theorem ZkP {c:Rg}:∀ {es:List En} {ps:List Pl} {m:List (K4 × List Int)},(∀ e ∈ es,∀ y ∈ e.data,isByte y)->(∀ k,∀ y ∈ Zl m k,isByte y)->∀ k,∀ y ∈ Zl (ZcC c es ps m) k,isByte y
 | [],[],m,_,hm=>hm
 | [],_::_,m,_,hm=>hm
 | _::_,[],m,_,hm=>hm
 | e::es,p::ps,m,he,hm=>by
  refine ZkP (es:=es) (ps:=ps) (m:=Zc6 m (keyOf c p) (Zah e)) (fun x hx=>he x (ZaB _ hx)) fun k y hy=>?_;have hf:∀ y ∈ Zah e,isByte y:=fun y hy=>by
   have hpb:∀ n k,∀ y ∈ putB n k,isByte y:=fun n k y hy=>by
    unfold putB at hy;obtain ⟨i,_,rfl⟩:=Zam.1 hy;unfold isByte;omega
   unfold Zah headB at hy;simp only [Za6] at hy;rcases hy with ((((hy|hy)|hy)|hy)|hy)|hy
   ·simp only [Z4,Zbv,Zbi] at hy;unfold isByte;omega
   ·exact hpb _ _ y hy
   ·exact hpb _ _ y hy
   ·exact hpb _ _ y hy
   ·exact he e (Zat ..) y hy
   ·exact hpb _ _ y hy
  unfold Zl Zc6 at hy;by_cases h:k=keyOf c p
  ·subst h;rw [ZcU] at hy;simp only [ZgM] at hy;rcases Za6.1 hy with hy|hy
   ·exact hm _ y hy
   ·exact hf y hy
  ·rw [Zdv h] at hy;exact hm k y hy
section
variable {p q : Nat} {J : Jn} {S : Str}
theorem St.jn_ptr (h:St W I w (jnHP q p J::l)):w.cell? ⟨q,0,none⟩=some (pointer (some ⟨p,0,none⟩))∧q<w.heap.size:=by
 obtain ⟨V,hr,h1⟩:=h.jn_open;exact ⟨jn_c0 h1,h1.lt⟩
theorem St.jn_bytes (h:St W I w (jnHP q p J::l)):∀ e ∈ J.l,∀ y ∈ e.data,isByte y:=by
 obtain ⟨V,hr,h1⟩:=h.jn_open;obtain ⟨M,e,hM,_⟩:=(h1.pull 1 _ rfl).ents_open;intro x hx;rw [<-e] at hx;obtain ⟨z,hz,rfl⟩:=Zam.1 hx;exact (hM z hz).2
theorem St.want_look {b:Nat} {m:List (K4 × List Int)} (k:K4) (h:St W I w (Zdk b m::l)) :
  ∃ A c H,(∀ w2,Below w.heap.size w w2->(Instr.lookup 215 (.map (some b)) k.val false).run prog w2=.ok (slice A (Zl m k).length c) w2) ∧
   St W I w (rowHP (slice A (Zl m k).length c) (Zl m k)::H::l)∧(∀ {I':Hp} {w':World} {l':List HP},St W I' w' (rowHP (slice A (Zl m k).length c) (Zl m k)::H::l')->St W I' w' (Zdk b m::l')):=by
 have hn:=St.mapOf_nodup h;rcases St.mapOf_look h underlying215 (z:=slice none 0 0) (fun w=>by kernel_rfl) k with ⟨hg,hl⟩|⟨v,x,hg,hl,h1⟩
 ·have e:Zl m k=[]:=by simp [Zl,hg]
  rw [e];exact ⟨none,0,Zdk b m,fun w2 hw=>hl w2 hw false,h.row_nil _ _,fun h'=>h'.drop⟩
 ·have e:Zl m k=x:=by simp [Zl,hg]
  rw [e];obtain ⟨A,c,rfl⟩:=ZA (St.row_owns h1);exact ⟨A,c,_,fun w2 hw=>hl w2 hw false,h1,fun h'=>St.mapOf_perm h'.hole_back (ZeE hn hg).symm⟩
end
end Go.Proofs.YtpjchngjhijgmaaGreat
