import Derived.Test.YtpjchngjhijgmaaGreatJM27
import Derived.Test.YtpjchngjhijgmaaGreatJM26
set_option linter.all false
namespace Go.Proofs.YtpjchngjhijgmaaGreat
open Go.RowKit
theorem Zq94 {n:Int} {k:Nat} (h0:0≤n) (h1:n<2 ^ (8*k)):getB (putB n k)=n:=Zq450 k n h0 h1
def En.bytes (e:En):Prop:=∀ x ∈ e.data,isByte x
theorem Zq553 {e:En} (h:e.bytes):∀ x ∈ headB e,isByte x:=by
 intro x hx
 unfold headB at hx
 simp only [List.mem_append] at hx
 rcases hx with (((hx|hx)|hx)|hx)|hx
 ·simp only [List.mem_cons,List.not_mem_nil,or_false] at hx
  unfold isByte
  omega
 ·exact Zq77 _ _ x hx
 ·exact Zq77 _ _ x hx
 ·exact Zq77 _ _ x hx
 ·exact h x hx
theorem Zq456 {e:En} (h:e.bytes):∀ x ∈ Zq46 e,isByte x:=by
 intro x hx
 rcases List.mem_append.1 hx with hx|hx
 ·exact Zq553 h x hx
 ·exact Zq77 _ _ x hx
theorem En.okB_iff {e:En}:e.okB=true↔(1≤e.tag∧e.tag≤1073741824)∧(1≤e.seq∧e.seq≤1099511627776)∧1≤e.data.length∧e.data.length≤90:=by
 unfold En.okB
 rw [decide_eq_true_eq]
 omega
theorem Zq508 (b:List Int):0≤crcOf b∧crcOf b<4294967296:=u32_xor _ _
theorem Zq651 (e:En) (rest:List Int):(headB e++rest).take 4=Zq429∧((headB e++rest).drop 4).take 4=putB e.tag 4∧((headB e++rest).drop 8).take 8=putB e.seq 8∧((headB e++rest).drop 16).take 2=putB e.data.length 2∧(headB e++rest).drop 18=e.data++rest:=by
 have hl1:=Zq33 e.tag 4
 have hl2:=Zq33 e.seq 8
 have hl3:=Zq33 e.data.length 2
 unfold headB
 generalize putB e.tag 4=a at *
 generalize putB e.seq 8=b at *
 generalize putB (e.data.length:Int) 2=c at *
 match a,hl1 with
 | [a0,a1,a2,a3],_ =>
  match b,hl2 with
  | [b0,b1,b2,b3,b4,b5,b6,b7],_ =>
   match c,hl3 with
   | [c0,c1],_=>exact ⟨rfl,rfl,rfl,rfl,rfl⟩
theorem Zq457 {e:En} (h:e.okB=true) (rest:List Int) (hl:4≤rest.length):takeR (headB e++rest)=if getB (rest.take 4)≠crcOf (headB e) then (enZ,0,13) else (e,22+e.data.length,0):=by
 rw [En.okB_iff] at h
 obtain ⟨p1,p2,p3,p4,p5⟩:=Zq651 e rest
 have ht:tagR (headB e++rest)=e.tag:=by
  unfold tagR
  rw [p2]
  exact Zq94 (by omega) (by have:(2:Int) ^ (8*4)=4294967296:=rfl;omega)
 have hs:seqR (headB e++rest)=e.seq:=by
  unfold seqR
  rw [p3]
  exact Zq94 (by omega) (by have:(2:Int) ^ (8*8)=18446744073709551616:=rfl;omega)
 have hn:lenR (headB e++rest)=e.data.length:=by
  unfold lenR
  rw [p4]
  exact Zq94 (by omega) (by have:(2:Int) ^ (8*2)=65536:=rfl;omega)
 have hlen:(headB e++rest).length=18+e.data.length+rest.length:=by rw [List.length_append,Zq143]
 have hne:headB e++rest≠[]:=by
  intro e0
  rw [e0,List.length_nil] at hlen
  omega
 unfold takeR
 rw [if_neg hne,if_neg (by rintro (q|q);(· omega);(· exact q p1)),ht,hs,hn]
 rw [if_neg (by
  rw [not_or]
  refine ⟨?_,by omega⟩
  unfold mayF
  rw [decide_eq_true (by omega)]
  simp)]
 have h18:(headB e++rest).take (18+((e.data.length:Int)).toNat)=headB e:=by
  rw [Int.toNat_natCast,←Zq143 e,List.take_left']
  rfl
 have h18d:(headB e++rest).drop (18+((e.data.length:Int)).toNat)=rest:=by
  rw [Int.toNat_natCast,←Zq143 e,List.drop_left']
  rfl
 rw [h18,h18d,p5,Int.toNat_natCast,List.take_left' rfl]
theorem Zq652 {e:En} (h:e.okB=true) (rest:List Int):takeR (Zq46 e++rest)=(e,22+e.data.length,0):=by
 unfold Zq46
 rw [List.append_assoc,Zq457 h _ (by rw [List.length_append,Zq33];omega),if_neg]
 have hl:=Zq33 (crcOf (headB e)) 4
 rw [List.take_left' hl,Zq94 (Zq508 _).1 (by have:(2:Int) ^ (8*4)=4294967296:=rfl;have:=(Zq508 (headB e)).2;omega)]
 simp
theorem take_nil:takeR []=(enZ,0,4):=by unfold takeR;rw [if_pos rfl]
theorem Zq401:∀ (f g:Nat) (r:List Int),r.length≤f→r.length≤g→allGo f r=allGo g r
 | 0,g,r,h,_=>by
  have:r=[]:=List.eq_nil_of_length_eq_zero (by omega)
  subst this
  cases g with
  | zero=>rfl
  | succ g=>simp [allGo,take_nil]
 | f+1,0,r,_,h=>by
  have:r=[]:=List.eq_nil_of_length_eq_zero (by omega)
  subst this
  simp [allGo,take_nil]
 | f+1,g+1,r,h1,h2=>by
  unfold allGo
  split
  ·rfl
  ·rename_i h
   have hk:=Zq346 (r:=r) (by simpa using h)
   have:=Zq401 f g (r.drop (takeR r).2.1) (by rw [List.length_drop];omega) (by rw [List.length_drop];omega)
   rw [this]
def Zq41 (es:List En):List Int:=es.flatMap Zq46
theorem Zq149 (e:En) (es:List En):Zq41 (e::es)=Zq46 e++Zq41 es:=rfl
theorem Zq209 (a b:List En):Zq41 (a++b)=Zq41 a++Zq41 b:=List.flatMap_append
theorem Zq402 {rest:List Int}:∀ {es:List En},(∀ e ∈ es,e.okB=true)→(takeR rest).2.2≠0→(allB (Zq41 es++rest)).1=es
 | [],_,hr=>by
  unfold allB
  cases hl:(Zq41 []++rest).length with
  | zero=>rfl
  | succ n =>
   unfold allGo
   rw [if_pos (by simpa [Zq41] using hr)]
 | e::es,he,hr=>by
  have h1:=he e (List.mem_cons_self ..)
  have ih:=Zq402 (es:=es) (fun x hx=>he x (List.mem_cons_of_mem _ hx)) hr
  unfold allB at ih ⊢
  rw [Zq149,List.append_assoc]
  have hb:=Zq652 h1 (Zq41 es++rest)
  obtain ⟨n,hn⟩:∃ n,(Zq46 e++(Zq41 es++rest)).length=n+1:=⟨_,by rw [List.length_append,Zq38];exact (Nat.succ_pred (by omega)).symm⟩
  rw [hn]
  unfold allGo
  rw [hb]
  simp only
  rw [if_neg (by simp)]
  have hd:(Zq46 e++(Zq41 es++rest)).drop (22+e.data.length)=Zq41 es++rest:=by
   rw [←Zq38 e,List.drop_left' rfl]
  rw [hd,Zq401 n (Zq41 es++rest).length _ (by rw [List.length_append,Zq38] at hn;omega) (Nat.le_refl _),ih]
theorem Zq210 {es:List En} (he:∀ e ∈ es,e.okB=true):(allB (Zq41 es)).1=es:=by
 have:=Zq402 (rest:=[]) he (by rw [take_nil];simp)
 rwa [List.append_nil] at this
theorem Zq458 (m:List (Int × En)) (e:En) (s:Int):get s (Zq49 m e)=if (get s m).isSome then get s m else if s=e.seq then some e else none:=by
 unfold Zq49
 by_cases h:(get e.seq m).isSome=true
 ·rw [if_pos h]
  by_cases hs:(get s m).isSome=true
  ·rw [if_pos hs]
  ·rw [if_neg hs,if_neg (by rintro rfl;exact hs h)]
   simpa using hs
 ·rw [if_neg h]
  by_cases e1:s=e.seq
  ·subst e1
   rw [Zq44,if_neg h,if_pos rfl]
  ·rw [Zq74 (by exact e1),if_neg e1]
   split
   ·rfl
   ·rename_i h2;simpa using h2
def Zq431 (es:List En) (s:Int):Option En:=es.find? fun e=>decide (e.seq=s)
theorem Zq306 (s:Int):∀ (es:List En) (m:List (Int × En)),get s (es.foldl Zq49 m)=if (get s m).isSome then get s m else Zq431 es s
 | [],m=>by
  show get s m=_
  split
  ·rfl
  ·rename_i h;simpa [Zq431] using h
 | e::es,m=>by
  rw [List.foldl_cons,Zq306 s es,Zq458]
  unfold Zq431
  rw [List.find?_cons]
  by_cases h:(get s m).isSome=true
  ·simp only [h,if_true]
  ·by_cases e1:s=e.seq
   ·rw [if_neg h,if_neg h,if_pos e1,decide_eq_true e1.symm]
    rfl
   ·rw [if_neg h,if_neg h,if_neg e1,decide_eq_false (by exact fun q=>e1 q.symm)]
    rfl
theorem Zq554 (rs:List (List Int)):Zq50 rs=(rs.flatMap fun r=>(allB r).1).foldl Zq49 []:=by
 unfold Zq50
 generalize ([]:List (Int × En))=m
 induction rs generalizing m with
 | nil=>rfl
 | cons r rs ih=>rw [List.foldl_cons,List.flatMap_cons,List.foldl_append,ih]
theorem Zq187 (rs:List (List Int)) (s:Int):get s (Zq50 rs)=Zq431 (rs.flatMap fun r=>(allB r).1) s:=by
 rw [Zq554,Zq306]
 rfl
def runs:List En→Int→Prop
 | [],_=>True
 | e::es,s=>e.seq=s∧runs es (s+1)
theorem Zq509 {m:List (Int × En)}:∀ {es:List En} {s:Int},runs es s→(∀ e ∈ es,get e.seq m=some e)→get (s+es.length) m=none→runM m s=es
 | [],s,_,_,h=>by
  rw [Zq506]
  simp only [List.length_nil,Int.ofNat_zero,Int.add_zero] at h
  have h':get s m=none:=by simpa using h
  rw [h']
 | e::es,s,hr,hg,h=>by
  rw [Zq506]
  have h1:=hg e (List.mem_cons_self ..)
  rw [hr.1] at h1
  rw [h1]
  simp only
  rw [Zq509 hr.2 (fun x hx=>hg x (List.mem_cons_of_mem _ hx)) (by
   rw [←h]
   congr 1
   simp only [List.length_cons]
   omega)]
theorem Zq274:∀ {es:List En} {s:Int} {i:Nat} {e:En},runs es s→es[i]?=some e→e.seq=s+i
 | e'::es,s,0,e,h,he=>by
  simp at he
  subst he
  simp [h.1]
 | e'::es,s,i+1,e,h,he=>by
  rw [Zq274 h.2 (by simpa using he)]
  omega
theorem Zq818 {es:List En} {s:Int} (h:runs es s) {a b:En} (ha:a ∈ es) (hb:b ∈ es) (e:a.seq=b.seq):a=b:=by
 obtain ⟨i,hi⟩:=List.getElem?_of_mem ha
 obtain ⟨j,hj⟩:=List.getElem?_of_mem hb
 have h1:=Zq274 h hi
 have h2:=Zq274 h hj
 obtain rfl:i=j:=by omega
 rw [hi] at hj
 exact Option.some.inj hj
theorem Zq403 {es:List En} {s:Int} {e:En} (h:Zq431 es s=some e):e ∈ es∧e.seq=s:=⟨List.mem_of_find?_eq_some h,by simpa using List.find?_some h⟩
theorem Zq555 {es:List En} {s:Int}:Zq431 es s=none↔∀ e ∈ es,e.seq≠s:=by
 unfold Zq431
 rw [List.find?_eq_none]
 simp
theorem Zq653 {rs:List (List Int)} {es:List En} {s:Int} (hs:1≤s) (hr:runs es s) (h1:∀ e ∈ es,e ∈ rs.flatMap fun r=>(allB r).1) (h2:∀ e ∈ rs.flatMap fun r=>(allB r).1,s≤e.seq→e.seq≤s+es.length→e ∈ es):Zq177 rs s=es:=by
 unfold Zq177
 rw [if_neg (by omega)]
 have hget:∀ e ∈ es,get e.seq (Zq50 rs)=some e:=fun e he=>by
  rw [Zq187]
  obtain ⟨i,hi⟩:=List.getElem?_of_mem he
  have hq:=Zq274 hr hi
  have hil:=(List.getElem?_eq_some_iff.1 hi).1
  cases hf:Zq431 (rs.flatMap fun r=>(allB r).1) e.seq with
  | none=>exact absurd rfl (Zq555.1 hf e (h1 e he))
  | some x =>
   obtain ⟨hx1,hx2⟩:=Zq403 hf
   rw [Zq818 hr (h2 x hx1 (by omega) (by omega)) he hx2]
 refine Zq509 hr hget ?_
 rw [Zq187,Zq555]
 intro x hx hxs
 have hm:=h2 x hx (by omega) (by omega)
 obtain ⟨i,hi⟩:=List.getElem?_of_mem hm
 have hq:=Zq274 hr hi
 have hil:=(List.getElem?_eq_some_iff.1 hi).1
 omega
end Go.Proofs.YtpjchngjhijgmaaGreat
namespace Go.Proofs.YtpjchngjhijgmaaGreat
open Go.RowKit
def keyOf (c:Rg) (p:Pl):K4:=⟨2,0,rnum c p,0⟩
def Zq281 (m:List (K4 × List Int)) (k:K4) (b:List Int):List (K4 × List Int):=put k ((get k m).getD []++b) m
def Zq235 (c:Rg):List En→List Pl→List (K4 × List Int)→List (K4 × List Int)
 | e::es,p::ps,m=>Zq235 c es ps (Zq281 m (keyOf c p) (Zq46 e))
 | _,_,m=>m
def rowsJ (J:Jn):List (K4 × List Int):=Zq235 J.r.shape J.l J.at_ []
def Zq19 (m:List (K4 × List Int)) (k:K4):List Int:=(get k m).getD []
def fixS (m:List (K4 × List Int)) (k:K4) (S:Str):Int × Str :=
 if (readS S k 0 (lenAt S k)).2≠0 then ((readS S k 0 (lenAt S k)).2,S)
 else if (readS S k 0 (lenAt S k)).1=Zq19 m k∧Zq19 m k≠[] then (0,S)
 else if Zq19 m k=[] then dropS S k
 else if Zq19 m k<+:(readS S k 0 (lenAt S k)).1 then trimS S k (Zq19 m k).length
 else if (trimS S k 0).1≠0 then trimS S k 0 else Zq134 (trimS S k 0).2 k 0 (Zq19 m k)
def fixL (m:List (K4 × List Int)):List K4→Str→Int × Str
 | [],S=>Zq14 S
 | k::ks,S=>if (fixS m k S).1≠0 then fixS m k S else fixL m ks (fixS m k S).2
def trimJ (S:Str) (J:Jn):Int × Str:=fixL (rowsJ J) (Zq21 S ⟨2,0⟩) S
def Zq102 (r:Rc) (e:Int):Rc:=⟨r.shape,r.first,r.set,Zq36 r.tags e,r.cls.map fun c=>{ c with pos:=min c.pos e }⟩
def Zq769 (J:Jn) (e:Int):Jn:={ J with safe:=e }
def mendJ (S:Str) (J:Jn):Int × Str × Jn :=
 if (trimJ S J).1≠0 then ((trimJ S J).1,(trimJ S J).2,endsJ J (trimJ S J).1)
 else ((saveJ (trimJ S J).2 (Zq102 J.r (endJ J))).1,(saveJ (trimJ S J).2 (Zq102 J.r (endJ J))).2,
  endsJ (Zq769 (recJ J (Zq102 J.r (endJ J))) (endJ J)) (saveJ (trimJ S J).2 (Zq102 J.r (endJ J))).1)
def tagged (ts:List Tag) (es:List En):List En:=es.takeWhile fun e=>decide (e.tag=tagOf ts e.seq)
def readRows (S:Str):List (List Int):=(Zq21 S ⟨2,0⟩).map fun k=>(readS S k 0 (lenAt S k)).1
def Zq65 (S:Str) (r:Rc):Jn:=⟨r,tagged r.tags (Zq177 (readRows S) r.first),[],Fl.zero,0,false⟩
def openJ (S:Str) (r:Rc):Int × Str × Jn:=mendJ S (layJ (Zq65 S r))
def cutJ (S:Str) (J:Jn) (e:Int):Int × Str × Jn :=
 if mayJ S J≠0 then (mayJ S J,S,mayJ2 S J)
 else if e<J.r.first - 1∨endJ J<e then (3,S,J)
 else mendJ S (layJ (lJ J (J.l.take (e - J.r.first+1).toNat) J.at_ J.fill))
end Go.Proofs.YtpjchngjhijgmaaGreat
namespace Go.Proofs.YtpjchngjhijgmaaGreat
open Go.RowKit
def rowHP (v:Value) (x:List Int):HP:=HP.row 5 1 v x.length (x.map byteV)
def Zq286 (b:Nat) (m:List (K4 × List Int)):HP:=HP.mapOf keyKT rowHP b m
theorem Pl.vals_len (p:Pl):p.vals.length=2:=rfl
section
variable {W w w' : World} {I : Hp} {l : List HP} {p q : Nat} {J : Jn}
theorem St.places_cell {v:Value} {ps:List Pl} {i:Nat} {pl:Pl} (h:St W I w (Zq20 v ps::l)) (hi:ps[i]?=some pl):∃ g q c,v=.slice (some ⟨g,q,none⟩) ps.length c∧g<w.heap.size∧ps.length≤c ∧
  w.cell? ⟨g,q+i*2,none⟩=some (.int .i64 pl.set)∧w.cell? ⟨g,q+i*2+1,none⟩=some (.int .i64 pl.obj):=by
 have hil:=(List.getElem?_eq_some_iff.1 hi).1
 have hl:=St.win_len h
 obtain ⟨g,q,c,e1,hg,hnc,hc⟩:=St.win_cell h (by rw [hl];omega)
 refine ⟨g,q,c,e1,hg,hnc,?_,?_⟩
 ·exact hc (i*2) _ ((Zq93 Pl.vals_len ps i 0 pl hi (by decide)).trans rfl)
 ·rw [Nat.add_assoc]
  exact hc (i*2+1) _ ((Zq93 Pl.vals_len ps i 1 pl hi (by decide)).trans rfl)
theorem St.want_entry {b:Nat} {m:List (K4 × List Int)} (k:K4) (h:St W I w (Zq286 b m::l)) :
  ∃ st A c w',(Instr.mapEntry 215 (.map (some b)) k.val).run Tryz.prog w=.ok (.tuple #[.slice A (Zq19 m k).length c,goInt (st:Nat)]) w'∧w'.heap.size=w.heap.size ∧
   St W I w' (rowHP (.slice A (Zq19 m k).length c) (Zq19 m k)::HP.held keyKT rowHP b k (.slice A (Zq19 m k).length c) st (del k m)::l):=by
 obtain ⟨st,v,w',hr,hs,h1|⟨x,hg,h1⟩⟩:=St.mapOf_entry h Tryz.underlying215 (z:=.slice none 0 0) (fun w=>by kernel_rfl) k
 ·obtain ⟨hg,rfl,h2⟩:=h1
  refine ⟨st,none,0,w',?_,hs,?_⟩
  ·rw [show (Zq19 m k).length=0 by simp [Zq19,hg]];exact hr
  ·rw [show Zq19 m k=[] by simp [Zq19,hg]]
   exact h2.row_nil _ _
 ·have e:Zq19 m k=x:=by simp [Zq19,hg]
  obtain ⟨A,c,rfl⟩:=Zq17 (St.row_owns h1)
  rw [e]
  exact ⟨st,A,c,w',hr,hs,h1⟩
theorem Zq404 {m:List (K4 × List Int)} {k0:K4} {b:List Int} {n:Nat} (h:∀ k,(Zq19 m k).length≤n) (hb:b.length≤1000) (k:K4):(Zq19 (Zq281 m k0 b) k).length≤n+1000:=by
 unfold Zq19 Zq281
 have h1:=h k
 by_cases e:k=k0
 ·subst e
  rw [Zq44]
  unfold Zq19 at h1
  rw [Option.getD_some,List.length_append]
  omega
 ·rw [Zq74 e]
  unfold Zq19 at h1
  omega
set_option maxRecDepth 4000
set_option maxHeartbeats 4000000
theorem Zq654 (h:St W I w (jnHP q p J::l)) (hl:J.at_.length=J.l.length) (hn:J.l.length≤100000) (hE:∀ e ∈ J.l,e.okB=true) :
  Calls Tryz.prog 154 #[.pointer (some ⟨q,0,none⟩)] w fun e w'=>∃ I' b,I.sub I'∧e=.returned (.map (some b))∧St W I' w' (Zq286 b (rowsJ J)::jnHP q p J::l):=by
 obtain ⟨V,hrI,h1⟩:=h.jn_open
 obtain ⟨A,c,hvl,hnc,_⟩:=(h1.pull 1 _ rfl).ents_slice
 obtain ⟨Aa,ca,hva,hnca,_⟩:=(h1.pull 2 _ rfl).win_slice
 obtain ⟨vt,vc,vl,va⟩:=V
 simp only at hvl hva hrI h1
 subst hvl
 subst hva
 have k8:=jn_c8 h1
 simp only at k8
 have lq:=h1.lt
 obtain ⟨gm,hgm⟩:∃ g,g=w.heap.size:=⟨_,rfl⟩
 have h2:=(h1.alloc (.map #[] 0))
 rw [←hgm] at h2
 have h3:St W I (w.alloc (.map #[] 0)) (Zq286 gm []::jnBlk q p J ⟨vt,vc,.slice A J.l.length c,.slice Aa J.at_.length ca⟩::Zq23 (.slice A J.l.length c) J.l::Zq20 (.slice Aa J.at_.length ca) J.at_::l):=h2.mapOf_made
 obtain ⟨n0,hn0⟩:∃ x,x=J.l.length:=⟨_,rfl⟩
 rw [hl] at h3
 rw [←hn0] at k8 h3 hn hnc hl
 have HN0:=Zh hn0
 have HL:=Zh hl
 have HE:=Zh hE
 have HRI:=Zh hrI
 have H3:=Zh h3
 have HGM:=Zh hgm
 have hmm:=@run_makeMap Tryz.prog
 clear h h1 hrI hn0 hE h2 h3 hl hnca hgm
 go_enter Tryz.func154,Tryz.ntmps154
 go_wp2_with fail
 rw [←HGM.out]
 clear hmm
 go_loopw [15] (fun a15 wr=>∃ (i:Nat) (m:List (K4 × List Int)) (I1:Hp),a15=.int .i64 i∧i≤n0∧I.sub I1∧(∀ k,(Zq19 m k).length≤1000*i)∧rowsJ J=Zq235 J.r.shape (J.l.drop i) (J.at_.drop i) m∧St W I1 wr (Zq286 gm m::jnBlk q p J ⟨vt,vc,.slice A n0 c,.slice Aa n0 ca⟩::Zq23 (.slice A n0 c) J.l::Zq20 (.slice Aa n0 ca) J.at_::l)) (fun a15 _=>n0 - (intOf a15).toNat)
 case atStart=>exact ⟨0,[],I,rfl,Nat.zero_le _,Hp.sub.refl _,fun k=>by simp [Zq19,get],rfl,H3.out⟩
 case round =>
  obtain ⟨i,m,I1,rfl,hi,hsub,hwl,hgo,hst⟩:=hrel
  have HSUB:=Zh hsub
  clear hsub
  have HWL:=Zh hwl
  clear hwl
  clear k8 lq H3
  by_cases hlt:i<n0
  ·have hlt2:(i:Int)<(n0:Int):=by omega
   obtain ⟨e,he⟩:∃ e,J.l[i]?=some e:=⟨_,List.getElem?_eq_getElem (by rw [←HN0.out];exact hlt)⟩
   obtain ⟨pl,hpl⟩:∃ e,J.at_[i]?=some e:=⟨_,List.getElem?_eq_getElem (by rw [HL.out];exact hlt)⟩
   obtain ⟨g,qq,c2,vd,e2,hg,hbd,hbb,y0,y1,y2⟩:=(hst.pull 2 _ rfl).ents_cell he
   rw [←HN0.out] at e2
   simp only [Value.slice.injEq] at e2
   obtain ⟨rfl,hnn,rfl⟩:=e2
   clear hnn
   obtain ⟨g',qq',c3,e3,hg',hnc3,z0,z1⟩:=(hst.pull 3 _ rfl).places_cell hpl
   rw [HL.out] at e3 hnc3
   simp only [Value.slice.injEq] at e3
   obtain ⟨rfl,hnn,rfl⟩:=e3
   clear hnn
   obtain ⟨Ad,cd,rfl⟩:=hbd.isSl
   have hok:=HE.out e (List.mem_of_getElem? he)
   have hmay:mayF e.tag e.seq e.data.length=true:=by
    have:=En.okB_iff.1 hok
    unfold mayF
    exact decide_eq_true (by omega)
   have hdr:rowsJ J=Zq235 J.r.shape (J.l.drop (i+1)) (J.at_.drop (i+1)) (Zq281 m (keyOf J.r.shape pl) (Zq46 e)):=by
    rw [hgo,List.drop_eq_getElem_cons (List.getElem?_eq_some_iff.1 he).1,List.drop_eq_getElem_cons (List.getElem?_eq_some_iff.1 hpl).1,(List.getElem?_eq_some_iff.1 he).2,(List.getElem?_eq_some_iff.1 hpl).2]
    rfl
   have hsz:(Zq46 e).length≤1000:=by
    rw [Zq38]
    have:=(En.okB_iff.1 hok).2.2
    omega
   have HSZ:=Zh hsz
   have h4:=hst.alloc (.cells #[.int .i64 e.tag,.int .i64 e.seq,.slice Ad e.data.length cd] 50)
   obtain ⟨tg,sq,d⟩:=e
   simp only at y0 y1 y2 hmay h4 hbd
   have hlay:=Zq497 tg sq d Ad cd (wr.alloc (.cells #[.int .i64 tg,.int .i64 sq,.slice Ad d.length cd] 50)) hmay (Zq29 h4 hbd) hbb
   have HLAY:=Zh hlay
   have HDR:=Zh hdr
   have H4:=Zh h4
   have hgs:g<(wr.alloc (.cells #[.int .i64 tg,.int .i64 sq,.slice Ad d.length cd] 50)).heap.size:=by simp;omega
   clear hbd hbb he hok hmay hgo hdr hsz hlay h4 hst hgs
   go_wp2_with fail
   refine HLAY.out.mono ?_
   rintro e w5 ⟨A5,c5,f5,rfl,rfl,h5⟩
   obtain ⟨I5,hs5,hB5,h6⟩:=Zq31 H4.out h5.below h5.row_new
   have hg5:g'<w5.heap.size:=Nat.lt_of_lt_of_le (by simp;omega) h5.below.size
   have hz0:w5.cell? ⟨g',qq'+i*2,none⟩=some (.int .i64 pl.set):=(h5.below.cell (by simp;omega)).trans (((Zq7 wr _).cell hg').trans z0)
   have hz1:w5.cell? ⟨g',qq'+i*2+1,none⟩=some (.int .i64 pl.obj):=(h5.below.cell (by simp;omega)).trans (((Zq7 wr _).cell hg').trans z1)
   have h7:=h6.drop
   have k9:=jn_c9 (h7.pull 1 _ rfl)
   have lq:=(h7.pull 1 _ rfl).lt
   have hjn:=St.jn_shut (J:=J) (V:=⟨vt,vc,.slice (some ⟨g,qq,none⟩) n0 c,.slice (some ⟨g',qq',none⟩) n0 ca⟩) (recI.mono (HSUB.out.trans hs5) HRI.out) (((h7.pull 3 _ rfl).pull 3 _ rfl).pull 3 _ rfl)
   have hkey:=Zq501 pl hjn
   obtain ⟨rn,hrn⟩:∃ x,x=rnum J.r.shape pl:=⟨_,rfl⟩
   rw [←hrn] at hkey
   have HRN:=Zh (show keyOf J.r.shape pl=⟨2,0,rn,0⟩ by unfold keyOf;rw [hrn])
   obtain ⟨ps,po⟩:=pl
   simp only [Pl.val] at hkey hz0 hz1
   have HKEY:=Zh hkey
   have H7:=Zh h7
   have HB5:=Zh hB5
   have HS5:=Zh hs5
   clear h5 hs5 hB5 h6 h7 hjn hkey hrn H4 HLAY z0 z1
   go_wp2_with fail
   refine HKEY.out.mono ?_
   rintro e w6 ⟨rfl,hb6⟩
   have h8:=((H7.out.keep hb6).alloc (.cells #[.int .i64 2,.int .i64 0,.int .i64 rn,.int .i64 0] 43))
   obtain ⟨w7,hw7⟩:∃ x,w6.alloc (.cells #[.int .i64 2,.int .i64 0,.int .i64 rn,.int .i64 0] 43)=x:=⟨_,rfl⟩
   rw [hw7] at h8
   obtain ⟨st,Am,cm,w8,hr8,hs8,h9⟩:=St.want_entry (keyOf J.r.shape ⟨ps,po⟩) (h8.pull 1 _ rfl)
   obtain ⟨x,hx⟩:∃ x,Zq19 m (keyOf J.r.shape ⟨ps,po⟩)=x:=⟨_,rfl⟩
   rw [hx] at hr8 h9
   have hxl:x.length≤1000*i:=by rw [←hx];exact HWL.out _
   obtain ⟨v10,w10,hr10,h10⟩:=St.bytes_append 46 h9 (Zq29 h9 (HB5.out)) (by have:=HSZ.out;omega)
   obtain ⟨A10,c10,rfl⟩:=Zq17 h10.row_owns
   rw [←List.map_append] at h10
   obtain ⟨y,hy⟩:∃ y,x++Zq46 ⟨tg,sq,d⟩=y:=⟨_,rfl⟩
   have hyl:x.length+(Zq46 ⟨tg,sq,d⟩).length=y.length:=by rw [←hy,List.length_append]
   rw [hy,hyl] at h10
   obtain ⟨w11,hr11,hs11,h11⟩:=St.held_put (T:=keyKT) (own:=rowHP) (x:=y) h10 Tryz.underlying215
   have HA:=Zh (show Zq281 m (keyOf J.r.shape ⟨ps,po⟩) (Zq46 ⟨tg,sq,d⟩)=(keyOf J.r.shape ⟨ps,po⟩,y)::del (keyOf J.r.shape ⟨ps,po⟩) m by
    show put _ (Zq19 m _++_) m=_
    rw [hx,hy]
    rfl)
   have h12:St W I5 w11 (Zq286 gm (Zq281 m (keyOf J.r.shape ⟨ps,po⟩) (Zq46 ⟨tg,sq,d⟩))::HP.pt w6.heap.size (.cells #[.int .i64 2,.int .i64 0,.int .i64 rn,.int .i64 0] 43)::jnBlk q p J ⟨vt,vc,.slice (some ⟨g,qq,none⟩) n0 c,.slice (some ⟨g',qq',none⟩) n0 ca⟩::Zq23 (.slice (some ⟨g,qq,none⟩) n0 c) J.l::Zq20 (.slice (some ⟨g',qq',none⟩) n0 ca) J.at_::l):=by
    rw [HA.out];exact h11
   rw [hyl] at hr10
   rw [HRN.out] at hr8
   simp only [keyKT,K4.val,goInt] at hr8 hr11
   have H12:=Zh (h12.pull 1 _ rfl).drop
   have HR10:=Zh hr10
   have HNEW:=Zh (Zq404 (k0:=keyOf J.r.shape ⟨ps,po⟩) HWL.out HSZ.out)
   subst hw7
   have HS5':=Zh (HSUB.out.trans HS5.out)
   clear hb6 h8 h9 h10 h11 h12 hs8 hs11 hx hy hxl HWL HA HKEY H7 hr10 hz0 hz1 hyl k9
   go_wp2_with (at_builtin;refine Lib.wpList_append_run _ rfl (.tmp 36) (.tmp 37) 46 46 rfl _ _ rfl rfl _ _ HR10.out ?_)
   go_roundw
   case rel=>exact ⟨i+1,_,I5,by go_num,by omega,HS5'.out,by intro k;have:=HNEW.out k;omega,HDR.out,H12.out⟩
   case measure=>simp [intOf];omega
  ·obtain rfl:i=n0:=by omega
   have hlt2:¬ (i:Int)<(i:Int):=by omega
   rw [List.drop_of_length_le (by rw [←HN0.out];exact Nat.le_refl _),List.drop_of_length_le (by rw [HL.out];exact Nat.le_refl _)] at hgo
   have HGO:=Zh (show rowsJ J=m by rw [hgo];rfl)
   have HST:=Zh hst
   clear hgo hst
   go_wp2_with fail
   go_ret
   rw [HGO.out]
   exact ⟨I1,HSUB.out,gm,rfl,(St.jn_shut (J:=J) (V:=⟨vt,vc,.slice A i c,.slice Aa i ca⟩) (recI.mono HSUB.out HRI.out) (((HST.out.pull 3 _ rfl).pull 3 _ rfl).pull 3 _ rfl)).pull 1 _ rfl⟩
end
end Go.Proofs.YtpjchngjhijgmaaGreat
