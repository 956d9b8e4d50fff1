import Derived.Test.YtpjchngjhijgmaaGreatJQ24
import Derived.Test.YtpjchngjhijgmaaGreatJQ23
set_option linter.all false
namespace Go.Proofs.YtpjchngjhijgmaaGreat
open Go.RowKit
theorem Zq89 {n:Int} {k:Nat} (h0:0≤n) (h1:n<2 ^ (8*k)):getB (putB n k)=n:=Zq417 k n h0 h1
def En.bytes (e:En):Prop:=∀ x ∈ e.data,isByte x
theorem Zq518 {e:En} (h:e.bytes):∀ x ∈ headB e,isByte x:=by
 intro x hx
 unfold headB at hx
 simp only [List.mem_append] at hx
 rcases hx with (((hx|hx)|hx)|hx)|hx
 ·simp only [List.mem_cons,List.not_mem_nil,or_false] at hx
  unfold isByte
  omega
 ·exact Zq78 _ _ x hx
 ·exact Zq78 _ _ x hx
 ·exact Zq78 _ _ x hx
 ·exact h x hx
theorem Zq424 {e:En} (h:e.bytes):∀ x ∈ Zq46 e,isByte x:=by
 intro x hx
 rcases List.mem_append.1 hx with hx|hx
 ·exact Zq518 h x hx
 ·exact Zq78 _ _ x hx
theorem En.okB_iff {e:En}:e.okB=true↔(1≤e.tag∧e.tag≤1073741824)∧(1≤e.seq∧e.seq≤1099511627776)∧1≤e.data.length∧e.data.length≤90:=by
 unfold En.okB
 rw [decide_eq_true_eq]
 omega
theorem Zq472 (b:List Int):0≤crcOf b∧crcOf b<4294967296:=u32_xor _ _
theorem Zq609 (e:En) (rest:List Int):(headB e++rest).take 4=Zq398∧((headB e++rest).drop 4).take 4=putB e.tag 4∧((headB e++rest).drop 8).take 8=putB e.seq 8∧((headB e++rest).drop 16).take 2=putB e.data.length 2∧(headB e++rest).drop 18=e.data++rest:=by
 have hl1:=Zq32 e.tag 4
 have hl2:=Zq32 e.seq 8
 have hl3:=Zq32 e.data.length 2
 unfold headB
 generalize putB e.tag 4=a at *
 generalize putB e.seq 8=b at *
 generalize putB (e.data.length:Int) 2=c at *
 match a,hl1 with
 | [a0,a1,a2,a3],_ =>
  match b,hl2 with
  | [b0,b1,b2,b3,b4,b5,b6,b7],_ =>
   match c,hl3 with
   | [c0,c1],_=>exact ⟨rfl,rfl,rfl,rfl,rfl⟩
theorem Zq425 {e:En} (h:e.okB=true) (rest:List Int) (hl:4≤rest.length):takeR (headB e++rest)=if getB (rest.take 4)≠crcOf (headB e) then (enZ,0,13) else (e,22+e.data.length,0):=by
 rw [En.okB_iff] at h
 obtain ⟨p1,p2,p3,p4,p5⟩:=Zq609 e rest
 have ht:tagR (headB e++rest)=e.tag:=by
  unfold tagR
  rw [p2]
  exact Zq89 (by omega) (by have:(2:Int) ^ (8*4)=4294967296:=rfl;omega)
 have hs:seqR (headB e++rest)=e.seq:=by
  unfold seqR
  rw [p3]
  exact Zq89 (by omega) (by have:(2:Int) ^ (8*8)=18446744073709551616:=rfl;omega)
 have hn:lenR (headB e++rest)=e.data.length:=by
  unfold lenR
  rw [p4]
  exact Zq89 (by omega) (by have:(2:Int) ^ (8*2)=65536:=rfl;omega)
 have hlen:(headB e++rest).length=18+e.data.length+rest.length:=by rw [List.length_append,Zq129]
 have hne:headB e++rest≠[]:=by
  intro e0
  rw [e0,List.length_nil] at hlen
  omega
 unfold takeR
 rw [if_neg hne,if_neg (by rintro (q|q);(· omega);(· exact q p1)),ht,hs,hn]
 rw [if_neg (by
  rw [not_or]
  refine ⟨?_,by omega⟩
  unfold mayF
  rw [decide_eq_true (by omega)]
  simp)]
 have h18:(headB e++rest).take (18+((e.data.length:Int)).toNat)=headB e:=by
  rw [Int.toNat_natCast,←Zq129 e,List.take_left']
  rfl
 have h18d:(headB e++rest).drop (18+((e.data.length:Int)).toNat)=rest:=by
  rw [Int.toNat_natCast,←Zq129 e,List.drop_left']
  rfl
 rw [h18,h18d,p5,Int.toNat_natCast,List.take_left' rfl]
theorem Zq610 {e:En} (h:e.okB=true) (rest:List Int):takeR (Zq46 e++rest)=(e,22+e.data.length,0):=by
 unfold Zq46
 rw [List.append_assoc,Zq425 h _ (by rw [List.length_append,Zq32];omega),if_neg]
 have hl:=Zq32 (crcOf (headB e)) 4
 rw [List.take_left' hl,Zq89 (Zq472 _).1 (by have:(2:Int) ^ (8*4)=4294967296:=rfl;have:=(Zq472 (headB e)).2;omega)]
 simp
theorem take_nil:takeR []=(enZ,0,4):=by unfold takeR;rw [if_pos rfl]
theorem Zq365:∀ (f g:Nat) (r:List Int),r.length≤f→r.length≤g→allGo f r=allGo g r
 | 0,g,r,h,_=>by
  have:r=[]:=List.eq_nil_of_length_eq_zero (by omega)
  subst this
  cases g with
  | zero=>rfl
  | succ g=>simp [allGo,take_nil]
 | f+1,0,r,_,h=>by
  have:r=[]:=List.eq_nil_of_length_eq_zero (by omega)
  subst this
  simp [allGo,take_nil]
 | f+1,g+1,r,h1,h2=>by
  unfold allGo
  split
  ·rfl
  ·rename_i h
   have hk:=Zq316 (r:=r) (by simpa using h)
   have:=Zq365 f g (r.drop (takeR r).2.1) (by rw [List.length_drop];omega) (by rw [List.length_drop];omega)
   rw [this]
def Zq36 (es:List En):List Int:=es.flatMap Zq46
theorem Zq135 (e:En) (es:List En):Zq36 (e::es)=Zq46 e++Zq36 es:=rfl
theorem Zq196 (a b:List En):Zq36 (a++b)=Zq36 a++Zq36 b:=List.flatMap_append
theorem Zq366 {rest:List Int}:∀ {es:List En},(∀ e ∈ es,e.okB=true)→(takeR rest).2.2≠0→(allB (Zq36 es++rest)).1=es
 | [],_,hr=>by
  unfold allB
  cases hl:(Zq36 []++rest).length with
  | zero=>rfl
  | succ n =>
   unfold allGo
   rw [if_pos (by simpa [Zq36] using hr)]
 | e::es,he,hr=>by
  have h1:=he e (List.mem_cons_self ..)
  have ih:=Zq366 (es:=es) (fun x hx=>he x (List.mem_cons_of_mem _ hx)) hr
  unfold allB at ih ⊢
  rw [Zq135,List.append_assoc]
  have hb:=Zq610 h1 (Zq36 es++rest)
  obtain ⟨n,hn⟩:∃ n,(Zq46 e++(Zq36 es++rest)).length=n+1:=⟨_,by rw [List.length_append,Zq33];exact (Nat.succ_pred (by omega)).symm⟩
  rw [hn]
  unfold allGo
  rw [hb]
  simp only
  rw [if_neg (by simp)]
  have hd:(Zq46 e++(Zq36 es++rest)).drop (22+e.data.length)=Zq36 es++rest:=by
   rw [←Zq33 e,List.drop_left' rfl]
  rw [hd,Zq365 n (Zq36 es++rest).length _ (by rw [List.length_append,Zq33] at hn;omega) (Nat.le_refl _),ih]
theorem Zq197 {es:List En} (he:∀ e ∈ es,e.okB=true):(allB (Zq36 es)).1=es:=by
 have:=Zq366 (rest:=[]) he (by rw [take_nil];simp)
 rwa [List.append_nil] at this
theorem Zq426 (m:List (Int × En)) (e:En) (s:Int):get s (Zq51 m e)=if (get s m).isSome then get s m else if s=e.seq then some e else none:=by
 unfold Zq51
 by_cases h:(get e.seq m).isSome=true
 ·rw [if_pos h]
  by_cases hs:(get s m).isSome=true
  ·rw [if_pos hs]
  ·rw [if_neg hs,if_neg (by rintro rfl;exact hs h)]
   simpa using hs
 ·rw [if_neg h]
  by_cases e1:s=e.seq
  ·subst e1
   rw [Zq44,if_neg h,if_pos rfl]
  ·rw [Zq76 (by exact e1),if_neg e1]
   split
   ·rfl
   ·rename_i h2;simpa using h2
def Zq400 (es:List En) (s:Int):Option En:=es.find? fun e=>decide (e.seq=s)
theorem Zq283 (s:Int):∀ (es:List En) (m:List (Int × En)),get s (es.foldl Zq51 m)=if (get s m).isSome then get s m else Zq400 es s
 | [],m=>by
  show get s m=_
  split
  ·rfl
  ·rename_i h;simpa [Zq400] using h
 | e::es,m=>by
  rw [List.foldl_cons,Zq283 s es,Zq426]
  unfold Zq400
  rw [List.find?_cons]
  by_cases h:(get s m).isSome=true
  ·simp only [h,if_true]
  ·by_cases e1:s=e.seq
   ·rw [if_neg h,if_neg h,if_pos e1,decide_eq_true e1.symm]
    rfl
   ·rw [if_neg h,if_neg h,if_neg e1,decide_eq_false (by exact fun q=>e1 q.symm)]
    rfl
theorem Zq519 (rs:List (List Int)):Zq52 rs=(rs.flatMap fun r=>(allB r).1).foldl Zq51 []:=by
 unfold Zq52
 generalize ([]:List (Int × En))=m
 induction rs generalizing m with
 | nil=>rfl
 | cons r rs ih=>rw [List.foldl_cons,List.flatMap_cons,List.foldl_append,ih]
theorem Zq178 (rs:List (List Int)) (s:Int):get s (Zq52 rs)=Zq400 (rs.flatMap fun r=>(allB r).1) s:=by
 rw [Zq519,Zq283]
 rfl
def runs:List En→Int→Prop
 | [],_=>True
 | e::es,s=>e.seq=s∧runs es (s+1)
theorem Zq473 {m:List (Int × En)}:∀ {es:List En} {s:Int},runs es s→(∀ e ∈ es,get e.seq m=some e)→get (s+es.length) m=none→runM m s=es
 | [],s,_,_,h=>by
  rw [Zq470]
  simp only [List.length_nil,Int.ofNat_zero,Int.add_zero] at h
  have h':get s m=none:=by simpa using h
  rw [h']
 | e::es,s,hr,hg,h=>by
  rw [Zq470]
  have h1:=hg e (List.mem_cons_self ..)
  rw [hr.1] at h1
  rw [h1]
  simp only
  rw [Zq473 hr.2 (fun x hx=>hg x (List.mem_cons_of_mem _ hx)) (by
   rw [←h]
   congr 1
   simp only [List.length_cons]
   omega)]
theorem Zq255:∀ {es:List En} {s:Int} {i:Nat} {e:En},runs es s→es[i]?=some e→e.seq=s+i
 | e'::es,s,0,e,h,he=>by
  simp at he
  subst he
  simp [h.1]
 | e'::es,s,i+1,e,h,he=>by
  rw [Zq255 h.2 (by simpa using he)]
  omega
theorem Zq520:∀ {a b:List En} {s:Int},runs (a++b) s↔runs a s∧runs b (s+a.length)
 | [],b,s=>by simp [runs]
 | e::a,b,s=>by
  show (e.seq=s∧runs (a++b) (s+1))↔(e.seq=s∧runs a (s+1))∧runs b (s+((a.length+1:Nat):Int))
  rw [Zq520 (a:=a),and_assoc,show s+1+(a.length:Int)=s+((a.length+1:Nat):Int) by omega]
theorem Zq687 {es:List En} {s:Int} (h:runs es s) (n:Nat) (hn:n≤es.length):runs (es.drop n) (s+n):=by
 rw [←List.take_append_drop n es] at h
 have:=(Zq520.1 h).2
 rwa [List.length_take,Nat.min_eq_left hn] at this
theorem Zq762 {es:List En} {s:Int} (h:runs es s) {a b:En} (ha:a ∈ es) (hb:b ∈ es) (e:a.seq=b.seq):a=b:=by
 obtain ⟨i,hi⟩:=List.getElem?_of_mem ha
 obtain ⟨j,hj⟩:=List.getElem?_of_mem hb
 have h1:=Zq255 h hi
 have h2:=Zq255 h hj
 obtain rfl:i=j:=by omega
 rw [hi] at hj
 exact Option.some.inj hj
theorem Zq367 {es:List En} {s:Int} {e:En} (h:Zq400 es s=some e):e ∈ es∧e.seq=s:=⟨List.mem_of_find?_eq_some h,by simpa using List.find?_some h⟩
theorem Zq521 {es:List En} {s:Int}:Zq400 es s=none↔∀ e ∈ es,e.seq≠s:=by
 unfold Zq400
 rw [List.find?_eq_none]
 simp
theorem Zq611 {rs:List (List Int)} {es:List En} {s:Int} (hs:1≤s) (hr:runs es s) (h1:∀ e ∈ es,e ∈ rs.flatMap fun r=>(allB r).1) (h2:∀ e ∈ rs.flatMap fun r=>(allB r).1,s≤e.seq→e.seq≤s+es.length→e ∈ es):Zq163 rs s=es:=by
 unfold Zq163
 rw [if_neg (by omega)]
 have hget:∀ e ∈ es,get e.seq (Zq52 rs)=some e:=fun e he=>by
  rw [Zq178]
  obtain ⟨i,hi⟩:=List.getElem?_of_mem he
  have hq:=Zq255 hr hi
  have hil:=(List.getElem?_eq_some_iff.1 hi).1
  cases hf:Zq400 (rs.flatMap fun r=>(allB r).1) e.seq with
  | none=>exact absurd rfl (Zq521.1 hf e (h1 e he))
  | some x =>
   obtain ⟨hx1,hx2⟩:=Zq367 hf
   rw [Zq762 hr (h2 x hx1 (by omega) (by omega)) he hx2]
 refine Zq473 hr hget ?_
 rw [Zq178,Zq521]
 intro x hx hxs
 have hm:=h2 x hx (by omega) (by omega)
 obtain ⟨i,hi⟩:=List.getElem?_of_mem hm
 have hq:=Zq255 hr hi
 have hil:=(List.getElem?_eq_some_iff.1 hi).1
 omega
end Go.Proofs.YtpjchngjhijgmaaGreat
namespace Go.Proofs.YtpjchngjhijgmaaGreat
open Go.RowKit
def keyOf (c:Rg) (p:Pl):K4:=⟨2,0,rnum c p,0⟩
def Zq263 (m:List (K4 × List Int)) (k:K4) (b:List Int):List (K4 × List Int):=put k ((get k m).getD []++b) m
def Zq214 (c:Rg):List En→List Pl→List (K4 × List Int)→List (K4 × List Int)
 | e::es,p::ps,m=>Zq214 c es ps (Zq263 m (keyOf c p) (Zq46 e))
 | _,_,m=>m
def rowsJ (J:Jn):List (K4 × List Int):=Zq214 J.r.shape J.l J.at_ []
def Zq12 (m:List (K4 × List Int)) (k:K4):List Int:=(get k m).getD []
def fixS (m:List (K4 × List Int)) (k:K4) (S:Str):Int × Str :=
 if (readS S k 0 (lenAt S k)).2≠0 then ((readS S k 0 (lenAt S k)).2,S)
 else if (readS S k 0 (lenAt S k)).1=Zq12 m k∧Zq12 m k≠[] then (0,S)
 else if Zq12 m k=[] then dropS S k
 else if Zq12 m k<+:(readS S k 0 (lenAt S k)).1 then trimS S k (Zq12 m k).length
 else if (trimS S k 0).1≠0 then trimS S k 0 else Zq123 (trimS S k 0).2 k 0 (Zq12 m k)
def fixL (m:List (K4 × List Int)):List K4→Str→Int × Str
 | [],S=>Zq9 S
 | k::ks,S=>if (fixS m k S).1≠0 then fixS m k S else fixL m ks (fixS m k S).2
def trimJ (S:Str) (J:Jn):Int × Str:=fixL (rowsJ J) (Zq28 S ⟨2,0⟩) S
def Zq164 (r:Rc) (e:Int):Rc:=⟨r.shape,r.first,r.set,Zq43 r.tags e,r.cls.map fun c=>{ c with pos:=min c.pos e }⟩
def Zq712 (J:Jn) (e:Int):Jn:={ J with safe:=e }
def mendJ (S:Str) (J:Jn):Int × Str × Jn :=
 if (trimJ S J).1≠0 then ((trimJ S J).1,(trimJ S J).2,endsJ J (trimJ S J).1)
 else ((saveJ (trimJ S J).2 (Zq164 J.r (endJ J))).1,(saveJ (trimJ S J).2 (Zq164 J.r (endJ J))).2,
  endsJ (Zq712 (recJ J (Zq164 J.r (endJ J))) (endJ J)) (saveJ (trimJ S J).2 (Zq164 J.r (endJ J))).1)
def tagged (ts:List Tag) (es:List En):List En:=es.takeWhile fun e=>decide (e.tag=tagOf ts e.seq)
def readRows (S:Str):List (List Int):=(Zq28 S ⟨2,0⟩).map fun k=>(readS S k 0 (lenAt S k)).1
def Zq75 (S:Str) (r:Rc):Jn:=⟨r,tagged r.tags (Zq163 (readRows S) r.first),[],Fl.zero,0,false⟩
def openJ (S:Str) (r:Rc):Int × Str × Jn:=mendJ S (layJ (Zq75 S r))
def cutJ (S:Str) (J:Jn) (e:Int):Int × Str × Jn :=
 if mayJ S J≠0 then (mayJ S J,S,mayJ2 S J)
 else if e<J.r.first - 1∨endJ J<e then (3,S,J)
 else mendJ S (layJ (lJ J (J.l.take (e - J.r.first+1).toNat) J.at_ J.fill))
end Go.Proofs.YtpjchngjhijgmaaGreat
namespace Go.Proofs.YtpjchngjhijgmaaGreat
open Go.RowKit
def rowHP (v:Value) (x:List Int):HP:=HP.row 5 1 v x.length (x.map byteV)
def Zq269 (b:Nat) (m:List (K4 × List Int)):HP:=HP.mapOf keyKT rowHP b m
theorem Pl.vals_len (p:Pl):p.vals.length=2:=rfl
section
variable {W w w' : World} {I : Hp} {l : List HP} {p q : Nat} {J : Jn}
theorem St.places_cell {v:Value} {ps:List Pl} {i:Nat} {pl:Pl} (h:St W I w (Zq19 v ps::l)) (hi:ps[i]?=some pl):∃ g q c,v=.slice (some ⟨g,q,none⟩) ps.length c∧g<w.heap.size∧ps.length≤c ∧
  w.cell? ⟨g,q+i*2,none⟩=some (.int .i64 pl.set)∧w.cell? ⟨g,q+i*2+1,none⟩=some (.int .i64 pl.obj):=by
 have hil:=(List.getElem?_eq_some_iff.1 hi).1
 have hl:=St.win_len h
 obtain ⟨g,q,c,e1,hg,hnc,hc⟩:=St.win_cell h (by rw [hl];omega)
 refine ⟨g,q,c,e1,hg,hnc,?_,?_⟩
 ·exact hc (i*2) _ ((Zq97 Pl.vals_len ps i 0 pl hi (by decide)).trans rfl)
 ·rw [Nat.add_assoc]
  exact hc (i*2+1) _ ((Zq97 Pl.vals_len ps i 1 pl hi (by decide)).trans rfl)
theorem St.want_entry {b:Nat} {m:List (K4 × List Int)} (k:K4) (h:St W I w (Zq269 b m::l)) :
  ∃ st A c w',(Instr.mapEntry 215 (.map (some b)) k.val).run Tryz.prog w=.ok (.tuple #[.slice A (Zq12 m k).length c,goInt (st:Nat)]) w'∧w'.heap.size=w.heap.size ∧
   St W I w' (rowHP (.slice A (Zq12 m k).length c) (Zq12 m k)::HP.held keyKT rowHP b k (.slice A (Zq12 m k).length c) st (del k m)::l):=by
 obtain ⟨st,v,w',hr,hs,h1|⟨x,hg,h1⟩⟩:=St.mapOf_entry h Tryz.underlying215 (z:=.slice none 0 0) (fun w=>by kernel_rfl) k
 ·obtain ⟨hg,rfl,h2⟩:=h1
  refine ⟨st,none,0,w',?_,hs,?_⟩
  ·rw [show (Zq12 m k).length=0 by simp [Zq12,hg]];exact hr
  ·rw [show Zq12 m k=[] by simp [Zq12,hg]]
   exact h2.row_nil _ _
 ·have e:Zq12 m k=x:=by simp [Zq12,hg]
  obtain ⟨A,c,rfl⟩:=Zq15 (St.row_owns h1)
  rw [e]
  exact ⟨st,A,c,w',hr,hs,h1⟩
theorem Zq368 {m:List (K4 × List Int)} {k0:K4} {b:List Int} {n:Nat} (h:∀ k,(Zq12 m k).length≤n) (hb:b.length≤1000) (k:K4):(Zq12 (Zq263 m k0 b) k).length≤n+1000:=by
 unfold Zq12 Zq263
 have h1:=h k
 by_cases e:k=k0
 ·subst e
  rw [Zq44]
  unfold Zq12 at h1
  rw [Option.getD_some,List.length_append]
  omega
 ·rw [Zq76 e]
  unfold Zq12 at h1
  omega
set_option maxRecDepth 4000
set_option maxHeartbeats 4000000
theorem Zq612 (h:St W I w (jnHP q p J::l)) (hl:J.at_.length=J.l.length) (hn:J.l.length≤100000) (hE:∀ e ∈ J.l,e.okB=true) :
  Calls Tryz.prog 154 #[.pointer (some ⟨q,0,none⟩)] w fun e w'=>∃ I' b,I.sub I'∧e=.returned (.map (some b))∧St W I' w' (Zq269 b (rowsJ J)::jnHP q p J::l):=by
 obtain ⟨V,hrI,h1⟩:=h.jn_open
 obtain ⟨A,c,hvl,hnc,_⟩:=(h1.pull 1 _ rfl).ents_slice
 obtain ⟨Aa,ca,hva,hnca,_⟩:=(h1.pull 2 _ rfl).win_slice
 obtain ⟨vt,vc,vl,va⟩:=V
 simp only at hvl hva hrI h1
 subst hvl
 subst hva
 have k8:=jn_c8 h1
 simp only at k8
 have lq:=h1.lt
 obtain ⟨gm,hgm⟩:∃ g,g=w.heap.size:=⟨_,rfl⟩
 have h2:=(h1.alloc (.map #[] 0))
 rw [←hgm] at h2
 have h3:St W I (w.alloc (.map #[] 0)) (Zq269 gm []::jnBlk q p J ⟨vt,vc,.slice A J.l.length c,.slice Aa J.at_.length ca⟩::Zq26 (.slice A J.l.length c) J.l::Zq19 (.slice Aa J.at_.length ca) J.at_::l):=h2.mapOf_made
 obtain ⟨n0,hn0⟩:∃ x,x=J.l.length:=⟨_,rfl⟩
 rw [hl] at h3
 rw [←hn0] at k8 h3 hn hnc hl
 have HN0:=Zh hn0
 have HL:=Zh hl
 have HE:=Zh hE
 have HRI:=Zh hrI
 have H3:=Zh h3
 have HGM:=Zh hgm
 have hmm:=@run_makeMap Tryz.prog
 clear h h1 hrI hn0 hE h2 h3 hl hnca hgm
 go_enter Tryz.func154,Tryz.ntmps154
 go_wp2_with fail
 rw [←HGM.out]
 clear hmm
 go_loopw [15] (fun a15 wr=>∃ (i:Nat) (m:List (K4 × List Int)) (I1:Hp),a15=.int .i64 i∧i≤n0∧I.sub I1∧(∀ k,(Zq12 m k).length≤1000*i)∧rowsJ J=Zq214 J.r.shape (J.l.drop i) (J.at_.drop i) m∧St W I1 wr (Zq269 gm m::jnBlk q p J ⟨vt,vc,.slice A n0 c,.slice Aa n0 ca⟩::Zq26 (.slice A n0 c) J.l::Zq19 (.slice Aa n0 ca) J.at_::l)) (fun a15 _=>n0 - (intOf a15).toNat)
 case atStart=>exact ⟨0,[],I,rfl,Nat.zero_le _,Hp.sub.refl _,fun k=>by simp [Zq12,get],rfl,H3.out⟩
 case round =>
  obtain ⟨i,m,I1,rfl,hi,hsub,hwl,hgo,hst⟩:=hrel
  have HSUB:=Zh hsub
  clear hsub
  have HWL:=Zh hwl
  clear hwl
  clear k8 lq H3
  by_cases hlt:i<n0
  ·have hlt2:(i:Int)<(n0:Int):=by omega
   obtain ⟨e,he⟩:∃ e,J.l[i]?=some e:=⟨_,List.getElem?_eq_getElem (by rw [←HN0.out];exact hlt)⟩
   obtain ⟨pl,hpl⟩:∃ e,J.at_[i]?=some e:=⟨_,List.getElem?_eq_getElem (by rw [HL.out];exact hlt)⟩
   obtain ⟨g,qq,c2,vd,e2,hg,hbd,hbb,y0,y1,y2⟩:=(hst.pull 2 _ rfl).ents_cell he
   rw [←HN0.out] at e2
   simp only [Value.slice.injEq] at e2
   obtain ⟨rfl,hnn,rfl⟩:=e2
   clear hnn
   obtain ⟨g',qq',c3,e3,hg',hnc3,z0,z1⟩:=(hst.pull 3 _ rfl).places_cell hpl
   rw [HL.out] at e3 hnc3
   simp only [Value.slice.injEq] at e3
   obtain ⟨rfl,hnn,rfl⟩:=e3
   clear hnn
   obtain ⟨Ad,cd,rfl⟩:=hbd.isSl
   have hok:=HE.out e (List.mem_of_getElem? he)
   have hmay:mayF e.tag e.seq e.data.length=true:=by
    have:=En.okB_iff.1 hok
    unfold mayF
    exact decide_eq_true (by omega)
   have hdr:rowsJ J=Zq214 J.r.shape (J.l.drop (i+1)) (J.at_.drop (i+1)) (Zq263 m (keyOf J.r.shape pl) (Zq46 e)):=by
    rw [hgo,List.drop_eq_getElem_cons (List.getElem?_eq_some_iff.1 he).1,List.drop_eq_getElem_cons (List.getElem?_eq_some_iff.1 hpl).1,(List.getElem?_eq_some_iff.1 he).2,(List.getElem?_eq_some_iff.1 hpl).2]
    rfl
   have hsz:(Zq46 e).length≤1000:=by
    rw [Zq33]
    have:=(En.okB_iff.1 hok).2.2
    omega
   have HSZ:=Zh hsz
   have h4:=hst.alloc (.cells #[.int .i64 e.tag,.int .i64 e.seq,.slice Ad e.data.length cd] 50)
   obtain ⟨tg,sq,d⟩:=e
   simp only at y0 y1 y2 hmay h4 hbd
   have hlay:=Zq463 tg sq d Ad cd (wr.alloc (.cells #[.int .i64 tg,.int .i64 sq,.slice Ad d.length cd] 50)) hmay (Zq29 h4 hbd) hbb
   have HLAY:=Zh hlay
   have HDR:=Zh hdr
   have H4:=Zh h4
   have hgs:g<(wr.alloc (.cells #[.int .i64 tg,.int .i64 sq,.slice Ad d.length cd] 50)).heap.size:=by simp;omega
   clear hbd hbb he hok hmay hgo hdr hsz hlay h4 hst hgs
   go_wp2_with fail
   refine HLAY.out.mono ?_
   rintro e w5 ⟨A5,c5,f5,rfl,rfl,h5⟩
   obtain ⟨I5,hs5,hB5,h6⟩:=Zq31 H4.out h5.below h5.row_new
   have hg5:g'<w5.heap.size:=Nat.lt_of_lt_of_le (by simp;omega) h5.below.size
   have hz0:w5.cell? ⟨g',qq'+i*2,none⟩=some (.int .i64 pl.set):=(h5.below.cell (by simp;omega)).trans (((Zq3 wr _).cell hg').trans z0)
   have hz1:w5.cell? ⟨g',qq'+i*2+1,none⟩=some (.int .i64 pl.obj):=(h5.below.cell (by simp;omega)).trans (((Zq3 wr _).cell hg').trans z1)
   have h7:=h6.drop
   have k9:=jn_c9 (h7.pull 1 _ rfl)
   have lq:=(h7.pull 1 _ rfl).lt
   have hjn:=St.jn_shut (J:=J) (V:=⟨vt,vc,.slice (some ⟨g,qq,none⟩) n0 c,.slice (some ⟨g',qq',none⟩) n0 ca⟩) (recI.mono (HSUB.out.trans hs5) HRI.out) (((h7.pull 3 _ rfl).pull 3 _ rfl).pull 3 _ rfl)
   have hkey:=Zq466 pl hjn
   obtain ⟨rn,hrn⟩:∃ x,x=rnum J.r.shape pl:=⟨_,rfl⟩
   rw [←hrn] at hkey
   have HRN:=Zh (show keyOf J.r.shape pl=⟨2,0,rn,0⟩ by unfold keyOf;rw [hrn])
   obtain ⟨ps,po⟩:=pl
   simp only [Pl.val] at hkey hz0 hz1
   have HKEY:=Zh hkey
   have H7:=Zh h7
   have HB5:=Zh hB5
   have HS5:=Zh hs5
   clear h5 hs5 hB5 h6 h7 hjn hkey hrn H4 HLAY z0 z1
   go_wp2_with fail
   refine HKEY.out.mono ?_
   rintro e w6 ⟨rfl,hb6⟩
   have h8:=((H7.out.keep hb6).alloc (.cells #[.int .i64 2,.int .i64 0,.int .i64 rn,.int .i64 0] 43))
   obtain ⟨w7,hw7⟩:∃ x,w6.alloc (.cells #[.int .i64 2,.int .i64 0,.int .i64 rn,.int .i64 0] 43)=x:=⟨_,rfl⟩
   rw [hw7] at h8
   obtain ⟨st,Am,cm,w8,hr8,hs8,h9⟩:=St.want_entry (keyOf J.r.shape ⟨ps,po⟩) (h8.pull 1 _ rfl)
   obtain ⟨x,hx⟩:∃ x,Zq12 m (keyOf J.r.shape ⟨ps,po⟩)=x:=⟨_,rfl⟩
   rw [hx] at hr8 h9
   have hxl:x.length≤1000*i:=by rw [←hx];exact HWL.out _
   obtain ⟨v10,w10,hr10,h10⟩:=St.bytes_append 46 h9 (Zq29 h9 (HB5.out)) (by have:=HSZ.out;omega)
   obtain ⟨A10,c10,rfl⟩:=Zq15 h10.row_owns
   rw [←List.map_append] at h10
   obtain ⟨y,hy⟩:∃ y,x++Zq46 ⟨tg,sq,d⟩=y:=⟨_,rfl⟩
   have hyl:x.length+(Zq46 ⟨tg,sq,d⟩).length=y.length:=by rw [←hy,List.length_append]
   rw [hy,hyl] at h10
   obtain ⟨w11,hr11,hs11,h11⟩:=St.held_put (T:=keyKT) (own:=rowHP) (x:=y) h10 Tryz.underlying215
   have HA:=Zh (show Zq263 m (keyOf J.r.shape ⟨ps,po⟩) (Zq46 ⟨tg,sq,d⟩)=(keyOf J.r.shape ⟨ps,po⟩,y)::del (keyOf J.r.shape ⟨ps,po⟩) m by
    show put _ (Zq12 m _++_) m=_
    rw [hx,hy]
    rfl)
   have h12:St W I5 w11 (Zq269 gm (Zq263 m (keyOf J.r.shape ⟨ps,po⟩) (Zq46 ⟨tg,sq,d⟩))::HP.pt w6.heap.size (.cells #[.int .i64 2,.int .i64 0,.int .i64 rn,.int .i64 0] 43)::jnBlk q p J ⟨vt,vc,.slice (some ⟨g,qq,none⟩) n0 c,.slice (some ⟨g',qq',none⟩) n0 ca⟩::Zq26 (.slice (some ⟨g,qq,none⟩) n0 c) J.l::Zq19 (.slice (some ⟨g',qq',none⟩) n0 ca) J.at_::l):=by
    rw [HA.out];exact h11
   rw [hyl] at hr10
   rw [HRN.out] at hr8
   simp only [keyKT,K4.val,goInt] at hr8 hr11
   have H12:=Zh (h12.pull 1 _ rfl).drop
   have HR10:=Zh hr10
   have HNEW:=Zh (Zq368 (k0:=keyOf J.r.shape ⟨ps,po⟩) HWL.out HSZ.out)
   subst hw7
   have HS5':=Zh (HSUB.out.trans HS5.out)
   clear hb6 h8 h9 h10 h11 h12 hs8 hs11 hx hy hxl HWL HA HKEY H7 hr10 hz0 hz1 hyl k9
   go_wp2_with (at_builtin;refine Lib.wpList_append_run _ rfl (.tmp 36) (.tmp 37) 46 46 rfl _ _ rfl rfl _ _ HR10.out ?_)
   go_roundw
   case rel=>exact ⟨i+1,_,I5,by go_num,by omega,HS5'.out,by intro k;have:=HNEW.out k;omega,HDR.out,H12.out⟩
   case measure=>simp [intOf];omega
  ·obtain rfl:i=n0:=by omega
   have hlt2:¬ (i:Int)<(i:Int):=by omega
   rw [List.drop_of_length_le (by rw [←HN0.out];exact Nat.le_refl _),List.drop_of_length_le (by rw [HL.out];exact Nat.le_refl _)] at hgo
   have HGO:=Zh (show rowsJ J=m by rw [hgo];rfl)
   have HST:=Zh hst
   clear hgo hst
   go_wp2_with fail
   go_ret
   rw [HGO.out]
   exact ⟨I1,HSUB.out,gm,rfl,(St.jn_shut (J:=J) (V:=⟨vt,vc,.slice A i c,.slice Aa i ca⟩) (recI.mono HSUB.out HRI.out) (((HST.out.pull 3 _ rfl).pull 3 _ rfl).pull 3 _ rfl)).pull 1 _ rfl⟩
end
end Go.Proofs.YtpjchngjhijgmaaGreat
namespace Go.Proofs.YtpjchngjhijgmaaGreat
open Go.RowKit
def SeenB (S:Str):Prop:=∀ k t,get k S.seen=some t→∀ y ∈ t.b,isByte y
def BytO (o:Option TS):Prop:=∀ t,o=some t→∀ y ∈ t.b,isByte y
theorem Zq369 {b:List Int} {off:Nat} {p:List Int} (hb:∀ y ∈ b,isByte y) (hp:∀ y ∈ p,isByte y):∀ y ∈ layB b off p,isByte y:=by
 intro y hy
 unfold layB at hy
 split at hy
 ·exact hb y hy
 ·simp only [List.mem_append] at hy
  rcases hy with (hy|hy)|hy
  ·rcases List.mem_append.1 (List.mem_of_mem_take hy) with hy|hy
   ·exact hb y hy
   ·rw [List.eq_of_mem_replicate hy];unfold isByte;omega
  ·exact hp y hy
  ·exact hb y (List.mem_of_mem_drop hy)
theorem Zq522 {o:Option TS} {d:Dd} (ho:BytO o) (hd:∀ y ∈ d.p,isByte y):BytO (stepD o d):=by
 intro t ht
 unfold stepD at ht
 split at ht
 ·simp only [Option.some.injEq] at ht
  subst ht
  intro y hy
  cases hy
 split at ht
 ·cases ht
 split at ht
 ·cases ht
 rename_i u
 have hu:=ho u rfl
 split at ht
 ·simp only [Option.some.injEq] at ht
  subst ht
  exact Zq369 hu hd
 split at ht
 ·simp only [Option.some.injEq] at ht
  subst ht
  exact fun y hy=>hu y (List.mem_of_mem_take hy)
 split at ht
 ·simp only [Option.some.injEq] at ht
  subst ht
  exact hu
 ·simp only [Option.some.injEq] at ht
  subst ht
  exact hu
theorem Zq427 {S:Str} {k:K4} {d:Dd} (h:SeenB S) (hd:∀ y ∈ d.p,isByte y) (h0:offE (doS S k d).1=0):SeenB (doS S k d).2:=by
 have hb:(Zq34 S).1=false:=by
  cases hb:(Zq34 S).1 with
  | false=>rfl
  | true=>rw [Zq759 hb] at h0;cases h0
 have hdn:=(Zq461 (k:=k) (d:=d) hb).2
 intro k' t ht
 rw [hdn.seen] at ht
 split at ht
 ·exact Zq522 (fun t ht=>h k t ht) hd t ht
 ·exact h k' t ht
theorem Zq613 {S:Str} {k:K4} (h:SeenB S) (h0:(dropS S k).1=0):SeenB (dropS S k).2:=by
 unfold dropS at h0 ⊢
 split
 ·rename_i hw
  rw [if_pos hw] at h0
  exact Zq427 h (fun y hy=>by cases hy) h0
 ·exact h
theorem Zq370 {S:Str} {k:K4} {n:Int} (h:SeenB S) (h0:(trimS S k n).1=0):SeenB (trimS S k n).2:=by
 unfold trimS at h0 ⊢
 split
 ·rename_i t ht
  rw [ht] at h0
  simp only at h0
  split
  ·rename_i hw
   rw [if_pos hw] at h0
   exact Zq427 h (fun y hy=>by cases hy) h0
  ·exact h
 ·exact h
theorem Zq523 {S:Str} {k:K4} {off:Int} {b:List Int} (h:SeenB S) (hb:∀ y ∈ b,isByte y) (h0:(Zq123 S k off b).1=0):SeenB (Zq123 S k off b).2:=by
 by_cases hw:whyS S k=0
 ·cases hg:get k S.seen with
  | none =>
   unfold Zq123 at h0 ⊢
   rw [hg] at h0 ⊢
   exact h
  | some t =>
   by_cases hw2:Zq63 S t off b=0
   ·rw [Zq234 hw hg hw2] at h0 ⊢
    exact Zq427 h hb h0
   ·rw [Zq248 hw hg hw2]
    exact h
 ·rw [Zq247 hw]
  exact h
theorem Zq371 {S:Str} {k:K4} {off n:Int} (h:SeenB S):∀ y ∈ (readS S k off n).1,isByte y:=by
 intro y hy
 unfold readS at hy
 split at hy
 ·split at hy
  ·cases hy
  ·rename_i t ht
   split at hy
   ·cases hy
   ·exact h k t ht y (List.mem_of_mem_drop (List.mem_of_mem_take hy))
 ·cases hy
theorem Zq372 {mm:List (K4 × List Int)} {k:K4} {S:Str} {m:Nat} (h:Keeps S (m+4)):Keeps (fixS mm k S).2 m:=by
 have h2:Keeps S (m+2):=h.fewer (by omega)
 unfold fixS
 split
 ·exact h.fewer (by omega)
 split
 ·exact h.fewer (by omega)
 split
 ·exact Zq206 h2
 split
 ·exact Zq154 h2
 split
 ·exact Zq154 h2
 ·exact Zq249 (Zq154 (m:=m+2) h)
theorem Zq614 {mm:List (K4 × List Int)} {k:K4} {S:Str} (h:SeenB S) (hm:∀ y ∈ Zq12 mm k,isByte y) (h0:(fixS mm k S).1=0):SeenB (fixS mm k S).2:=by
 unfold fixS at h0 ⊢
 split
 ·exact h
 rename_i h1
 rw [if_neg h1] at h0
 split
 ·exact h
 rename_i h2
 rw [if_neg h2] at h0
 split
 ·rename_i h3
  rw [if_pos h3] at h0
  exact Zq613 h h0
 rename_i h3
 rw [if_neg h3] at h0
 split
 ·rename_i h4
  rw [if_pos h4] at h0
  exact Zq370 h h0
 rename_i h4
 rw [if_neg h4] at h0
 split
 ·rename_i h5
  rw [if_pos h5] at h0
  exact absurd h0 h5
 ·rename_i h5
  rw [if_neg h5] at h0
  exact Zq523 (Zq370 h (by simpa using h5)) hm h0
theorem Zq198 {mm:List (K4 × List Int)}:∀ {ks:List K4} {S:Str} {m:Nat},Keeps S (m+4*ks.length)→Keeps (fixL mm ks S).2 m
 | [],S,m,h=>Zq66 (by simpa using h)
 | k::ks,S,m,h=>by
  have h1:Keeps (fixS mm k S).2 (m+4*ks.length):=Zq372 (by simpa [Nat.mul_add,Nat.add_assoc] using h)
  unfold fixL
  split
  ·exact h1.fewer (by omega)
  ·exact Zq198 h1
theorem Zq373 {c:Rg}:∀ {es:List En} {ps:List Pl} {m:List (K4 × List Int)},(∀ e ∈ es,∀ y ∈ e.data,isByte y)→(∀ k,∀ y ∈ Zq12 m k,isByte y)→∀ k,∀ y ∈ Zq12 (Zq214 c es ps m) k,isByte y
 | [],[],m,_,hm=>hm
 | [],_::_,m,_,hm=>hm
 | _::_,[],m,_,hm=>hm
 | e::es,p::ps,m,he,hm=>by
  refine Zq373 (es:=es) (ps:=ps) (m:=Zq263 m (keyOf c p) (Zq46 e)) (fun x hx=>he x (List.mem_cons_of_mem _ hx)) fun k y hy=>?_
  have hf:∀ y ∈ Zq46 e,isByte y:=fun y hy=>by
   have hpb:∀ n k,∀ y ∈ putB n k,isByte y:=fun n k y hy=>by
    unfold putB at hy
    obtain ⟨i,_,rfl⟩:=List.mem_map.1 hy
    unfold isByte
    omega
   unfold Zq46 headB at hy
   simp only [List.mem_append] at hy
   rcases hy with ((((hy|hy)|hy)|hy)|hy)|hy
   ·simp only [List.mem_cons,List.not_mem_nil,or_false] at hy
    unfold isByte
    omega
   ·exact hpb _ _ y hy
   ·exact hpb _ _ y hy
   ·exact hpb _ _ y hy
   ·exact he e (List.mem_cons_self ..) y hy
   ·exact hpb _ _ y hy
  unfold Zq12 Zq263 at hy
  by_cases h:k=keyOf c p
  ·subst h
   rw [Zq44] at hy
   simp only [Option.getD_some] at hy
   rcases List.mem_append.1 hy with hy|hy
   ·exact hm _ y hy
   ·exact hf y hy
  ·rw [Zq76 h] at hy
   exact hm k y hy
section
variable {W w w' : World} {I : Hp} {l : List HP} {p q : Nat} {J : Jn} {S : Str}
theorem St.jn_ptr (h:St W I w (jnHP q p J::l)):w.cell? ⟨q,0,none⟩=some (.pointer (some ⟨p,0,none⟩))∧q<w.heap.size:=by
 obtain ⟨V,hr,h1⟩:=h.jn_open
 exact ⟨jn_c0 h1,h1.lt⟩
theorem St.jn_bytes (h:St W I w (jnHP q p J::l)):∀ e ∈ J.l,∀ y ∈ e.data,isByte y:=by
 obtain ⟨V,hr,h1⟩:=h.jn_open
 obtain ⟨M,e,hM,_⟩:=(h1.pull 1 _ rfl).ents_open
 intro x hx
 rw [←e] at hx
 obtain ⟨z,hz,rfl⟩:=List.mem_map.1 hx
 exact (hM z hz).2
theorem St.want_look {b:Nat} {m:List (K4 × List Int)} (k:K4) (h:St W I w (Zq269 b m::l)) :
  ∃ A c H,(∀ w2,Below w.heap.size w w2→(Instr.lookup 215 (.map (some b)) k.val false).run Tryz.prog w2=.ok (.slice A (Zq12 m k).length c) w2) ∧
   St W I w (rowHP (.slice A (Zq12 m k).length c) (Zq12 m k)::H::l)∧(∀ {I':Hp} {w':World} {l':List HP},St W I' w' (rowHP (.slice A (Zq12 m k).length c) (Zq12 m k)::H::l')→St W I' w' (Zq269 b m::l')):=by
 have hn:=St.mapOf_nodup h
 rcases St.mapOf_look h Tryz.underlying215 (z:=.slice none 0 0) (fun w=>by kernel_rfl) k with ⟨hg,hl⟩|⟨v,x,hg,hl,h1⟩
 ·have e:Zq12 m k=[]:=by simp [Zq12,hg]
  rw [e]
  exact ⟨none,0,Zq269 b m,fun w2 hw=>hl w2 hw false,h.row_nil _ _,fun h'=>h'.drop⟩
 ·have e:Zq12 m k=x:=by simp [Zq12,hg]
  rw [e]
  obtain ⟨A,c,rfl⟩:=Zq15 (St.row_owns h1)
  exact ⟨A,c,_,fun w2 hw=>hl w2 hw false,h1,fun h'=>St.mapOf_perm h'.hole_back (Zq100 hn hg).symm⟩
end
end Go.Proofs.YtpjchngjhijgmaaGreat
