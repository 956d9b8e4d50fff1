import Derived.Test.YtpjchngjhijgmaaGreatJZ38
set_option linter.all false
namespace Go.Proofs.YtpjchngjhijgmaaGreat
open Go.RowKit
def Zq145 (ks:List K4):List DStep:=ks.map (fun k=>DStep.deed k goneD)++[.bar]
theorem Zq306 {ks:List K4} (h:∀ k ∈ ks,k ∈ UJn):∀ s ∈ Zq145 ks,Zq267 UJn s:=by
 intro s hs
 rcases List.mem_append.1 hs with hs|hs
 ·obtain ⟨k,hk,rfl⟩:=List.mem_map.1 hs
  exact ⟨h k hk,.inr (.inl rfl)⟩
 ·rw [List.mem_singleton.1 hs];exact trivial
theorem Zq348:∀ {ks:List K4} {S:Str},LiveJ UJn S→ks.Nodup→(∀ k ∈ ks,k ∈ UJn∧(get k S.seen).isSome=true)→Zq265 ks S=execS (Zq145 ks) S
 | [],S,_,_,_=>(Zq105 .bar S).symm
 | k::ks,S,h,hn,hs=>by
  obtain ⟨h1,h2⟩:=hs k (List.mem_cons_self ..)
  have hn':=List.nodup_cons.1 hn
  rw [Zq337,h.drop (Zq82.all k h1).2 h2]
  show _=thenE (stepE S (.deed k goneD)) (execS (Zq145 ks))
  unfold thenE
  by_cases h0:(stepE S (.deed k goneD)).1=0
  ·rw [if_neg (by simp [h0]),if_pos h0]
   obtain ⟨h3,h4⟩:=Zq455 h Zq82 h1 (.inr (.inl rfl)) h0
   refine Zq348 h3 hn'.2 fun k' hk'=>⟨(hs k' (List.mem_cons_of_mem _ hk')).1,?_⟩
   rw [h4 k',if_neg (fun e:k'=k=>hn'.1 (e ▸ hk'))]
   exact (hs k' (List.mem_cons_of_mem _ hk')).2
  ·rw [if_pos h0,if_neg h0]
theorem Zq184 {S:Str} (h:LiveJ UJn S):∀ k ∈ Zq20 S ⟨2,0⟩,k ∈ UJn∧(get k S.seen).isSome=true:=fun k hk=>by
 obtain ⟨_,h2⟩:=(h.inv.keys.mem _ _).1 hk
 obtain ⟨t,ht⟩:=Option.isSome_iff_exists.1 h2
 exact ⟨h.inv.getU ht,h2⟩
theorem Zq349 {S:Str} (h:LiveJ UJn S):Zq77 S=execS (Zq145 (Zq20 S ⟨2,0⟩)) S:=by
 unfold Zq77 Zq35
 rw [if_pos h.on]
 exact Zq348 h (Zq147 (h.inv.keys.rise _)) (Zq184 h)
theorem Zq239:∀ (ks:List K4) (V:K4→Option TS) (k:K4),Zq29 (Zq145 ks) V k=if k ∈ ks then none else V k
 | [],V,k=>by simp [Zq145,Zq29,Zq95]
 | a::ks,V,k=>by
  show Zq29 (Zq145 ks) (Zq95 (.deed a goneD) V) k=_
  rw [Zq239 ks]
  by_cases h:k ∈ ks
  ·rw [if_pos h,if_pos (List.mem_cons_of_mem _ h)]
  ·rw [if_neg h]
   by_cases e:k=a
   ·subst e
    rw [if_pos (List.mem_cons_self ..)]
    show (if k=k then stepD (V k) goneD else V k)=none
    rw [if_pos rfl]
    rfl
   ·rw [if_neg (by simp [e,h])]
    exact if_neg e
theorem Zq896 {S:Str} (h:LiveJ UJn S) {k:K4} (hk:k≠kJ):Zq29 (Zq145 (Zq20 S ⟨2,0⟩)) (Zq103 S) k=none:=by
 rw [Zq239]
 split
 ·rfl
 ·rename_i hn
  cases hg:Zq103 S k with
  | none=>rfl
  | some t =>
   exfalso
   have hU:=h.inv.getU (k:=k) (t:=t) hg
   refine hn ((h.inv.keys.mem _ _).2 ⟨?_,by rw [show get k S.seen=some t from hg];rfl⟩)
   rcases List.mem_cons.1 hU with e|hU
   ·exact absurd e hk
   ·obtain ⟨i,_,rfl⟩:=List.mem_map.1 hU
    rfl
theorem Zq913 {S:Str}:Zq29 (Zq145 (Zq20 S ⟨2,0⟩)) (Zq103 S) kJ=(if kJ ∈ Zq20 S ⟨2,0⟩ then none else get kJ S.seen):=Zq239 _ _ _
def Zq601 (ks:List K4) (r:Rc):List DStep:=Zq145 ks++[.deed kJ madeD,.deed kJ (setD nmJ (recB r)),.bar]
theorem Zq553 {S:Str} (h:LiveJ UJn S) {r:Rc} (hr:r.Ok):∀ s ∈ Zq601 (Zq20 S ⟨2,0⟩) r,Zq267 UJn s:=by
 intro s hs
 have h1:1≤(recB r).length:=by rw [Zq166];omega
 rcases List.mem_append.1 hs with hs|hs
 ·exact Zq306 (fun k hk=>(Zq184 h k hk).1) s hs
 ·simp only [List.mem_cons,List.not_mem_nil,or_false] at hs
  rcases hs with rfl|rfl|rfl
  ·exact ⟨Zq589,.inl rfl⟩
  ·exact ⟨Zq589,.inr (.inr (.inr (.inr ⟨rfl,rfl,h1,Zq139 hr⟩)))⟩
  ·exact trivial
theorem Zq459 {S:Str} {c:Rg} {at':Int} {ts:List Tag} (h:LiveJ UJn S) (hg:goodM c at' ts=true) (hn:get kJ S.seen=none):makeJ S c at' ts false=execS (Zq601 (Zq20 S ⟨2,0⟩) (newR c at' ts)) S:=by
 have hok:=Zq546 hg
 unfold makeJ
 rw [if_neg (by simp [h.on]),if_neg (by simp [hg]),if_neg (by simp),Zq349 h]
 unfold Zq601
 rw [Zq204]
 obtain ⟨X,hX⟩:∃ x,x=execS (Zq145 (Zq20 S ⟨2,0⟩)) S:=⟨_,rfl⟩
 have hXok:=fun h0=>Zq258 Zq82 h (Zq306 fun k hk=>(Zq184 h k hk).1) (show (execS (Zq145 (Zq20 S ⟨2,0⟩)) S).1=0 from h0)
 rw [←hX] at hXok ⊢
 unfold thenE
 by_cases h0:X.1=0
 ·rw [if_neg (by simp [h0]),if_pos h0]
  obtain ⟨h1,h2⟩:=hXok h0
  have h3:get kJ X.2.seen=none:=by
   refine (congrFun h2 kJ).trans (Zq913.trans ?_)
   rw [hn];simp
  rw [h1.make Zq82 kJ_ok h3]
  show _=thenE (stepE X.2 (.deed kJ madeD)) (execS [.deed kJ (setD nmJ (recB (newR c at' ts))),.bar])
  unfold thenE
  by_cases h4:(stepE X.2 (.deed kJ madeD)).1=0
  ·rw [if_neg (by simp [h4]),if_pos h4]
   obtain ⟨h5,h6⟩:=Zq455 h1 Zq82 Zq589 (.inl rfl) h4
   have h7:=h6 kJ
   rw [if_pos rfl,h3] at h7
   have h8:get kJ (stepE X.2 (.deed kJ madeD)).2.seen=some ⟨[],[]⟩:=h7
   rw [Zq169 h5 h8 hok]
   unfold Zq396
   rw [if_neg]
   rw [h5.attr kJ_ok h8]
   simp [get]
  ·rw [if_pos h4,if_neg h4]
 ·rw [if_pos h0,if_neg h0]
def Zq120 (c:Rg) (at':Int) (ts:List Tag):Jn:=⟨newR c at' ts,[],[],layF (newR c at' ts),0,false⟩
theorem Zq854 {S:Str} {c:Rg} {at':Int} {ts:List Tag} (h:LiveJ UJn S) (hg:goodM c at' ts=true) (hn:get kJ S.seen=none) (h0:(makeJ S c at' ts false).1=0):JOK (makeJ S c at' ts false).2 (Zq120 c at' ts):=by
 have hok:=Zq546 hg
 have h1:1≤(recB (newR c at' ts)).length:=by rw [Zq166];omega
 have hne:recB (newR c at' ts)≠[]:=fun q=>by rw [q] at h1;simp at h1
 rw [Zq459 h hg hn] at h0 ⊢
 obtain ⟨h2,h3⟩:=Zq258 Zq82 h (Zq553 h hok) h0
 have hv:∀ k,get k (execS (Zq601 (Zq20 S ⟨2,0⟩) (newR c at' ts)) S).2.seen=Zq29 (Zq601 (Zq20 S ⟨2,0⟩) (newR c at' ts)) (Zq103 S) k:=fun k=>congrFun h3 k
 have hap:∀ (a b:List DStep) (V:K4→Option TS),Zq29 (a++b) V=Zq29 b (Zq29 a V):=fun a=>by
  induction a with
  | nil=>exact fun _ _=>rfl
  | cons s a ih=>exact fun b V=>ih b _
 unfold Zq601 at hv ⊢
 rw [hap] at hv
 refine ⟨h2,hok,?_,trivial,(fun e he=>by cases he),rfl,?_,fun k hk=>?_,rfl,?_⟩
 ·show (0:Int)+((0:Nat):Int)≤_∧0≤_
  omega
 ·refine ⟨⟨[],Zq97 [] nmJ (recB (newR c at' ts))⟩,(hv kJ).trans ?_,?_⟩
  ·simp only [Zq29,Zq95,if_true]
   rfl
  ·show get nmJ (Zq97 [] nmJ (recB (newR c at' ts)))=some (recB (newR c at' ts))
   unfold Zq97
   rw [if_neg hne]
   exact Zq54
 ·have hw:Zq21 (rowsJ (Zq120 c at' ts)) k=[]:=by rw [Zq170];rfl
  rw [hw,if_pos rfl,hv k]
  simp only [Zq29,Zq95,hk,if_false]
  rw [Zq896 h hk]
  rfl
 ·show (0:Int)≤0∧(0:Int)≤3299023255552
  omega
end Go.Proofs.YtpjchngjhijgmaaGreat
namespace Go.Proofs.YtpjchngjhijgmaaGreat
open Go.RowKit
theorem Zq135:∀ (a b:List DStep) (V:K4→Option TS),Zq29 (a++b) V=Zq29 b (Zq29 a V)
 | [],_,_=>rfl
 | s::a,b,V=>Zq135 a b _
def fixJ (m0 m1:List (K4 × List Int)) (k:K4):List DStep :=
 if Zq21 m0 k=Zq21 m1 k then [] else if Zq21 m1 k=[] then [.deed k goneD] else [.deed k ⟨2,(Zq21 m1 k).length,[],⟨#[]⟩⟩]
def Zq935 (m0 m1:List (K4 × List Int)) (ks:List K4):List DStep:=ks.flatMap (fixJ m0 m1)++[.bar]
end Go.Proofs.YtpjchngjhijgmaaGreat
namespace Go.Proofs.YtpjchngjhijgmaaGreat
open Go.RowKit
end Go.Proofs.YtpjchngjhijgmaaGreat
namespace Go.Proofs.YtpjchngjhijgmaaGreat
open Go.RowKit
def Zq868 (J:Jn):Rc:=goneR J.r (doneJ J).1 (doneJ J).2
def Zq930 (J:Jn):Jn:=goneJ (recJ J (Zq868 J)) (doneJ J).1
end Go.Proofs.YtpjchngjhijgmaaGreat
namespace Go.Proofs.YtpjchngjhijgmaaGreat
open Go.RowKit
theorem Zq500:LiveJ UJn (newS 1048576):=⟨JInv.new.wider (fun k hk=>by cases hk),rfl⟩
theorem Zq703 {S:Str} {c:Rg} {at':Int} {ts:List Tag} (h:LiveJ UJn S) (ha:S.armed=false) (hn:get kJ S.seen=none) (hg:goodM c at' ts=true) :
  JRec S none∧((Zq77 S).1=0→whyS (Zq77 S).2 kJ≠0)∧JRec (makeS (Zq77 S).2 kJ).2 none∧(saveJ (makeS (Zq77 S).2 kJ).2 (newR c at' ts)).1≠6∧(makeJ S c at' ts false).1=0∧(makeJ S c at' ts false).2.armed=false:=by
 have hok:=Zq546 hg
 have hci:=Zq306 fun k hk=>(Zq184 h k hk).1
 obtain ⟨X,hX⟩:∃ x,x=Zq77 S:=⟨_,rfl⟩
 have hXp:X=execS (Zq145 (Zq20 S ⟨2,0⟩)) S:=hX.trans (Zq349 h)
 obtain ⟨c1,c2⟩:=Zq132 Zq82 h ha hci
 obtain ⟨d1,d2⟩:=Zq258 Zq82 h hci c1
 rw [←hXp] at c1 c2 d1 d2
 have h3:get kJ X.2.seen=none:=by
  refine (congrFun d2 kJ).trans (Zq913.trans ?_)
  rw [hn];simp
 have hwhy:whyS X.2 kJ=4:=by rw [d1.why kJ_ok,h3];rfl
 have hb:(Zq34 X.2).1=false:=by simp [Zq34,c2]
 have e0:(stepE X.2 (.deed kJ madeD)).1=0:=Zq222 _ d1.on d1.inv.coh hb
 obtain ⟨h5,h6⟩:=Zq455 d1 Zq82 Zq589 (.inl rfl) e0
 have h7:=h6 kJ
 rw [if_pos rfl,h3] at h7
 have h8:get kJ (stepE X.2 (.deed kJ madeD)).2.seen=some ⟨[],[]⟩:=h7
 have hm:makeS X.2 kJ=stepE X.2 (.deed kJ madeD):=d1.make Zq82 kJ_ok h3
 have hpl:=Zq459 h hg hn
 obtain ⟨f1,f2⟩:=Zq132 Zq82 h ha (Zq553 h hok)
 rw [←hX,hm,hpl]
 refine ⟨(h.attr_none hn).1,fun _=>by rw [hwhy];decide,?_,?_,f1,f2⟩
 ·show (attrS _ kJ nmJ).2≠0
  rw [h5.attr kJ_ok h8]
  simp [get]
 ·rcases Zq550 h5 h8 hok with e|e
  ·rw [e];decide
  ·rw [e];decide
theorem JOK.open_pre {S:Str} {J:Jn} (h:JOK S J):(Zq20 S ⟨2,0⟩).length≤100∧SeenB S∧JRec S (some J.r)∧J.r.set≤1000000∧((trimJ S (layJ (Zq74 S J.r))).1=0→JRec (trimJ S (layJ (Zq74 S J.r))).2 (some J.r)):=by
 have hs:=h.small
 refine ⟨by have:=h.live.inv.keyCount;omega,h.live.inv.seenB,h.jrec,by omega,fun h0=>?_⟩
 rw [h.started] at h0 ⊢
 have htr:trimJ S { J with safe:=0 }=Zq16 S:=h.trim
 rw [htr] at h0 ⊢
 obtain ⟨a,b⟩:=h.barrier h0
 exact (h.moved a b h.safe).jrec
theorem Zq780 {c:Rg} {at':Int} {ts:List Tag} (hg:goodM c at' ts=true):∃ S1 S2,makeJ (newS 1048576) c at' ts false=(0,S1)∧JOK S1 (Zq120 c at' ts)∧S1.armed=false∧openJ S1 (newR c at' ts)=(0,S2,Zq40 (Zq120 c at' ts))∧JOK S2 (Zq40 (Zq120 c at' ts))∧S2.armed=false:=by
 obtain ⟨_,_,_,_,h1,h2⟩:=Zq703 (c:=c) (at':=at') (ts:=ts) Zq500 rfl rfl hg
 have h3:=Zq854 Zq500 hg rfl h1
 obtain ⟨S2,h4,h5,h6⟩:=h3.open_calm h2
 exact ⟨_,S2,Prod.ext h1 rfl,h3,h2,h4,h5,h6⟩
theorem Zq591 {S:Str} {c:Rg} {at':Int} {ts:List Tag} {b:Bool} {m:Nat} (h:Keeps S (m+4+2*(Zq35 S ⟨2,0⟩).length)):Keeps (makeJ S c at' ts b).2 m:=by
 have h1:Keeps (Zq77 S).2 (m+4):=Zq199 h
 have h2:Keeps (makeS (Zq77 S).2 kJ).2 (m+2):=Zq175 h1
 unfold makeJ
 split
 ·exact h.fewer (by omega)
 ·split
  ·exact h.fewer (by omega)
  ·split
   ·exact h.fewer (by omega)
   ·split
    ·exact h1.fewer (by omega)
    ·split
     ·exact h2.fewer (by omega)
     ·exact Zq338 h2
theorem Zq592 {S:Str} {J:Jn} {m:Nat} (h:Keeps S (m+2+4*(Zq35 S ⟨2,0⟩).length)):Keeps (mendJ S J).2.1 m:=by
 have h1:Keeps (trimJ S J).2 (m+2):=Zq301 h
 unfold mendJ
 split
 ·exact h1.fewer (by omega)
 ·exact Zq338 h1
theorem Zq350 {S:Str} {r:Rc} {m:Nat} (h:Keeps S (m+2+4*(Zq35 S ⟨2,0⟩).length)):Keeps (openJ S r).2.1 m:=Zq592 h
theorem LiveJ.told {S:Str} (h:LiveJ UJn S):(Zq35 S ⟨2,0⟩).length≤32:=by
 unfold Zq35
 rw [if_pos h.on]
 exact h.inv.keyCount
end Go.Proofs.YtpjchngjhijgmaaGreat
namespace Go.Proofs.YtpjchngjhijgmaaGreat
open Go.RowKit
section
variable {W w : World} {I : Hp} {l : List HP}
set_option maxRecDepth 4000
set_option maxHeartbeats 8000000
theorem Zq351 (c:Rg) (at':Int) (vt:Value) (ts:List Tag) (h:St W I w l) (ht:RowI I 4 vt ts.length (flat ts)) (htn:ts.length≤1000000) (hg:goodM c at' ts=true) :
  Calls Tryz.prog 38 #[c.val,.int .i64 at',vt] w fun e w'=>∃ I' p q S,I.sub I'∧e=.returned (.tuple #[.pointer (some ⟨p,0,none⟩),.pointer (some ⟨q,0,none⟩)])∧St W I' w' (Zq11 p S::jnHP q p (Zq40 (Zq120 c at' ts))::l)∧JOK S (Zq40 (Zq120 c at' ts))∧S.armed=false∧Keeps S 99000:=by
 obtain ⟨S1,S2,hm,hj1,ha1,ho,hj2,ha2⟩:=Zq780 hg
 obtain ⟨p1,p2,p3,p4,_,_⟩:=Zq703 (c:=c) (at':=at') (ts:=ts) Zq500 rfl rfl hg
 have hk1:Keeps S1 99990:=by
  have:=Zq591 (c:=c) (at':=at') (ts:=ts) (b:=false) (m:=99990) ((Zq270 1048576).fewer (show 99990+4+2*(Zq35 (newS 1048576) ⟨2,0⟩).length≤100000 by show 99990+4+2*0≤_;omega))
  rwa [hm] at this
 have hto:=hj1.live.told
 have hk2:Keeps S2 99000:=by
  have:=Zq350 (r:=newR c at' ts) (m:=99000) (hk1.fewer (show 99000+2+4*(Zq35 S1 ⟨2,0⟩).length≤99990 by omega))
  rwa [ho] at this
 have HJ:=Zh hj2
 have HA:=Zh ha2
 have HK2:=Zh hk2
 have HMK:=Zh (show ∀ (w1:World) (p:Nat) (l1:List HP),St W I w1 (Zq11 p (newS 1048576)::l1)→Calls Tryz.prog 34 #[.pointer (some ⟨p,0,none⟩),c.val,.int .i64 at',vt] w1 fun e w'=>∃ I',I.sub I'∧e=.returned (.int .i64 0)∧St W I' w' (Zq11 p S1::l1) from fun _ _ _ h1=>by
  have:=Zq451 (m:=99990) c at' vt ts none none h1 ht htn ((Zq270 1048576).fewer (by show 99990+4+2*0≤_;omega)) (by show 0≤_;omega) p1 p2 p3 p4
  rw [show (none:Option Rc).isSome=false from rfl,hm] at this
  exact this)
 have HOP:=Zh (show ∀ (I1:Hp) (w1:World) (p:Nat) (l1:List HP),St W I1 w1 (Zq11 p S1::l1)→Calls Tryz.prog 27 #[.pointer (some ⟨p,0,none⟩)] w1 fun e w'=>∃ I' q,I1.sub I'∧e=.returned (.tuple #[.pointer (some ⟨q,0,none⟩),.int .i64 0])∧St W I' w' (Zq11 p S2::jnHP q p (Zq40 (Zq120 c at' ts))::l1) from fun _ _ _ _ h1=>by
  obtain ⟨q1,q2,q3,q4,q5⟩:=hj1.open_pre
  have hs:=Zq450 (m:=99000) (newR c at' ts) (some (newR c at' ts)) h1 hj1.live.on (hk1.fewer (by omega)) q1 q2 q3 q4 q5
  rw [ho] at hs
  refine hs.mono ?_
  rintro e w' ⟨I',hs1,⟨hne,_⟩|⟨_,q,he,h2⟩⟩
  ·exact absurd rfl hne
  ·exact ⟨I',q,hs1,he,h2⟩)
 clear hm hj1 ha1 ho hj2 ha2 p1 p2 p3 p4 hk1 hto hk2 ht htn
 have h1:=h.alloc (.cells #[.int .i64 c.splay,.int .i64 c.sets,.int .i64 c.size] 26)
 simp only [Rg.val] at HMK ⊢
 have H1:=Zh (Zq635 1048576 h1)
 have HRC:=Zh (show ∀ (w':World) (L:List HP),St W I w' (HP.pt w.heap.size (.cells #[.int .i64 c.splay,.int .i64 c.sets,.int .i64 c.size] 26)::L)→w'.cell? ⟨w.heap.size,0,none⟩=some (.int .i64 c.splay)∧w'.cell? ⟨w.heap.size,1,none⟩=some (.int .i64 c.sets)∧w'.cell? ⟨w.heap.size,2,none⟩=some (.int .i64 c.size) from fun w' L h1=>Zq41 h1)
 clear h1
 go_enter Tryz.func38,Tryz.ntmps38
 go_wp2_with fail
 refine H1.out.mono ?_
 rintro e w2 ⟨p,rfl,h2⟩
 obtain ⟨c0,c1,c2⟩:=HRC.out _ _ (h2.pull 1 _ rfl)
 have HM:=Zh (HMK.out _ _ _ h2)
 clear h2
 go_wp2_with fail
 refine HM.out.mono ?_
 rintro e w3 ⟨I3,hs3,rfl,h3⟩
 have HO:=Zh (HOP.out _ _ _ _ h3)
 have HS3:=Zh hs3
 clear h3 hs3 c0 c1 c2
 go_wp2_with fail
 refine HO.out.mono ?_
 rintro e w4 ⟨I4,q,hs4,rfl,h4⟩
 have H4:=Zh h4
 have HS4:=Zh (HS3.out.trans hs4)
 clear h4 hs4
 go_wp2_with fail
 go_ret2
 refine ⟨I4,p,q,S2,HS4.out,rfl,?_,HJ.out,HA.out,HK2.out⟩
 exact (H4.out.pull 2 _ rfl).drop
end
end Go.Proofs.YtpjchngjhijgmaaGreat
namespace Go.Proofs.YtpjchngjhijgmaaGreat
open Go.RowKit
def tag1:Tag:=⟨1,1,0,0⟩
section
variable {W w : World} {I : Hp} {l : List HP}
set_option maxRecDepth 4000
set_option maxHeartbeats 8000000
theorem Zq897 {g:Nat} {t:Tag} {ty:TypeId} {f:Nat × Nat} (h:St W I w (HP.pt g (.cells #[.int .i64 t.id,.int .i64 t.own,.int .i64 t.heir,.int .i64 t.at_] ty f)::l)):∃ I',I.sub I'∧RowI I' 4 (.slice (some ⟨g,0,none⟩) 1 1) 1 (flat [t])∧St W I' w l:=by
 obtain ⟨I',hs,hI,h2⟩:=h.freeze
 refine ⟨I',hs,⟨some ⟨g,0,none⟩,1,rfl,rfl,Nat.le_refl _,by unfold maxLen;omega,(fun e=>by cases e),fun _=>⟨g,0,_,_,_,rfl,hI,fun i x hx=>?_⟩⟩,h2⟩
 simpa [flat,Tag.vals] using hx
theorem Zq240 (h:St W I w l):Calls Tryz.prog 39 #[] w fun e w'=>∃ I' g,I.sub I'∧e=.returned (.slice (some ⟨g,0,none⟩) 1 1)∧RowI I' 4 (.slice (some ⟨g,0,none⟩) 1 1) 1 (flat [tag1])∧St W I' w' l:=by
 go_enter Tryz.func39,Tryz.ntmps39
 obtain ⟨I',hs,hr,h2⟩:=Zq897 (t:=tag1) (h.alloc (.cells #[.int .i64 1,.int .i64 1,.int .i64 0,.int .i64 0] 80))
 have HS:=Zh hs
 have HR:=Zh hr
 have H2:=Zh h2
 clear hs hr h2
 go_wp2_with fail
 go_ret
 exact ⟨_,_,HS.out,rfl,HR.out,H2.out⟩
end
end Go.Proofs.YtpjchngjhijgmaaGreat
namespace Go.Proofs.YtpjchngjhijgmaaGreat
open Go.RowKit
end Go.Proofs.YtpjchngjhijgmaaGreat
namespace Go.Proofs.YtpjchngjhijgmaaGreat
open Go.RowKit
theorem JOK.append_calm {S:Str} {J:Jn} {d:List Int} (h:JOK S J) (ha:S.armed=false) (hd:1≤d.length∧d.length≤90) (hb:∀ y ∈ d,isByte y) (hf:fitsJ J [(d.length:Int)]=true) (hn:J.r.set+J.l.length<1000000∧J.l.length<100000) :
  ∃ S' g p nx,rput J.r.shape J.fill (endJ J+1) d.length=(g,p,nx,true)∧Zq44 S J d=((endJ J+1,0),S',addJ J (newE J d) p g)∧JOK S' (addJ J (newE J d) p g)∧S'.armed=false ∧
   (Zq50 (madeS S (keyOf J.r.shape (rput J.r.shape J.fill (endJ J+1) d.length).2.1)).2 (keyOf J.r.shape (rput J.r.shape J.fill (endJ J+1) d.length).2.1) (Zq23 (newE J d))).1≠6:=by
 obtain ⟨g,p,nx,hr,hin,h1,h2,h3⟩:=h.append hd hb hf hn
 obtain ⟨c1,c2⟩:=Zq132 Zq82 h.live ha h1
 rw [if_pos c1] at h2
 refine ⟨_,g,p,nx,hr,h2,h3 c1,c2,?_⟩
 obtain ⟨hw,hroom,_⟩:=h.appRoom hr hin
 have hcc:=Rg.ok h.ok.shape
 have hlen:(Zq21 (rowsJ J) (keyOf J.r.shape p)).length+(Zq23 (newE J d)).length≤4096:=by
  rw [Zq26]
  show _+(22+d.length)≤_
  omega
 have hpl:=Zq458 h.live (Zq276 h.ok.shape p) (h.rows (keyOf J.r.shape p) Zq157) hlen
 rw [hpl] at c1
 rw [hr]
 simp only
 by_cases q:(madeS S (keyOf J.r.shape p)).1=0
 ·rw [if_neg (by simp [q])] at c1
  rw [c1];decide
 ·rw [if_pos q] at c1
  exact absurd c1 q
theorem Zq704:attrS (newS 10000) kJ nmJ=([],4):=by kernel_rfl
theorem Zq855:makeJ (newS 10000) ⟨0,0,0⟩ 0 [tag1] false=(1,newS 10000):=by kernel_rfl
theorem Zq898:whyS (Zq77 (newS 10000)).2 kJ=4:=by kernel_rfl
theorem Zq781:(attrS (makeS (Zq77 (newS 10000)).2 kJ).2 kJ nmJ).2=4:=by kernel_rfl
theorem Zq899:(saveJ (makeS (Zq77 (newS 10000)).2 kJ).2 (newR ⟨0,0,0⟩ 0 [tag1])).1=0:=by kernel_rfl
def j5:Jn:=Zq40 (Zq120 ⟨1,4,512⟩ 5 [tag1])
theorem Zq900:goodM ⟨1,4,512⟩ 5 [tag1]=true:=by kernel_rfl
theorem Zq901:fitsJ j5 [(([97]:List Int).length:Int)]=true:=by kernel_rfl
theorem Zq923:(rput j5.r.shape j5.fill (endJ j5+1) (([97]:List Int).length:Int)).1.set=0:=by kernel_rfl
theorem Zq902:endJ j5=5:=by kernel_rfl
theorem Zq705 {S:Str} (h:JOK S j5) (ha:S.armed=false):∃ S' J',Zq44 S j5 [97]=((6,0),S',J')∧JOK S' J'∧setsJ J'=1∧J'.safe=5 ∧
  (Zq50 (madeS S (keyOf j5.r.shape (rput j5.r.shape j5.fill (endJ j5+1) (([97]:List Int).length:Int)).2.1)).2 (keyOf j5.r.shape (rput j5.r.shape j5.fill (endJ j5+1) (([97]:List Int).length:Int)).2.1) (Zq23 (newE j5 [97]))).1≠6:=by
 obtain ⟨S',g,p,nx,h1,h2,h3,h4,h5⟩:=h.append_calm (d:=[97]) ha (by decide) (by intro y hy;rw [List.mem_singleton.1 hy];unfold isByte;omega) Zq901 (by decide)
 have hs:=Zq923
 rw [h1] at hs
 refine ⟨S',_,by rw [h2,Zq902];rfl,h3,?_,rfl,h5⟩
 show g.set - 0+1=1
 have hs':g.set=0:=hs
 omega
end Go.Proofs.YtpjchngjhijgmaaGreat
namespace Go.Proofs.YtpjchngjhijgmaaGreat
open Go.RowKit
def Zq188 (ts:List Tag):Int→List (List Int)→List En
 | _,[]=>[]
 | s,p::ps=>⟨tagOf ts s,s,p⟩::Zq188 ts (s+1) ps
theorem Zq460 (ts:List Tag):∀ (s:Int) (ps:List (List Int)),(Zq188 ts s ps).length=ps.length
 | _,[]=>rfl
 | s,p::ps=>by simp [Zq188,Zq460 ts (s+1) ps]
def Zq87:List (List Int)→Str→Jn→Str × Jn × Nat
 | [],S,J=>(S,J,0)
 | p::ps,S,J=>if fitsJ J [(p.length:Int)]=false then (S,J,0) else ((Zq87 ps (Zq44 S J p).2.1 (Zq44 S J p).2.2).1,(Zq87 ps (Zq44 S J p).2.1 (Zq44 S J p).2.2).2.1,(Zq87 ps (Zq44 S J p).2.1 (Zq44 S J p).2.2).2.2+1)
theorem Zq554:∀ {ps:List (List Int)} {S:Str} {J:Jn},JOK S J→S.armed=false→(∀ p ∈ ps,(1≤p.length∧p.length≤90)∧∀ y ∈ p,isByte y)→J.r.set+J.l.length+ps.length<1000000∧J.l.length+ps.length<100000 →
  JOK (Zq87 ps S J).1 (Zq87 ps S J).2.1∧(Zq87 ps S J).1.armed=false∧(Zq87 ps S J).2.2≤ps.length∧(Zq87 ps S J).2.1.r=J.r∧(Zq87 ps S J).2.1.safe=J.safe∧(Zq87 ps S J).2.1.l=J.l++Zq188 J.r.tags (endJ J+1) (ps.take (Zq87 ps S J).2.2) ∧
   ∀ p,ps[(Zq87 ps S J).2.2]?=some p→fitsJ (Zq87 ps S J).2.1 [(p.length:Int)]=false
 | [],S,J,h,ha,_,_=>⟨h,ha,Nat.le_refl _,rfl,rfl,by simp [Zq87,Zq188],fun p hp=>by simp at hp⟩
 | p::ps,S,J,h,ha,hp,hn=>by
  obtain ⟨h1,h2⟩:=hp p (List.mem_cons_self ..)
  simp only [List.length_cons] at hn
  unfold Zq87
  by_cases hf:fitsJ J [(p.length:Int)]=false
  ·rw [if_pos hf]
   refine ⟨h,ha,Nat.zero_le _,rfl,rfl,by simp [Zq188],fun q hq=>?_⟩
   have e:p=q:=by simpa using hq
   subst e
   exact hf
  ·rw [if_neg hf]
   obtain ⟨S',g,pl,nx,_,e1,e2,e3,_⟩:=h.append_calm (d:=p) ha h1 h2 (by simpa using hf) (by omega)
   rw [e1]
   simp only
   have hl:(addJ J (newE J p) pl g).l=J.l++[newE J p]:=rfl
   obtain ⟨i1,i2,i3,i4,i5,i6,i7⟩:=Zq554 (ps:=ps) e2 e3 (fun q hq=>hp q (List.mem_cons_of_mem _ hq)) (by
    rw [hl,List.length_append,List.length_singleton]
    show J.r.set+_+_<_∧_
    omega)
   refine ⟨i1,i2,by simp only [List.length_cons];omega,i4,i5,?_,fun q hq=>i7 q (by simpa using hq)⟩
   rw [i6,hl,List.take_succ_cons,List.append_assoc]
   have he:endJ (addJ J (newE J p) pl g)=endJ J+1:=by
    unfold endJ
    rw [hl,List.length_append,List.length_singleton]
    show J.r.first - 1+_=_
    omega
   rw [he]
   rfl
theorem Zq706 {S:Str} {k:K4} {fr:List Int} (h:LiveJ UJn S) (hk:k ∈ UJn) (hn:fr.length≤200):(Zq50 S k fr).1≠6:=by
 have hok:=(Zq82.all k hk).2
 have hw:=h.why hok
 unfold Zq50
 cases hg:get k S.seen with
 | none =>
  rw [hg] at hw
  simp only [Option.isSome_none] at hw
  simp only [hw]
  decide
 | some t =>
  rw [hg] at hw
  simp only [Option.isSome_some,if_true] at hw
  have hT:=h.inv.getT k t hg
  have hr:=h.inv.roomy Zq82
  have hf:=h.inv.few Zq82
  simp only
  have hww:Zq73 S t t.b.length fr=0:=by
   have:=hT.1
   unfold Zq73
   rw [if_neg (by omega),if_neg (by rw [hr];intro q;have:=q.2;omega)]
  rw [Zq271 hw hg hww]
  show offE _≠6
  rcases Zq814 (doS S k (Zq111 t.b.length fr)).1 with e|e <;> rw [e] <;> decide
theorem Zq782 {S:Str} {k:K4} (h:LiveJ UJn S) (ha:S.armed=false) (hk:k ∈ UJn):LiveJ UJn (madeS S k).2:=by
 have hok:=(Zq82.all k hk).2
 have hw:=h.why hok
 unfold madeS
 cases hg:get k S.seen with
 | none =>
  rw [hg] at hw
  have hw':whyS S k=4:=hw
  rw [hw',if_pos (by omega),h.make Zq82 hok hg]
  have hb:(Zq34 S).1=false:=by simp [Zq34,ha]
  exact (Zq455 h Zq82 hk (.inl rfl) (Zq222 _ h.on h.inv.coh hb)).1
 | some t =>
  rw [hg] at hw
  have hw':whyS S k=0:=hw
  rw [hw',if_neg (by omega)]
  exact h
theorem JOK.six {S:Str} {J:Jn} {d:List Int} (h:JOK S J) (ha:S.armed=false) (hd:d.length≤100) (p:Pl):(Zq50 (madeS S (keyOf J.r.shape p)).2 (keyOf J.r.shape p) (Zq23 (newE J d))).1≠6:=by
 have hk:=Zq276 h.ok.shape p
 refine Zq706 (Zq782 h.live ha hk) hk ?_
 rw [Zq26]
 show 22+d.length≤_
 omega
theorem Zq501 {S:Str} {k:K4} {m:Nat} (h:Keeps S (m+2)):Keeps (madeS S k).2 m:=by
 unfold madeS
 split
 ·exact Zq175 h
 ·exact h.fewer (by omega)
theorem Zq259 {S:Str} {J:Jn} {d:List Int} {m:Nat} (h:Keeps S (m+4)):Keeps (Zq44 S J d).2.1 m:=by
 have h1:∀ k,Keeps (madeS S k).2 (m+2):=fun k=>Zq501 h
 unfold Zq44
 split
 ·exact h.fewer (by omega)
 ·split
  ·exact h.fewer (by omega)
  ·split
   ·exact h.fewer (by omega)
   ·split
    ·exact (h1 _).fewer (by omega)
    ·split
     ·exact Zq252 (h1 _)
     ·exact Zq252 (h1 _)
end Go.Proofs.YtpjchngjhijgmaaGreat
namespace Go.Proofs.YtpjchngjhijgmaaGreat
open Go.RowKit
def Zq317 (ls:List (List Int)) (most long:Int):Bool:=ls.all (fun p=>decide ((p.length:Int)≤long))&&decide ((ls.length:Int)≤most)
def ringK (a b c:Int):Rg:=⟨1+a % 4,4+b % 256 % 5,512+c % 65536 % 3585⟩
theorem Zq707 (a b c:Int):(ringK a b c).okB=true:=by
 unfold ringK Rg.okB
 rw [decide_eq_true_eq]
 simp only
 omega
def rowOf (p:List Int):List Int:=if p=[] then [7] else p.take 90
theorem Zq555 (p:List Int):1≤(rowOf p).length∧(rowOf p).length≤90:=by
 unfold rowOf
 split
 ·exact ⟨by decide,by decide⟩
 ·rename_i h
  have:=List.length_pos_iff.2 h
  rw [List.length_take]
  omega
theorem Zq593 {p:List Int} (h:∀ y ∈ p,isByte y):∀ y ∈ rowOf p,isByte y:=by
 unfold rowOf
 split
 ·intro y hy
  rw [List.mem_singleton.1 hy]
  unfold isByte;omega
 ·exact fun y hy=>h y (List.mem_of_mem_take hy)
def Zq104 (ls:List (List Int)):List Int:=ls.map fun p=>(p.length:Int)
section
variable {W w : World} {I : Hp} {l : List HP}
set_option maxRecDepth 4000
set_option maxHeartbeats 8000000
theorem RowsI.mono {I I':Hp} {v:Value} {ls:List (List Int)} (s:I.sub I') (h:RowsI I v ls):RowsI I' v ls:=by
 obtain ⟨vs,h1,h2,h3,h4⟩:=h
 exact ⟨vs,h1,RowI.mono s h2,fun i x q hx hq=>RowI.mono s (h3 i x q hx hq),h4⟩
theorem RowsI.slice {I:Hp} {v:Value} {ls:List (List Int)} (h:RowsI I v ls):∃ A c,v=.slice A ls.length c∧ls.length≤c∧c≤maxLen∧(A=none→c=0):=by
 obtain ⟨vs,h1,⟨A,c,e,h2,h3,h4,h5,_⟩,_⟩:=h
 exact ⟨A,c,e,h3,h4,h5⟩
theorem RowsI.cell {A:Option Addr} {c:Nat} {ls:List (List Int)} {i:Nat} {p:List Int} (h:RowsI I (.slice A ls.length c) ls) (hst:St W I w l) (hi:ls[i]?=some p):∃ b off A' c',A=some ⟨b,off,none⟩∧w.cell? ⟨b,off+i,none⟩=some (.slice A' p.length c')∧BytesI I (.slice A' p.length c') p:=by
 obtain ⟨vs,h1,h2,h3,h4⟩:=h
 have hil:=(List.getElem?_eq_some_iff.1 hi).1
 obtain ⟨x,hx⟩:∃ x,vs[i]?=some x:=⟨_,List.getElem?_eq_getElem (by omega)⟩
 have hb:=h3 i x p hx hi
 obtain ⟨A',c',e,_⟩:=id hb
 obtain ⟨b,off,e1,hc⟩:=Zq116 (mk:=fun x:Value=>[x]) (k:=1) (i:=i) (l:=vs) (by rw [h1,List.flatMap_singleton'];exact h2) (Hp.sub.refl _) hst (fun _=>rfl) hx
 simp only [Value.slice.injEq] at e1
 obtain ⟨rfl,_,_⟩:=e1
 have y0:=hc 0 (by omega)
 simp only [Zl6,Nat.mul_one,Nat.add_zero] at y0
 exact ⟨b,off,A',c',rfl,by rw [y0,e],by rw [←e];exact hb⟩
theorem Zq307 (v:Value) (ls:List (List Int)) (most long:Int) (w:World) (h:RowsI w.hp v ls) :
  Calls Tryz.prog 12 #[v,.int .i64 most,.int .i64 long] w fun e w'=>e=.returned (.bool (Zq317 ls most long))∧w=w':=by
 obtain ⟨A0,c0,rfl,hc0,hcm,_⟩:=h.slice
 have H0:=Zh h
 unfold maxLen at hcm
 have hn1:(ls.length:Int)≤9223372036854775807:=by omega
 clear h hc0 hcm
 go_enter Tryz.func12,Tryz.ntmps12
 go_wp2_with fail
 go_loopw [7] (fun a7 wr=>∃ (i:Nat),a7=.int .i64 i∧i≤ls.length∧(ls.take i).all (fun p=>decide ((p.length:Int)≤long))=true∧wr=w) (fun a7 _=>ls.length - (intOf a7).toNat)
 case atStart=>exact ⟨0,rfl,Nat.zero_le _,rfl,rfl⟩
 case round =>
  obtain ⟨i,rfl,hi,hall,rfl⟩:=hrel
  by_cases hlt:i<ls.length
  ·obtain ⟨p,hp⟩:∃ p,ls[i]?=some p:=⟨_,List.getElem?_eq_getElem hlt⟩
   obtain ⟨b,off,A',c',rfl,y0,_⟩:=H0.out.cell (St.init wr) hp
   have hst:(ls.take (i+1)).all (fun p=>decide ((p.length:Int)≤long))=decide ((p.length:Int)≤long):=by
    obtain ⟨hil,he⟩:=List.getElem?_eq_some_iff.1 hp
    rw [List.take_succ_eq_append_getElem hil,List.all_append,hall,he]
    simp
   have hfull:¬ (p.length:Int)≤long→Zq317 ls most long=false:=fun hf=>by
    unfold Zq317
    have:ls.all (fun p=>decide ((p.length:Int)≤long))=false:=List.all_eq_false.2 ⟨p,List.mem_of_getElem? hp,by simpa using hf⟩
    rw [this];rfl
   have HST:=Zh hst
   have HFULL:=Zh hfull
   clear hall hp hst hfull
   by_cases h1:long<(p.length:Int)
   ·have d1:decide (long<(p.length:Int))=true:=decide_eq_true h1
    have HF:=Zh (HFULL.out (by omega))
    go_wp2_with fail
    go_ret
    exact ⟨by rw [HF.out];rfl,rfl⟩
   ·have d1:decide (long<(p.length:Int))=false:=decide_eq_false h1
    have HF:=Zh (show decide ((p.length:Int)≤long)=true from decide_eq_true (by omega))
    clear h1
    go_wp2_with fail
    go_roundw
    case rel=>exact ⟨i+1,by go_num,by omega,by rw [HST.out];exact HF.out,trivial⟩
    case measure=>simp [intOf];omega
  ·obtain rfl:i=ls.length:=by omega
   rw [List.take_length] at hall
   have HALL:=Zh hall
   clear hall
   go_wp2_with fail
   go_ret
   exact ⟨by unfold Zq317;rw [HALL.out];rfl,rfl⟩
theorem Zq556 (a b c:Int) (w:World):Calls Tryz.prog 14 #[.int .i64 a,.int .i64 b,.int .i64 c] w fun e w'=>e=.returned (ringK a b c).val∧Below w.heap.size w w':=by
 obtain ⟨x,hx⟩:∃ x,a % 4=x:=⟨_,rfl⟩
 obtain ⟨y,hy⟩:∃ y,b % 256=y:=⟨_,rfl⟩
 obtain ⟨z,hz⟩:∃ z,c % 65536=z:=⟨_,rfl⟩
 have ha:bits .and .i64 a 3=x:=(Zq816 a).trans hx
 have hb:bits .and .i64 b 255=y:=(Zq602 b).trans hy
 have hc:bits .and .i64 c 65535=z:=(Zq278 c).trans hz
 obtain ⟨y5,hy5⟩:∃ y5,y % 5=y5:=⟨_,rfl⟩
 obtain ⟨z5,hz5⟩:∃ z5,z % 3585=z5:=⟨_,rfl⟩
 have ht1:y.tmod 5=y5:=by rw [←hy5];exact Int.tmod_eq_emod_of_nonneg (by omega)
 have ht2:z.tmod 3585=z5:=by rw [←hz5];exact Int.tmod_eq_emod_of_nonneg (by omega)
 have w1:IntKind.i64.wrap (1+x)=1+x:=by rw [IntKind.wrap_i64];omega
 have w2:IntKind.i64.wrap (4+y5)=4+y5:=by rw [IntKind.wrap_i64];omega
 have w3:IntKind.i64.wrap (512+z5)=512+z5:=by rw [IntKind.wrap_i64];omega
 have HV:=Zh (show (ringK a b c).val=.agg #[.int .i64 (1+x),.int .i64 (4+y5),.int .i64 (512+z5)] by unfold ringK Rg.val;rw [hx,hy,hz,hy5,hz5])
 clear hx hy hz hy5 hz5
 go_enter Tryz.func14,Tryz.ntmps14
 go_wp2_with fail
 refine bodyPost_ret (v:=.agg #[.int .i64 (1+x),.int .i64 (4+y5),.int .i64 (512+z5)]) (by simp [results,Tryz.results14,go_sem]) rfl ?_
 rw [HV.out]
 exact ⟨rfl,Zq6 _ _⟩
end
end Go.Proofs.YtpjchngjhijgmaaGreat
