import Derived.Test.YtpjchngjhijgmaaGreatTR01
set_option linter.all false
namespace Go.Proofs.YtpjchngjhijgmaaGreat
open Go.RowKit
theorem framesB_pre {A B:List En} (h:A<+:B):Zq36 A<+:Zq36 B:=by
 obtain ⟨C,rfl⟩:=h
 rw [Zq196]
 exact List.prefix_append _ _
theorem JOK.anyOf {S S':Str} {J:Jn} (h:JOK S J) (hS:LiveJ UJn S') {n:Nat} (hn:n≤J.l.length) (hrec:get kJ S'.seen=get kJ S.seen)
  (hpre:∀ k,k≠kJ→Zq36 (Zq829 (lJ J (J.l.take n) (J.at_.take n) J.fill) k)<+:rowB (get k S'.seen))
  (hin:∀ k,k≠kJ→∀ e,e ∈ Zq829 (lJ J (J.l.take n) (J.at_.take n) J.fill) k→e ∈ (allB (rowB (get k S'.seen))).1)
  (hof:∀ k,k≠kJ→∀ e,e ∈ (allB (rowB (get k S'.seen))).1→e ∈ Zq829 J k)
  (hstop:∀ e,J.l[n]?=some e→∀ k,k≠kJ→e ∉ (allB (rowB (get k S'.seen))).1) :
  ∃ f,JAny S' (lJ J (J.l.take n) (J.at_.take n) f):=by
 have hs2:=h.small
 have hA:=h.at
 obtain ⟨X,hX⟩:∃ X,X=(Go.Proofs.YtpjchngjhijgmaaGreat.readRows S').flatMap (fun r=>(allB r).1):=⟨_,rfl⟩
 have hXm:∀ e,e ∈ X↔∃ k,k≠kJ∧e ∈ (allB (rowB (get k S'.seen))).1:=fun e=>by rw [hX];exact mem_parsed hS
 have hmerge:Zq163 (Go.Proofs.YtpjchngjhijgmaaGreat.readRows S') J.r.first=J.l.take n:=by
  refine Zq611 h.ok.first.1 (runs_take h.run n) (fun e he=>?_) fun e he h1 h2=>?_
  ·rw [←hX]
   obtain ⟨i,hi⟩:=List.getElem?_of_mem he
   have hil:=(List.getElem?_eq_some_iff.1 hi).1
   rw [List.length_take] at hil
   obtain ⟨pi,hpi⟩:∃ p,J.at_[i]?=some p:=⟨_,List.getElem?_eq_getElem (by rw [hA.len];omega)⟩
   have hi':(J.at_.take n)[i]?=some pi:=by rw [List.getElem?_take_of_lt (by omega)];exact hpi
   exact (hXm e).2 ⟨_,Zq433,hin _ Zq433 e (mem_entsAt (J:=lJ J (J.l.take n) (J.at_.take n) J.fill) (i:=i) hi hi')⟩
  ·rw [←hX] at he
   obtain ⟨k,hk,he2⟩:=(hXm e).1 he
   obtain ⟨i,hi⟩:=List.getElem?_of_mem (entsAt_mem (hof k hk e he2)).1
   have hseq:=Zq255 h.run hi
   have hil:=(List.getElem?_eq_some_iff.1 hi).1
   rw [List.length_take] at h2
   rcases Nat.lt_or_ge i n with q|q
   ·exact List.mem_of_getElem? (i:=i) (by rw [List.getElem?_take_of_lt q];exact hi)
   ·obtain rfl:i=n:=by omega
    exact absurd he2 (hstop e hi k hk)
 obtain ⟨f,hf⟩:=Zq689 h.lay n
 refine ⟨f,hS,h.ok,?_,runs_take h.run n,fun e he=>h.ents e (List.mem_of_mem_take he),hf,?_,fun k hk=>?_,hmerge,h.dead,h.safe⟩
 ·show J.r.set+((J.l.take n).length:Int)≤_∧(J.l.take n).length≤_
  rw [List.length_take]
  omega
 ·rw [hrec];exact h.rec_
 ·rw [rows_entsAt]
  exact hpre k hk
theorem rowB_of {S:Str} {J:Jn} (h:JOK S J) {k:K4} (hk:k≠kJ):rowB (get k S.seen)=Zq36 (Zq829 J k):=by
 have hr:=h.rows k hk
 unfold rowB
 rw [hr,rows_entsAt]
 split
 ·rename_i q;rw [q];rfl
 ·rfl
theorem allB_row {S:Str} {J:Jn} (h:JOK S J) {k:K4}:(allB (Zq36 (Zq829 J k))).1=Zq829 J k:=by
 have:=Zq366 (rest:=[]) (es:=Zq829 J k) (fun e he=>(h.ents e (entsAt_mem he).1).1) (by unfold takeR;rw [if_pos rfl];decide)
 rwa [List.append_nil] at this
theorem zip_cut {α β:Type} {l:List α} {m:List β} {i:Nat} {a:α} {b:β} (h1:l[i]?=some a) (h2:m[i]?=some b):l.zip m=(l.take i).zip (m.take i)++(a,b)::(l.zip m).drop (i+1):=by
 have e:(l.take i).zip (m.take i)=(l.zip m).take i:=by rw [List.zip_eq_zipWith,List.zip_eq_zipWith,List.take_zipWith]
 have hz:(l.zip m)[i]?=some (a,b):=List.getElem?_zip_eq_some.2 ⟨h1,h2⟩
 obtain ⟨hi,hv⟩:=List.getElem?_eq_some_iff.1 hz
 rw [e,←hv,←List.drop_eq_getElem_cons hi,List.take_append_drop]
theorem entsAt_cut {J:Jn} {i:Nat} {e:En} {p:Pl} (h1:J.l[i]?=some e) (h2:J.at_[i]?=some p):∃ B,Zq829 J (keyOf J.r.shape p)=Zq829 (lJ J (J.l.take i) (J.at_.take i) J.fill) (keyOf J.r.shape p)++e::B:=by
 refine ⟨((J.l.zip J.at_).drop (i+1)).filterMap fun x=>if keyOf J.r.shape x.2=keyOf J.r.shape p then some x.1 else none,?_⟩
 show (J.l.zip J.at_).filterMap (fun x=>if keyOf J.r.shape x.2=keyOf J.r.shape p then some x.1 else none)=((J.l.take i).zip (J.at_.take i)).filterMap (fun x=>if keyOf J.r.shape x.2=keyOf J.r.shape p then some x.1 else none)++_
 refine (congrArg (List.filterMap _) (zip_cut h1 h2)).trans ?_
 rw [List.filterMap_append,List.filterMap_cons]
 simp
theorem JOK.rotten {S S':Str} {J:Jn} (h:JOK S J) (hS:LiveJ UJn S') {n j:Nat} {e:En} {p:Pl} {t:TS} {x y:Int} (h1:J.l[n]?=some e) (h2:J.at_[n]?=some p)
  (ht:get (keyOf J.r.shape p) S.seen=some t) (hx:(Zq46 e)[j]?=some x) (hy:isByte y) (hne:x≠y) (h16:j≠16∧j≠17)
  (hs:∀ k,get k S'.seen=if k=keyOf J.r.shape p then some { t with b:=t.b.set ((Zq36 (Zq829 (lJ J (J.l.take n) (J.at_.take n) J.fill) (keyOf J.r.shape p))).length+j) y } else get k S.seen) :
  ∃ f,JAny S' (lJ J (J.l.take n) (J.at_.take n) f):=by
 obtain ⟨A,hA⟩:∃ A,A=Zq829 (lJ J (J.l.take n) (J.at_.take n) J.fill) (keyOf J.r.shape p):=⟨_,rfl⟩
 obtain ⟨B,hB⟩:=entsAt_cut h1 h2
 have hjl:=(List.getElem?_eq_some_iff.1 hx).1
 have htb:t.b=Zq36 A++(Zq46 e++Zq36 B):=by
  have:=rowB_of h (k:=keyOf J.r.shape p) Zq433
  rw [ht,hB,←hA,Zq196,Zq135] at this
  exact this
 have hrow:rowB (get (keyOf J.r.shape p) S'.seen)=Zq36 A++((Zq46 e).set j y++Zq36 B):=by
  rw [hs,if_pos rfl,←hA]
  show t.b.set _ _=_
  rw [htb,List.set_append_right _ _ (by omega),Nat.add_sub_cancel_left,List.set_append_left _ _ hjl]
 have heok:=h.ents e (List.mem_of_getElem? h1)
 have hall:(allB (rowB (get (keyOf J.r.shape p) S'.seen))).1=A:=by
  rw [hrow]
  refine Zq366 (fun a ha=>?_) (frame_rotten heok.1 heok.2.1 _ hx h16 hy hne)
  rw [hA] at ha
  exact (h.ents a (List.mem_of_mem_take (entsAt_mem ha).1)).1
 have hoth:∀ k,k≠keyOf J.r.shape p→get k S'.seen=get k S.seen:=fun k hk=>by rw [hs,if_neg hk]
 have hnl:=(List.getElem?_eq_some_iff.1 h1).1
 have hlen:=h.at.len
 refine h.anyOf hS (Nat.le_of_lt hnl) (hoth _ (fun q=>Zq433 q.symm)) (fun k hk=>?_) (fun k hk a ha=>?_) (fun k hk a ha=>?_) fun a ha k hk hm=>?_
 ·by_cases q:k=keyOf J.r.shape p
  ·subst q
   rw [hrow,←hA]
   exact List.prefix_append _ _
  ·rw [hoth k q,rowB_of h hk]
   exact framesB_pre (entsAt_take J n J.fill k)
 ·by_cases q:k=keyOf J.r.shape p
  ·subst q
   rw [hall,hA]
   exact ha
  ·rw [hoth k q,rowB_of h hk,allB_row h]
   exact (entsAt_take J n J.fill k).subset ha
 ·by_cases q:k=keyOf J.r.shape p
  ·subst q
   rw [hall] at ha
   rw [hB,←hA]
   exact List.mem_append_left _ ha
  ·rw [hoth k q,rowB_of h hk,allB_row h] at ha
   exact ha
 ·obtain rfl:e=a:=by rw [h1] at ha;exact Option.some.inj ha
  by_cases q:k=keyOf J.r.shape p
  ·subst q
   rw [hall,hA] at hm
   have hm1:=(entsAt_mem hm).1
   have a1:=(run_seq (runs_take h.run n) hm1).2
   have a2:=Zq255 h.run h1
   rw [List.length_take] at a1
   omega
  ·rw [hoth k q,rowB_of h hk,allB_row h] at hm
   obtain ⟨_,i,p',b1,b2,b3⟩:=entsAt_mem hm
   have a1:=Zq255 h.run b1
   have a2:=Zq255 h.run h1
   obtain rfl:i=n:=by omega
   rw [h2] at b2
   cases b2
   exact q b3.symm
theorem JOK.same {S S':Str} {J:Jn} (h:JOK S J) (hS:LiveJ UJn S') (hs:∀ k,get k S'.seen=get k S.seen):∃ f,JAny S' (lJ J (J.l.take J.l.length) (J.at_.take J.l.length) f):=by
 refine h.anyOf hS (Nat.le_refl _) (hs _) (fun k hk=>?_) (fun k hk a ha=>?_) (fun k hk a ha=>?_) fun a ha=>?_
 ·rw [hs k,rowB_of h hk]
  exact framesB_pre (entsAt_take J _ J.fill k)
 ·rw [hs k,rowB_of h hk,allB_row h]
  exact (entsAt_take J _ J.fill k).subset ha
 ·rw [hs k,rowB_of h hk,allB_row h] at ha
  exact ha
 ·have:=(List.getElem?_eq_some_iff.1 ha).1
  omega
theorem xorB8 (a x:Int):xorB a x=((BitVec.ofInt 8 a ^^^ BitVec.ofInt 8 x).toNat:Nat):=by
 show IntKind.u8.wrap ((BitVec.ofInt 8 a ^^^ BitVec.ofInt 8 x).toNat:Nat)=_
 have h:=(BitVec.ofInt 8 a ^^^ BitVec.ofInt 8 x).isLt
 rw [IntKind.wrap_u8]
 omega
theorem xorB_byte (a x:Int):isByte (xorB a x):=by
 rw [xorB8]
 have h:=(BitVec.ofInt 8 a ^^^ BitVec.ofInt 8 x).isLt
 unfold isByte
 omega
theorem ofInt8_toNat {a:Int} (h:isByte a):((BitVec.ofInt 8 a).toNat:Int)=a:=by
 unfold isByte at h
 rw [BitVec.toNat_ofInt]
 omega
theorem xorB_zero {a:Int} (h:isByte a):xorB a 0=a:=by
 rw [xorB8]
 rw [show BitVec.ofInt 8 0=0#8 from rfl,BitVec.xor_zero]
 exact ofInt8_toNat h
theorem xorB_ne {a x:Int} (h:isByte a) (hx:isByte x) (h0:x≠0):a≠xorB a x:=by
 intro e
 rw [xorB8] at e
 have h1:(BitVec.ofInt 8 a).toNat=(BitVec.ofInt 8 a ^^^ BitVec.ofInt 8 x).toNat:=by
  have:=ofInt8_toNat h
  omega
 have h2:BitVec.ofInt 8 a ^^^ BitVec.ofInt 8 x=BitVec.ofInt 8 a:=(BitVec.eq_of_toNat_eq h1).symm
 have h3:BitVec.ofInt 8 x=0#8:=by
  have h4:BitVec.ofInt 8 a ^^^ (BitVec.ofInt 8 a ^^^ BitVec.ofInt 8 x)=BitVec.ofInt 8 a ^^^ BitVec.ofInt 8 a:=by rw [h2]
  rwa [←BitVec.xor_assoc,BitVec.xor_self,BitVec.zero_xor] at h4
 have h5:=ofInt8_toNat hx
 rw [h3] at h5
 exact h0 h5.symm
theorem LiveJ.rot {S:Str} (h:LiveJ UJn S) (hl:S.late=[]) {k:K4} {t:TS} (ht:get k S.seen=some t) {i:Nat} (hi:i<t.b.length) (x:Int) :
  ∃ S',rotS S k i x=(true,S')∧LiveJ UJn S'∧S'.armed=S.armed∧S'.late=[]∧(∀ k',get k' S'.seen=if k'=k then some { t with b:=t.b.set i (xorB (t.b.getD i 0) x) } else get k' S.seen)∧(∀ m,Keeps S m→Keeps S' m):=by
 have hco:=h.inv.coh
 have hdr:∀ k',get k' S.dry=get k' S.seen:=fun k'=>by
  have:=hco k'
  unfold lateAt at this
  rw [hl] at this
  exact this.symm
 have hjt:=h.inv.getT k t ht
 obtain ⟨T,hT⟩:∃ T:TS,T={ t with b:=t.b.set i (xorB (t.b.getD i 0) x) }:=⟨_,rfl⟩
 have hTb:T.b.length=t.b.length:=by rw [hT];simp
 have hTa:T.attr=t.attr:=by rw [hT]
 have hTj:jT T:=by
  refine ⟨by rw [hTb];exact hjt.1,fun y hy=>?_,by rw [hTa];exact hjt.2.2⟩
  rw [hT] at hy
  rcases List.mem_or_eq_of_mem_set hy with q|q
  ·exact hjt.2.1 y q
  ·rw [q];exact xorB_byte _ _
 have hTs:T.size=t.size:=by unfold TS.size;rw [hTb,hTa]
 have hU:=h.inv.getU ht
 have hgs:∀ (L:List (K4 × TS)),(∀ k',get k' L=get k' S.seen)→∀ k',get k' (put k T L)=if k'=k then some T else get k' S.seen:=fun L hL k'=>by rw [get_put,hL]
 refine ⟨{ S with seen:=put k T S.seen,dry:=put k T S.dry },?_,⟨?_,h.on⟩,rfl,hl,fun k'=>by rw [hgs _ (fun _=>rfl),←hT],fun m hk=>?_⟩
 ·unfold rotS
  rw [if_neg (by simp [h.on]),ht]
  simp only
  rw [if_neg (by omega),hdr k,ht]
  simp only [Int.toNat_natCast]
  rw [if_pos (by omega:(i:Int)<t.b.length),hT]
  rfl
 ·have hput:∀ L:List (K4 × TS),(∀ z ∈ L,z.1 ∈ UJn∧jT z.2)→∀ z ∈ put k T L,z.1 ∈ UJn∧jT z.2:=fun L hL z hz=>by
   rcases List.mem_cons.1 hz with rfl|hz
   ·exact ⟨hU,hTj⟩
   ·exact hL z (List.mem_filter.1 hz).1
  refine ⟨h.inv.room,Zq302 h.inv.seenN,h.inv.lateN,?_,hput _ h.inv.seen,hput _ h.inv.dry,h.inv.late,fun k'=>?_,⟨h.inv.keys.rise,fun g k'=>?_⟩⟩
  ·have h1:=Zq628 h.inv.seenN k
   rw [ht] at h1
   have h2:sumS (put k T S.seen)=T.size+sumS (del k S.seen):=by simp [sumS,put]
   show S.used=_
   rw [h2,h.inv.used,h1,hTs]
   rfl
  ·show get k' (put k T S.seen)=(lateAt S k').foldl stepD (get k' (put k T S.dry))
   have:lateAt S k'=[]:=by unfold lateAt;rw [hl];rfl
   rw [this,hgs _ (fun _=>rfl),hgs _ hdr]
   rfl
  ·have h1:=h.inv.keys.mem g k'
   show k' ∈ Zq18 S g↔_∧(get k' (put k T S.seen)).isSome=true
   rw [h1,hgs _ (fun _=>rfl)]
   split
   ·rename_i q;subst q;rw [ht];simp
   ·rfl
 ·have hsm:∀ z:K4 × TS,z=(k,T)→z.2.small:=fun z hz=>by
   have h0:=hk.inv.seen _ (get_mem ht)
   subst hz
   unfold TS.small at h0 ⊢
   rw [hTb,hTa]
   exact h0
  refine ⟨⟨hk.inv.rise,hk.inv.many,fun z hz=>?_,fun z hz=>?_,hk.inv.late,hk.inv.lateN⟩,hk.keep,hk.fuse,hk.lates⟩
  ·rcases List.mem_cons.1 hz with q|hz
   ·exact hsm z q
   ·exact hk.inv.seen z (List.mem_filter.1 hz).1
  ·rcases List.mem_cons.1 hz with q|hz
   ·exact hsm z q
   ·exact hk.inv.dry z (List.mem_filter.1 hz).1
end Go.Proofs.YtpjchngjhijgmaaGreat
namespace Go.Proofs.YtpjchngjhijgmaaGreat
open Go.RowKit
theorem entsOf_len (ts:List Tag):∀ (s:Int) (ps:List (List Int)),(Zq402 ts s ps).length=ps.length
 | _,[]=>rfl
 | s,p::ps=>by simp [Zq402,entsOf_len ts (s+1) ps]
end Go.Proofs.YtpjchngjhijgmaaGreat
namespace Go.Proofs.YtpjchngjhijgmaaGreat
open Go.RowKit
theorem setsP_len (c:Rg):∀ (ns:List Int) (f:Fl) (s:Int),(setsP c f s ns).length=ns.length
 | [],_,_=>rfl
 | n::ns,f,s=>by simp [setsP,setsP_len c ns]
theorem laid_sets {c:Rg} {s0:Int}:∀ {es:List En} {ps:List Pl} {f g:Fl} {s:Int} (ns:List Int),laid c s0 es ps f g→runs es s→setsP c f s (es.map (fun e=>(e.data.length:Int))++ns)=ps++setsP c g (s+es.length) ns
 | [],[],f,g,s,ns,h,_=>by
  cases (h:g=f)
  simp
 | [],_::_,_,_,_,_,h,_=>h.elim
 | _::_,[],_,_,_,_,h,_=>h.elim
 | e::es,p::ps,f,g,s,ns,h,hr=>by
  obtain ⟨g1,nx,h1,h2,h3⟩:=h
  obtain ⟨r1,r2⟩:=hr
  rw [r1] at h1
  have ih:=laid_sets ns h3 r2
  show (rput c f s (e.data.length:Int)).2.1::setsP c (rput c f s (e.data.length:Int)).1 (s+1) (es.map (fun e=>(e.data.length:Int))++ns)=_
  rw [h1]
  simp only
  rw [ih,show s+1+(es.length:Int)=s+((e::es).length:Int) by simp only [List.length_cons];omega]
  rfl
theorem entsOf_get (ts:List Tag):∀ (ps:List (List Int)) (s:Int) (i:Nat),(Zq402 ts s ps)[i]?=ps[i]?.map fun p=>(⟨tagOf ts (s+i),s+i,p⟩:En)
 | [],s,i=>by simp [Zq402]
 | p::ps,s,0=>by simp [Zq402]
 | p::ps,s,i+1=>by
  have:=entsOf_get ts ps (s+1) i
  unfold Zq402
  rw [Zl7,Zl7,this]
  have e:s+1+(i:Int)=s+((i+1:Nat):Int):=by omega
  rw [e]
theorem entsOf_lens (ts:List Tag):∀ (ps:List (List Int)) (s:Int),(Zq402 ts s ps).map (fun e=>(e.data.length:Int))=Zq126 ps
 | [],s=>rfl
 | p::ps,s=>by
  unfold Zq402 Zq126
  rw [List.map_cons,List.map_cons,entsOf_lens ts ps]
  rfl
theorem tagOf_one {s:Int} (h:1≤s):tagOf [tag1] s=1:=by
 unfold tagOf tag1
 simp only [List.reverse_singleton,List.find?_singleton]
 rw [if_pos (by rw [decide_eq_true_eq];omega)]
theorem Fd.len {c:Rg} {at':Int} {ps:List (List Int)} {J:Jn} {k:Nat} (h:Fd c at' ps J k):J.l.length=k:=by
 rw [h.l,entsOf_len,List.length_take]
 exact Nat.min_eq_left h.le
theorem Fd.end {c:Rg} {at':Int} {ps:List (List Int)} {J:Jn} {k:Nat} (h:Fd c at' ps J k):endJ J=at'+k:=by
 unfold endJ
 rw [h.len,h.r]
 show at'+1 - 1+(k:Int)=_
 omega
theorem Fd.safed {c:Rg} {at':Int} {ps:List (List Int)} {J:Jn} {k:Nat} (h:Fd c at' ps J k):Fd c at' ps (safeJ J) k:=⟨h.le,h.r,h.l,h.stop⟩
theorem Fd.places {c:Rg} {at':Int} {ps:List (List Int)} {S:Str} {J:Jn} {k:Nat} (h:Fd c at' ps J k) (hj:JOK S J):Zq857 c at' ps=J.at_++setsP c J.fill (endJ J+1) (Zq126 (ps.drop k)):=by
 have hl:=hj.lay
 have hr:=hj.run
 have e1:Zq126 ps=J.l.map (fun e=>(e.data.length:Int))++Zq126 (ps.drop k):=by
  rw [h.l,entsOf_lens]
  unfold Zq126
  rw [←List.map_append,List.take_append_drop]
 unfold Zq857
 rw [h.r] at hl hr
 have hl':laid c 0 J.l J.at_ ⟨0,0,0,0,0⟩ J.fill:=hl
 have hr':runs J.l (at'+1):=hr
 rw [e1,laid_sets _ hl' hr',h.end,h.len]
 rw [show at'+1+(k:Int)=at'+k+1 by omega]
theorem Fd.within {c:Rg} {at':Int} {ps:List (List Int)} {S:Str} {J:Jn} {k i:Nat} (h:Fd c at' ps J k) (hj:JOK S J) (hi:i<k):∃ q,(Zq857 c at' ps)[i]?=some q∧J.at_[i]?=some q∧(0≤q.set∧q.set<c.sets)∧0≤q.obj∧q.obj<c.splay:=by
 have hA:=hj.at
 have hl:i<J.at_.length:=by rw [hA.len,h.len];exact hi
 have hq:J.at_[i]?=some J.at_[i]:=List.getElem?_eq_getElem hl
 have hp:=hj.place (List.mem_of_getElem? hq)
 rw [h.r] at hp
 simp only at hp
 exact ⟨J.at_[i],by rw [h.places hj,List.getElem?_append_left hl];exact hq,hq,by omega,by omega⟩
theorem seat_fill {es:List En} {ps P:List Pl} {ns:List Int} {q:Pl} (h1:∀ (i:Nat) (p:Pl),ps[i]?=some p→P[i]?=some p) (h2:∀ (i:Nat) (e:En),es[i]?=some e→ns.getD i 0=e.data.length) (hl:ps.length=es.length):∀ i,i≤es.length→Zq850 P ns q i=Zq264 (Zq86 q (es.take i) (ps.take i))
 | 0,_=>by simp [Zq850,Zq86,Zq264]
 | i+1,hi=>by
  obtain ⟨e,he⟩:∃ e,es[i]?=some e:=⟨_,List.getElem?_eq_getElem (by omega)⟩
  obtain ⟨p,hp⟩:∃ p,ps[i]?=some p:=⟨_,List.getElem?_eq_getElem (by omega)⟩
  have e1:es.take (i+1)=es.take i++[e]:=by rw [List.take_add_one,he];rfl
  have e2:ps.take (i+1)=ps.take i++[p]:=by rw [List.take_add_one,hp];rfl
  rw [e1,e2,Zq199 q (by rw [List.length_take,List.length_take,hl]),Zq378,←seat_fill h1 h2 hl i (by omega)]
  show Zq850 P ns q i+(if P[i]?=some q then ns.getD i 0+22 else 0)=_
  rw [h1 i p hp,h2 i e he]
  by_cases hpq:p=q
  ·rw [if_pos (by rw [hpq])]
   simp only [Zq86,hpq,if_true,Zq264,List.map_cons,List.map_nil,List.sum_cons,List.sum_nil]
   omega
  ·rw [if_neg (by simpa using hpq)]
   simp only [Zq86,hpq,if_false,Zq264,List.map_nil,List.sum_nil]
end Go.Proofs.YtpjchngjhijgmaaGreat
namespace Go.Proofs.YtpjchngjhijgmaaGreat
open Go.RowKit
theorem Fd.seat {c:Rg} {at':Int} {ps:List (List Int)} {S:Str} {J:Jn} {k i:Nat} {p:List Int} (h:Fd c at' ps J k) (hj:JOK S J) (h0:0≤at') (hi:i<k) (hp:ps[i]?=some p):∃ q t,(Zq857 c at' ps)[i]?=some q∧J.at_[i]?=some q∧J.l[i]?=some ⟨1,at'+1+i,p⟩ ∧
  Zq850 (Zq857 c at' ps) (Zq126 ps) q i=((Zq36 (Zq829 (lJ J (J.l.take i) (J.at_.take i) J.fill) (keyOf c q))).length:Int)∧get (keyOf c q) S.seen=some t∧t.b.length≤4096∧(Zq36 (Zq829 (lJ J (J.l.take i) (J.at_.take i) J.fill) (keyOf c q))).length+(22+p.length)≤t.b.length:=by
 obtain ⟨q,h1,h2,h3,h4⟩:=h.within hj hi
 have hA:=hj.at
 have hshape:J.r.shape=c:=by rw [h.r]
 have hset:J.r.set=0:=by rw [h.r]
 have he:J.l[i]?=some ⟨1,at'+1+i,p⟩:=by
  rw [h.l,entsOf_get,List.getElem?_take_of_lt hi,hp]
  simp only [Option.map_some]
  rw [tagOf_one (by omega)]
 have hseat:=seat_fill (es:=J.l) (ps:=J.at_) (P:=Zq857 c at' ps) (ns:=Zq126 ps) (q:=q) (fun j x hx=>by
   rw [h.places hj,List.getElem?_append_left (List.getElem?_eq_some_iff.1 hx).1];exact hx) (fun j x hx=>by
   have hjk:=(List.getElem?_eq_some_iff.1 hx).1
   rw [h.len] at hjk
   rw [h.l,entsOf_get,List.getElem?_take_of_lt hjk] at hx
   unfold Zq126
   rw [List.getD_eq_getElem?_getD,List.getElem?_map]
   cases hg:ps[j]? with
   | none=>rw [hg] at hx;cases hx
   | some y =>
    rw [hg] at hx
    simp only [Option.map_some,Option.some.injEq] at hx
    rw [←hx]
    rfl) hA.len i (by rw [h.len];omega)
 have hsm:=hj.small
 have hcc:=Rg.ok hj.ok.shape
 rw [hshape] at hcc
 have hents:Zq829 (lJ J (J.l.take i) (J.at_.take i) J.fill) (keyOf c q)=Zq86 q (J.l.take i) (J.at_.take i):=by
  rw [←hshape]
  refine Zq387 _ _ _ _ fun q' hq' e=>?_
  obtain ⟨a,b,c',d,e1,e2⟩:=hj.place (List.mem_of_mem_take hq')
  have hn:rnum J.r.shape q'=rnum J.r.shape q:=congrArg K4.num e
  exact Zq619 hj.ok.shape hj.ok.set.1 ⟨a,b,d⟩ ⟨e1,e2⟩ ⟨by rw [hset];omega,by rw [hset,hshape];omega,by omega⟩ ⟨h4.1,by rw [hshape];exact h4.2⟩ hn
 obtain ⟨B,hB⟩:=entsAt_cut he h2
 rw [hshape] at hB
 have hrow:=hj.rows (keyOf c q) Zq433
 rw [rows_entsAt,hB] at hrow
 have hfl:=Zq33 ⟨1,at'+1+i,p⟩
 simp only at hfl
 have hne:Zq36 (Zq829 (lJ J (J.l.take i) (J.at_.take i) J.fill) (keyOf c q)++⟨1,at'+1+i,p⟩::B)≠[]:=by
  intro e
  have:=congrArg List.length e
  simp only [Zq196,Zq135,List.length_append,List.length_nil] at this
  omega
 rw [if_neg hne] at hrow
 cases hg:get (keyOf c q) S.seen with
 | none=>rw [hg] at hrow;cases hrow
 | some t =>
  rw [hg] at hrow
  simp only [Option.map_some,Option.some.injEq] at hrow
  refine ⟨q,t,h1,h2,he,?_,by rw [hg],(hj.live.inv.getT _ t hg).1,?_⟩
  ·rw [hseat,hents,Zq525]
  ·rw [hrow,Zq196,Zq135,List.length_append,List.length_append]
   omega
theorem Fd.rot {c:Rg} {ps:List (List Int)} {S:Str} {J:Jn} {k i j:Nat} {p:List Int} {x:Int} (h:Fd c 0 ps J k) (hj:JOK S J) (hl:S.late=[]) (hi:i<k) (hp:ps[i]?=some p) (hjp:j<p.length+22) (hx:isByte x):∃ q S',(Zq857 c 0 ps)[i]?=some q ∧
  (0≤Zq850 (Zq857 c 0 ps) (Zq126 ps) q i∧Zq850 (Zq857 c 0 ps) (Zq126 ps) q i≤4096)∧rotS S (keyOf c q) (Zq850 (Zq857 c 0 ps) (Zq126 ps) q i+j) x=(true,S')∧S'.armed=S.armed∧(∀ m,Keeps S m→Keeps S' m) ∧
  (x=0→∃ f,JAny S' (lJ J (J.l.take k) (J.at_.take k) f))∧(x≠0→j≠16→j≠17→∃ f,JAny S' (lJ J (J.l.take i) (J.at_.take i) f)):=by
 obtain ⟨q,t,h1,h2,he,hs,ht,htl,hlen⟩:=h.seat hj (Int.le_refl _) hi hp
 have hshape:J.r.shape=c:=by rw [h.r]
 obtain ⟨o,ho⟩:∃ o,o=(Zq36 (Zq829 (lJ J (J.l.take i) (J.at_.take i) J.fill) (keyOf c q))).length:=⟨_,rfl⟩
 rw [←ho] at hs hlen
 obtain ⟨S',r1,r2,r3,r4,r5,r6⟩:=hj.live.rot hl ht (i:=o+j) (by omega) x
 refine ⟨q,S',h1,by omega,?_,r3,r6,fun h0=>?_,fun h0 h16 h17=>?_⟩
 ·rw [hs,show ((o:Int)+(j:Int))=((o+j:Nat):Int) by omega]
  exact r1
 ·have hlen2:=h.len
  rw [←hlen2]
  refine hj.same r2 fun k'=>?_
  rw [r5]
  split
  ·rename_i e
   subst e
   have hb:=(hj.live.inv.getT _ t ht).2.1
   rw [ht,h0]
   congr 1
   have hlt:o+j<t.b.length:=by omega
   have hg:t.b.getD (o+j) 0=t.b[o+j]:=by simp [List.getD,hlt]
   rw [hg,xorB_zero (hb _ (List.getElem_mem hlt)),List.set_getElem_self]
  ·rfl
 ·have hfl:=Zq33 ⟨1,0+1+i,p⟩
  simp only at hfl
  obtain ⟨y,hy⟩:∃ y,(Zq46 ⟨1,0+1+i,p⟩)[j]?=some y:=⟨_,List.getElem?_eq_getElem (by omega)⟩
  obtain ⟨B,hB⟩:=entsAt_cut he h2
  rw [hshape] at hB
  have hrow:=rowB_of hj (k:=keyOf c q) Zq433
  rw [ht,hB,Zq196,Zq135] at hrow
  have htb:t.b.getD (o+j) 0=y:=by
   have hrow:t.b=_:=hrow
   rw [List.getD_eq_getElem?_getD,hrow,List.getElem?_append_right (by omega),←ho,Nat.add_sub_cancel_left,List.getElem?_append_left (by omega),hy]
   rfl
  have hyb:isByte y:=by
   have hb:=(hj.live.inv.getT _ t ht).2.1
   rw [←htb]
   have hlt:o+j<t.b.length:=by omega
   have hg:t.b.getD (o+j) 0=t.b[o+j]:=by simp [List.getD,hlt]
   rw [hg]
   exact hb _ (List.getElem_mem hlt)
  refine hj.rotten (n:=i) (j:=j) (t:=t) r2 he h2 (by rw [hshape];exact ht) hy (xorB_byte y x) (xorB_ne hyb hx h0) ⟨h16,h17⟩ fun k'=>?_
  rw [r5,hshape,←ho,htb]
theorem Fd.posk {c:Rg} {ps:List (List Int)} {S:Str} {J:Jn} {k:Nat} (h:Fd c 0 ps J k) (hj:JOK S J) (hp:∀ p ∈ ps,(1≤p.length∧p.length≤90)∧∀ y ∈ p,isByte y) (hne:ps≠[]):0<k:=by
 rcases Nat.eq_zero_or_pos k with h0|h0
 ·exfalso
  subst h0
  have hpos:=List.length_pos_iff.2 hne
  obtain ⟨p,hpk⟩:∃ p,ps[0]?=some p:=⟨_,List.getElem?_eq_getElem hpos⟩
  have hstop:=h.stop p hpk
  obtain ⟨hp1,_⟩:=hp p (List.mem_of_getElem? hpk)
  have hend:=h.end
  have hs:=Zq487 hj (n:=(p.length:Int)) (by omega) (by omega) hstop
  have hfr:=hj.at.from_
  have hcc:=Rg.ok hj.ok.shape
  have hlen:=h.len
  unfold setsJ at hs
  omega
 ·exact h0
end Go.Proofs.YtpjchngjhijgmaaGreat
