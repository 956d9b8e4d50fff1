import Derived.Test.YtpjchngjhijgmaaGreatJZ39
set_option linter.all false
namespace Go.Proofs.YtpjchngjhijgmaaGreat
open Go.RowKit
def setsP (c:Rg):Fl→Int→List Int→List Pl
 | _,_,[]=>[]
 | f,s,n::ns=>(rput c f s n).2.1::setsP c (rput c f s n).1 (s+1) ns
theorem Zq225 (c:Rg):∀ (ns:List Int) (f:Fl) (s:Int),(setsP c f s ns).length=ns.length
 | [],_,_=>rfl
 | n::ns,f,s=>by simp [setsP,Zq225 c ns]
theorem Zq558 {c:Rg} {s0:Int}:∀ {es:List En} {ps:List Pl} {f g:Fl} {s:Int} (ns:List Int),laid c s0 es ps f g→runs es s→setsP c f s (es.map (fun e=>(e.data.length:Int))++ns)=ps++setsP c g (s+es.length) ns
 | [],[],f,g,s,ns,h,_=>by
  cases (h:g=f)
  simp
 | [],_::_,_,_,_,_,h,_=>h.elim
 | _::_,[],_,_,_,_,h,_=>h.elim
 | e::es,p::ps,f,g,s,ns,h,hr=>by
  obtain ⟨g1,nx,h1,h2,h3⟩:=h
  obtain ⟨r1,r2⟩:=hr
  rw [r1] at h1
  have ih:=Zq558 ns h3 r2
  show (rput c f s (e.data.length:Int)).2.1::setsP c (rput c f s (e.data.length:Int)).1 (s+1) (es.map (fun e=>(e.data.length:Int))++ns)=_
  rw [h1]
  simp only
  rw [ih,show s+1+(es.length:Int)=s+((e::es).length:Int) by simp only [List.length_cons];omega]
  rfl
theorem Zq309 (ts:List Tag):∀ (ps:List (List Int)) (s:Int) (i:Nat),(Zq188 ts s ps)[i]?=ps[i]?.map fun p=>(⟨tagOf ts (s+i),s+i,p⟩:En)
 | [],s,i=>by simp [Zq188]
 | p::ps,s,0=>by simp [Zq188]
 | p::ps,s,i+1=>by
  have:=Zq309 ts ps (s+1) i
  unfold Zq188
  rw [Zl7,Zl7,this]
  have e:s+1+(i:Int)=s+((i+1:Nat):Int):=by omega
  rw [e]
theorem Zq354 (ts:List Tag):∀ (ps:List (List Int)) (s:Int),(Zq188 ts s ps).map (fun e=>(e.data.length:Int))=Zq104 ps
 | [],s=>rfl
 | p::ps,s=>by
  unfold Zq188 Zq104
  rw [List.map_cons,List.map_cons,Zq354 ts ps]
  rfl
theorem Zq786 {s:Int} (h:1≤s):tagOf [tag1] s=1:=by
 unfold tagOf tag1
 simp only [List.reverse_singleton,List.find?_singleton]
 rw [if_pos (by rw [decide_eq_true_eq];omega)]
theorem Zq502 {c:Rg} {at':Int} (hg:goodM c at' [tag1]=true):Zq40 (Zq120 c at' [tag1])=⟨⟨c,at'+1,0,[tag1],[]⟩,[],[],⟨0,0,0,0,0⟩,at',false⟩:=by
 have h0:0≤at':=by
  unfold goodM at hg
  simp only [Bool.and_eq_true,decide_eq_true_eq] at hg
  exact hg.1.1.1.2
 have he:endJ (Zq120 c at' [tag1])=at':=by
  show at'+1 - 1+((0:Nat):Int)=at'
  omega
 have hc:Zq48 [tag1] at'=[tag1]:=by
  unfold Zq48
  rw [List.takeWhile_cons,if_pos (by rw [decide_eq_true_eq];exact h0)]
  rfl
 unfold Zq40
 rw [he]
 show (⟨⟨c,at'+1,0,Zq48 [tag1] at',[]⟩,[],[],⟨0,0,0,0,0⟩,at',false⟩:Jn)=_
 rw [hc]
structure Fd (c:Rg) (at':Int) (ps:List (List Int)) (J:Jn) (k:Nat):Prop where
 le:k≤ps.length
 r:J.r=⟨c,at'+1,0,[tag1],[]⟩
 l:J.l=Zq188 [tag1] (at'+1) (ps.take k)
 stop:∀ p,ps[k]?=some p→fitsJ J [(p.length:Int)]=false
theorem Zq709 {c:Rg} {at':Int} {ps:List (List Int)} {S0 S:Str} {J:Jn} {k:Nat} (hg:goodM c at' [tag1]=true) (h0:JOK S0 (Zq40 (Zq120 c at' [tag1]))) (ha:S0.armed=false)
  (hp:∀ p ∈ ps,(1≤p.length∧p.length≤90)∧∀ y ∈ p,isByte y) (hn:ps.length≤100) (h:Zq87 ps S0 (Zq40 (Zq120 c at' [tag1]))=(S,J,k)):Fd c at' ps J k∧J.safe=at'∧JOK S J∧S.armed=false:=by
 rw [Zq502 hg] at h0 h
 have hf:=Zq554 h0 ha hp (by show (0:Int)+((0:Nat):Int)+(ps.length:Int)<1000000∧0+ps.length<100000;omega)
 rw [h] at hf
 obtain ⟨f1,f2,f3,f4,f5,f6,f7⟩:=hf
 refine ⟨⟨f3,f4,?_,f7⟩,f5,f1,f2⟩
 rw [f6]
 show []++Zq188 [tag1] (at'+1 - 1+((0:Nat):Int)+1) (ps.take k)=_
 rw [Zl3,show at'+1 - 1+((0:Nat):Int)+1=at'+1 by omega]
theorem Fd.len {c:Rg} {at':Int} {ps:List (List Int)} {J:Jn} {k:Nat} (h:Fd c at' ps J k):J.l.length=k:=by
 rw [h.l,Zq460,List.length_take]
 exact Nat.min_eq_left h.le
theorem Fd.end {c:Rg} {at':Int} {ps:List (List Int)} {J:Jn} {k:Nat} (h:Fd c at' ps J k):endJ J=at'+k:=by
 unfold endJ
 rw [h.len,h.r]
 show at'+1 - 1+(k:Int)=_
 omega
theorem Fd.safed {c:Rg} {at':Int} {ps:List (List Int)} {J:Jn} {k:Nat} (h:Fd c at' ps J k):Fd c at' ps (safeJ J) k:=⟨h.le,h.r,h.l,h.stop⟩
def Zq133 (c:Rg) (at':Int) (ps:List (List Int)):List Pl:=setsP c ⟨0,0,0,0,0⟩ (at'+1) (Zq104 ps)
theorem Fd.places {c:Rg} {at':Int} {ps:List (List Int)} {S:Str} {J:Jn} {k:Nat} (h:Fd c at' ps J k) (hj:JOK S J):Zq133 c at' ps=J.at_++setsP c J.fill (endJ J+1) (Zq104 (ps.drop k)):=by
 have hl:=hj.lay
 have hr:=hj.run
 have e1:Zq104 ps=J.l.map (fun e=>(e.data.length:Int))++Zq104 (ps.drop k):=by
  rw [h.l,Zq354]
  unfold Zq104
  rw [←List.map_append,List.take_append_drop]
 unfold Zq133
 rw [h.r] at hl hr
 have hl':laid c 0 J.l J.at_ ⟨0,0,0,0,0⟩ J.fill:=hl
 have hr':runs J.l (at'+1):=hr
 rw [e1,Zq558 _ hl' hr',h.end,h.len]
 rw [show at'+1+(k:Int)=at'+k+1 by omega]
theorem Fd.beyond {c:Rg} {at':Int} {ps:List (List Int)} {S:Str} {J:Jn} {k:Nat} (h:Fd c at' ps J k) (hj:JOK S J) (hp:∀ p ∈ ps,(1≤p.length∧p.length≤90)∧∀ y ∈ p,isByte y) (he:at'+k<1000000000) (hk:k<ps.length):∃ q,(Zq133 c at' ps)[k]?=some q∧c.sets≤q.set:=by
 have hA:=hj.at
 have hend:=hj.ends
 obtain ⟨p,hpk⟩:∃ p,ps[k]?=some p:=⟨_,List.getElem?_eq_getElem hk⟩
 obtain ⟨hp1,_⟩:=hp p (List.mem_of_getElem? hpk)
 have hstop:=h.stop p hpk
 have hd:ps.drop k=p::ps.drop (k+1):=by
  obtain ⟨hil,e⟩:=List.getElem?_eq_some_iff.1 hpk
  rw [List.drop_eq_getElem_cons hil,e]
 have hshape:J.r.shape=c:=by rw [h.r]
 have hset:J.r.set=0:=by rw [h.r]
 refine ⟨(rput J.r.shape J.fill (endJ J+1) (p.length:Int)).2.1,?_,?_⟩
 ·rw [h.places hj,List.getElem?_append_right (by rw [hA.len,h.len];omega),hA.len,h.len,Nat.sub_self,hd,hshape]
  rfl
 ·have hok:=hA.ok
  have hm:=Zq689 (f:=J.fill) (seq:=endJ J+1) (n:=(p.length:Int)) hj.ok.shape hok (by have:=h.end;omega) (by omega)
  unfold fitsJ Zq393 at hstop
  have hno:(rput J.r.shape J.fill (endJ J+1) (p.length:Int)).1≠Fl.zero∧(rput J.r.shape J.fill (endJ J+1) (p.length:Int)).2.1.set=(rput J.r.shape J.fill (endJ J+1) (p.length:Int)).1.set:=by
   rw [hm]
   have hq:=Zq447 hj.ok.shape (endJ J+1)
   have hg0:=Fl.get_le hok ((endJ J+1) % J.r.shape.splay)
   split
   ·exact ⟨Fl.put_ne (by omega) (by omega),by simp only [Fl.put_set]⟩
   ·exact ⟨Fl.put_ne (by omega) (by omega),by simp only [Fl.put_set]⟩
  rw [if_neg hno.1] at hstop
  by_cases hs:J.r.shape.sets≤(rput J.r.shape J.fill (endJ J+1) (p.length:Int)).1.set - J.r.set
  ·rw [hno.2,←hshape]
   omega
  ·rw [if_neg hs] at hstop
   cases hstop
theorem Fd.within {c:Rg} {at':Int} {ps:List (List Int)} {S:Str} {J:Jn} {k i:Nat} (h:Fd c at' ps J k) (hj:JOK S J) (hi:i<k):∃ q,(Zq133 c at' ps)[i]?=some q∧J.at_[i]?=some q∧(0≤q.set∧q.set<c.sets)∧0≤q.obj∧q.obj<c.splay:=by
 have hA:=hj.at
 have hl:i<J.at_.length:=by rw [hA.len,h.len];exact hi
 have hq:J.at_[i]?=some J.at_[i]:=List.getElem?_eq_getElem hl
 have hp:=hj.place (List.mem_of_getElem? hq)
 rw [h.r] at hp
 simp only at hp
 exact ⟨J.at_[i],by rw [h.places hj,List.getElem?_append_left hl];exact hq,hq,by omega,by omega⟩
def Zq158 (P:List Pl) (ns:List Int) (q:Pl):Nat→Int
 | 0=>0
 | i+1=>Zq158 P ns q i+if P[i]?=some q then ns.getD i 0+22 else 0
theorem Zq559 {es:List En} {ps P:List Pl} {ns:List Int} {q:Pl} (h1:∀ (i:Nat) (p:Pl),ps[i]?=some p→P[i]?=some p) (h2:∀ (i:Nat) (e:En),es[i]?=some e→ns.getD i 0=e.data.length) (hl:ps.length=es.length):∀ i,i≤es.length→Zq158 P ns q i=Zq187 (Zq53 q (es.take i) (ps.take i))
 | 0,_=>by simp [Zq158,Zq53,Zq187]
 | i+1,hi=>by
  obtain ⟨e,he⟩:∃ e,es[i]?=some e:=⟨_,List.getElem?_eq_getElem (by omega)⟩
  obtain ⟨p,hp⟩:∃ p,ps[i]?=some p:=⟨_,List.getElem?_eq_getElem (by omega)⟩
  have e1:es.take (i+1)=es.take i++[e]:=by rw [List.take_add_one,he];rfl
  have e2:ps.take (i+1)=ps.take i++[p]:=by rw [List.take_add_one,hp];rfl
  rw [e1,e2,Zq119 q (by rw [List.length_take,List.length_take,hl]),Zq256,←Zq559 h1 h2 hl i (by omega)]
  show Zq158 P ns q i+(if P[i]?=some q then ns.getD i 0+22 else 0)=_
  rw [h1 i p hp,h2 i e he]
  by_cases hpq:p=q
  ·rw [if_pos (by rw [hpq])]
   simp only [Zq53,hpq,if_true,Zq187,List.map_cons,List.map_nil,List.sum_cons,List.sum_nil]
   omega
  ·rw [if_neg (by simpa using hpq)]
   simp only [Zq53,hpq,if_false,Zq187,List.map_nil,List.sum_nil]
theorem Fd.read {c:Rg} {at':Int} {ps:List (List Int)} {S:Str} {J:Jn} {k i:Nat} {p:List Int} (h:Fd c at' ps J k) (hj:JOK S J) (h0:0≤at') (hi:i<k) (hp:ps[i]?=some p):∃ q,(Zq133 c at' ps)[i]?=some q∧(0≤q.set∧q.set<c.sets) ∧
  (0≤Zq158 (Zq133 c at' ps) (Zq104 ps) q i∧Zq158 (Zq133 c at' ps) (Zq104 ps) q i≤4096)∧readS S (keyOf c q) (Zq158 (Zq133 c at' ps) (Zq104 ps) q i) ((Zq23 ⟨1,at'+1+i,p⟩).length)=(Zq23 ⟨1,at'+1+i,p⟩,0)∧(Zq23 ⟨1,at'+1+i,p⟩).length=22+p.length:=by
 obtain ⟨q,h1,h2,h3,h4⟩:=h.within hj hi
 have hA:=hj.at
 have hshape:J.r.shape=c:=by rw [h.r]
 have hset:J.r.set=0:=by rw [h.r]
 have he:J.l[i]?=some ⟨1,at'+1+i,p⟩:=by
  rw [h.l,Zq309,List.getElem?_take_of_lt hi,hp]
  simp only [Option.map_some]
  rw [Zq786 (by omega)]
 have hw:=hj.wantPlace (p:=q) (by rw [hshape,hset];omega) (by rw [hshape];omega)
 have hseat:=Zq559 (es:=J.l) (ps:=J.at_) (P:=Zq133 c at' ps) (ns:=Zq104 ps) (q:=q) (fun j x hx=>by
   rw [h.places hj,List.getElem?_append_left (List.getElem?_eq_some_iff.1 hx).1];exact hx) (fun j x hx=>by
   have hjk:=(List.getElem?_eq_some_iff.1 hx).1
   rw [h.len] at hjk
   rw [h.l,Zq309,List.getElem?_take_of_lt hjk] at hx
   unfold Zq104
   rw [List.getD_eq_getElem?_getD,List.getElem?_map]
   cases hg:ps[j]? with
   | none=>rw [hg] at hx;cases hx
   | some y =>
    rw [hg] at hx
    simp only [Option.map_some,Option.some.injEq] at hx
    rw [←hx]
    rfl) hA.len i (by rw [h.len];omega)
 obtain ⟨hil,hie⟩:=List.getElem?_eq_some_iff.1 he
 obtain ⟨hil2,hie2⟩:=List.getElem?_eq_some_iff.1 h2
 have hsplit:Zq53 q J.l J.at_=Zq53 q (J.l.take i) (J.at_.take i)++⟨1,at'+1+i,p⟩::Zq53 q (J.l.drop (i+1)) (J.at_.drop (i+1)):=by
  conv=>lhs;rw [←List.take_append_drop i J.l,←List.take_append_drop i J.at_]
  rw [Zq119 q (by rw [List.length_take,List.length_take,hA.len])]
  congr 1
  rw [List.drop_eq_getElem_cons hil,List.drop_eq_getElem_cons hil2,hie,hie2]
  simp [Zq53]
 have hrow:=hj.rows (keyOf J.r.shape q) Zq157
 have hne:Zq21 (rowsJ J) (keyOf J.r.shape q)≠[]:=by
  rw [hw,hsplit]
  intro e
  have:=congrArg List.length e
  rw [Zq38,Zq72,List.length_append,List.length_append,Zq26] at this
  simp at this
 rw [if_neg hne] at hrow
 have hroom:=hA.room q.set q.obj (by omega) (by have:=Rg.ok hj.ok.shape;rw [hshape] at this;omega)
 have hflen:=Zq26 ⟨1,at'+1+i,p⟩
 simp only at hflen
 have hf1:=Zq235 (Zq53 q (J.l.take i) (J.at_.take i))
 have hf2:=Zq235 (Zq53 q J.l J.at_)
 have hcc:=Rg.ok hj.ok.shape
 have hs0:Zq158 (Zq133 c at' ps) (Zq104 ps) q i=((Zq24 (Zq53 q (J.l.take i) (J.at_.take i))).length:Int):=by rw [hseat,hf1]
 have hle:(Zq24 (Zq53 q (J.l.take i) (J.at_.take i))).length≤(Zq24 (Zq53 q J.l J.at_)).length:=by
  rw [hsplit,Zq38,List.length_append];omega
 have hroom':Zq187 (Zq53 q J.l J.at_)≤J.r.shape.size:=hroom
 refine ⟨q,h1,by omega,by omega,?_,hflen⟩
 rw [hs0]
 cases hg:get (keyOf J.r.shape q) S.seen with
 | none=>rw [hg] at hrow;cases hrow
 | some t =>
  rw [hg] at hrow
  simp only [Option.map_some,Option.some.injEq] at hrow
  have hwhy:whyS S (keyOf J.r.shape q)=0:=by
   rw [hj.live.why (Zq82.all _ (Zq276 hj.ok.shape q)).2,hg];rfl
  unfold readS
  rw [←hshape,if_pos hwhy,hg]
  simp only
  rw [hrow,hw,hsplit,Zq38,Zq72,if_neg (by rw [List.length_append];omega)]
  simp only [Int.toNat_natCast]
  rw [List.drop_left,List.length_append,List.length_append,Nat.add_sub_cancel_left,Nat.min_eq_left (by omega),List.take_left]
end Go.Proofs.YtpjchngjhijgmaaGreat
