import Derived.Test.YtpjchngjhijgmaaGreatJZ49
import Derived.Test.YtpjchngjhijgmaaGreatJZ45
set_option linter.all false
namespace Go.Proofs.YtpjchngjhijgmaaGreat
open Go.RowKit
structure JWet (S:Str) (J:Jn) (s:Int):Prop where
 ok:JOK S J
 far:s≤endJ J
 rows:∀ k,k≠kJ→AllK S k (RowP J s k)
 rec_:∃ t,AllK S kJ (fun o=>o=some t)∧get nmJ t.attr=some (recB J.r)
theorem JOK.rowP {S:Str} {J:Jn} (h:JOK S J) (s:Int) {k:K4} (hk:k≠kJ):RowP J s k (get k S.seen):=by
 have hr:=h.rows k hk
 rw [Zq244] at hr
 have e:rowB (get k S.seen)=Zq24 (Zq78 J k):=by
  unfold rowB
  rw [hr]
  split
  ·rename_i q;rw [q];rfl
  ·rfl
 refine ⟨by rw [e];exact List.prefix_refl _,fun M hM _=>?_⟩
 rw [e]
 obtain ⟨z,hz⟩:=hM
 exact ⟨Zq24 z,by rw [←hz,Zq38]⟩
theorem JWet.start {S:Str} {J:Jn} (h:JOK S J) (hl:S.late=[]):JWet S J (endJ J):=by
 have hall:∀ (k:K4) (P:Option TS→Prop),P (get k S.seen)→AllK S k P:=fun k P hP=>by
  have hla:lateAt S k=[]:=by unfold lateAt;rw [hl];rfl
  have hd:get k S.dry=get k S.seen:=by rw [h.live.inv.coh k,hla];rfl
  exact (Firm.allK (o:=get k S.seen) ⟨hla,hd,rfl⟩ hP)
 obtain ⟨t,h1,h2⟩:=h.rec_
 exact ⟨h,Int.le_refl _,fun k hk=>hall k _ (h.rowP _ hk),t,hall kJ _ h1,h2⟩
theorem JWet.fall {S:Str} {J:Jn} {s:Int} (h:JWet S J s) (keep:List Int) (torn:Int):JRest (Zq470 (fallS S keep torn).1) J s∧(Zq470 (fallS S keep torn).1).armed=false∧(Zq470 (fallS S keep torn).1).late=[]∧(fallS S keep torn).1.on=false:=by
 have hj:=h.ok
 have hf:=Zq530 hj.live.on hj.live.inv.lateN hj.live.inv.coh keep torn
 have hi:=(hj.live.inv.fell Zq82 hj.live.on keep torn).power
 obtain ⟨t,h1,h2⟩:=h.rec_
 refine ⟨⟨⟨hi,rfl⟩,hj.ok,hj.small,hj.run,hj.ents,hj.lay,⟨t,(h1.fell hf).2,h2⟩,fun k hk=>((h.rows k hk).fell hf).2,hj.dead,hj.safe⟩,hf.armed,hf.late,hf.on⟩
theorem RowP.more {J:Jn} {s:Int} {k:K4} {o:Option TS} {e:En} {p:Pl} {g:Fl} (h:RowP J s k o) (hl:J.at_.length=J.l.length) (he:s<e.seq):RowP (addJ J e p g) s k o:=by
 have e1:Zq78 (addJ J e p g) k=Zq78 J k++if keyOf J.r.shape p=k then [e] else []:=by
  unfold Zq78
  show ((J.l++[e]).zip (J.at_++[p])).filterMap _=_
  rw [List.zip_append hl.symm,List.filterMap_append]
  congr 1
  by_cases q:keyOf J.r.shape p=k
  ·rw [if_pos q]
   show ([e].zip [p]).filterMap (fun x=>if keyOf J.r.shape x.2=k then some x.1 else none)=_
   simp [q]
  ·rw [if_neg q]
   show ([e].zip [p]).filterMap (fun x=>if keyOf J.r.shape x.2=k then some x.1 else none)=_
   simp [q]
 refine ⟨?_,fun M hM hs=>?_⟩
 ·rw [e1,Zq38]
  exact h.pre.trans (List.prefix_append _ _)
 ·rw [e1] at hM
  refine h.has M ?_ hs
  rcases Nat.lt_or_ge (Zq78 J k).length M.length with q|q
  ·exfalso
   split at hM
   ·have h2:M=Zq78 J k++[e]:=by
     refine List.IsPrefix.eq_of_length hM ?_
     have:=hM.length_le
     rw [List.length_append,List.length_singleton] at this ⊢
     omega
    have:=hs e (by rw [h2];simp)
    omega
   ·have:=hM.length_le
    rw [List.append_nil] at this
    omega
  ·exact List.prefix_of_prefix_length_le hM (List.prefix_append _ _) q
theorem Zq465 {J:Jn} {e:En} {p:Pl} {g:Fl} (hl:J.at_.length=J.l.length):Zq78 (addJ J e p g) (keyOf J.r.shape p)=Zq78 J (keyOf J.r.shape p)++[e]:=by
 unfold Zq78
 show ((J.l++[e]).zip (J.at_++[p])).filterMap _=_
 rw [List.zip_append hl.symm,List.filterMap_append]
 congr 1
 show ([e].zip [p]).filterMap (fun x=>if keyOf J.r.shape x.2=keyOf J.r.shape p then some x.1 else none)=_
 simp
theorem Zq722 {J:Jn} {s:Int} {e:En} {p:Pl} {g:Fl} {o:Option TS} {j:Nat} (hl:J.at_.length=J.l.length) (he:s<e.seq) (ho:rowB o=Zq24 (Zq78 J (keyOf J.r.shape p))++(Zq23 e).take j):RowP (addJ J e p g) s (keyOf J.r.shape p) o:=by
 refine ⟨?_,fun M hM hs=>?_⟩
 ·rw [Zq465 hl,ho,Zq38]
  refine List.prefix_append_right_inj _ |>.2 ?_
  show (Zq23 e).take j<+:Zq24 [e]
  rw [show Zq24 [e]=Zq23 e by simp [Zq24]]
  exact List.take_prefix _ _
 ·rw [Zq465 hl] at hM
  have hM2:M<+:Zq78 J (keyOf J.r.shape p):=by
   rcases Nat.lt_or_ge (Zq78 J (keyOf J.r.shape p)).length M.length with q|q
   ·exfalso
    have h2:M=Zq78 J (keyOf J.r.shape p)++[e]:=by
     refine List.IsPrefix.eq_of_length hM ?_
     have:=hM.length_le
     rw [List.length_append,List.length_singleton] at this ⊢
     omega
    have:=hs e (by rw [h2];simp)
    omega
   ·exact List.prefix_of_prefix_length_le hM (List.prefix_append _ _) q
  rw [ho]
  obtain ⟨z,hz⟩:=hM2
  refine List.IsPrefix.trans ⟨Zq24 z,?_⟩ (List.prefix_append _ _)
  rw [←hz,Zq38]
theorem step_done {S:Str} {k:K4} {d:Dd} (hb:(Zq34 S).1=false):stepE S (.deed k d)=(0,(doS S k d).2)∧Done S (doS S k d).2 k d:=by
 obtain ⟨h1,h2⟩:=Zq419 (k:=k) (d:=d) hb
 refine ⟨?_,h2⟩
 show (offE (doS S k d).1,(doS S k d).2)=_
 rw [h1]
 rfl
theorem JWet.append {S:Str} {J:Jn} {s:Int} {d:List Int} (h:JWet S J s) (ha:S.armed=false) (hd:1≤d.length∧d.length≤90) (hb:∀ y ∈ d,isByte y) (hf:fitsJ J [(d.length:Int)]=true) (hn:J.r.set+J.l.length<1000000∧J.l.length<100000) :
  ∃ S' g p nx,rput J.r.shape J.fill (endJ J+1) d.length=(g,p,nx,true)∧Zq44 S J d=((endJ J+1,0),S',addJ J (newE J d) p g)∧JWet S' (addJ J (newE J d) p g) s∧S'.armed=false:=by
 have hj:=h.ok
 obtain ⟨g,p,nx,hr,hin,h1,h2,h3⟩:=hj.append hd hb hf hn
 obtain ⟨c1,c2⟩:=Zq132 Zq82 hj.live ha h1
 rw [if_pos c1] at h2
 have hl:=hj.at.len
 have hfar:=h.far
 have hes:s<(newE J d).seq:=by
  show s<endJ J+1
  omega
 refine ⟨_,g,p,nx,hr,h2,?_,c2⟩
 obtain ⟨kp,hkp⟩:∃ x,x=keyOf J.r.shape p:=⟨_,rfl⟩
 obtain ⟨W0,hW0⟩:∃ x,x=Zq21 (rowsJ J) (keyOf J.r.shape p):=⟨_,rfl⟩
 have hW1:W0=Zq24 (Zq78 J (keyOf J.r.shape p)):=by rw [hW0,Zq244]
 have hj3:=h3 c1
 have hrow:=hj.rows (keyOf J.r.shape p) Zq157
 have hpiece:∀ (o:Option TS) (j:Nat),rowB o=W0++(Zq23 (newE J d)).take j→RowP (addJ J (newE J d) p g) s (keyOf J.r.shape p) o:=fun o j ho=>Zq722 hl hes (by rw [ho,hW1])
 rw [←hW0] at hj3 c1 c2 hrow ⊢
 have hfin:s≤endJ (addJ J (newE J d) p g):=by
  unfold endJ at hfar ⊢
  show s≤J.r.first - 1+((J.l++[newE J d]).length:Int)
  rw [List.length_append]
  omega
 obtain ⟨t,ht1,ht2⟩:=h.rec_
 have hmore:∀ k,k≠kJ→AllK S k (RowP (addJ J (newE J d) p g) s k):=fun k hk=>(h.rows k hk).imp fun o ho=>ho.more hl hes
 have hnk:kJ≠keyOf J.r.shape p:=fun e=>Zq157 e.symm
 have hbS:(Zq34 S).1=false:=by simp [Zq34,ha]
 unfold appsJ at hj3 c1 c2 ⊢
 cases hg:get (keyOf J.r.shape p) S.seen with
 | none =>
  rw [hg] at hrow
  have hW2:W0=[]:=by
   by_cases q:W0=[]
   ·exact q
   ·rw [if_neg q] at hrow;cases hrow
  rw [hg] at hj3 c1 c2
  simp only at hj3 c1 c2 ⊢
  obtain ⟨e1,d1⟩:=step_done (k:=keyOf J.r.shape p) (d:=madeD) hbS
  have ha1:=(Zq223 (.deed (keyOf J.r.shape p) madeD) ha hj.live.on).1
  rw [e1] at ha1
  have hb1:(Zq34 (doS S (keyOf J.r.shape p) madeD).2).1=false:=by
   unfold Zq34
   rw [if_neg (by rw [show (doS S (keyOf J.r.shape p) madeD).2.armed=false from ha1];simp)]
  obtain ⟨e2,d2⟩:=step_done (k:=keyOf J.r.shape p) (d:=Zq111 0 (Zq23 (newE J d))) hb1
  have eX:execS [.deed (keyOf J.r.shape p) madeD,.deed (keyOf J.r.shape p) (Zq111 0 (Zq23 (newE J d)))] S=(0,(doS (doS S (keyOf J.r.shape p) madeD).2 (keyOf J.r.shape p) (Zq111 0 (Zq23 (newE J d)))).2):=by
   show thenE (stepE S (.deed (keyOf J.r.shape p) madeD)) (execS [.deed (keyOf J.r.shape p) (Zq111 0 (Zq23 (newE J d)))])=_
   unfold thenE
   rw [e1]
   simp only [if_true]
   rw [Zq105,e2]
  rw [eX] at hj3 ⊢
  have hc1:=d1.coh hj.live.inv.coh
  have hs1:get (keyOf J.r.shape p) (doS S (keyOf J.r.shape p) madeD).2.seen=some ⟨[],[]⟩:=by
   rw [d1.seen,if_pos rfl];rfl
  refine ⟨hj3,hfin,fun k hk=>?_,t,(ht1.other d1 hnk).other d2 hnk,ht2⟩
  by_cases q:k=keyOf J.r.shape p
  ·subst q
   refine AllK.add d2 hc1 (AllK.add d1 hj.live.inv.coh (hmore _ hk) (hpiece _ 0 (by rw [hg,hW2];rfl)) (fun q=>by cases q)) ?_ fun _ torn=>?_
   ·rw [hs1]
    refine hpiece _ (Zq23 (newE J d)).length ?_
    rw [hW2,List.take_length]
    show layB [] 0 (Zq23 (newE J d))=_
    exact Zq238 [] (Zq23 (newE J d))
   ·rw [hs1]
    refine hpiece _ (min torn.toNat ((Zq23 (newE J d)).length - 1)) ?_
    rw [hW2]
    show layB [] 0 ((Zq23 (newE J d)).take (min torn.toNat ((Zq23 (newE J d)).length - 1)))=_
    exact Zq238 [] _
  ·exact ((hmore k hk).other d1 q).other d2 q
 | some o =>
  rw [hg] at hrow
  simp only [Option.map_some] at hrow
  have hb0:o.b=W0:=by
   split at hrow
   ·cases hrow
   ·simpa using hrow
  rw [hg] at hj3 c1 c2
  simp only at hj3 c1 c2 ⊢
  obtain ⟨e1,d1⟩:=step_done (k:=keyOf J.r.shape p) (d:=Zq111 (W0.length:Int) (Zq23 (newE J d))) hbS
  have eX:execS [.deed (keyOf J.r.shape p) (Zq111 (W0.length:Int) (Zq23 (newE J d)))] S=(0,(doS S (keyOf J.r.shape p) (Zq111 (W0.length:Int) (Zq23 (newE J d)))).2):=by
   rw [Zq105,e1]
  rw [eX] at hj3 ⊢
  refine ⟨hj3,hfin,fun k hk=>?_,t,ht1.other d1 hnk,ht2⟩
  by_cases q:k=keyOf J.r.shape p
  ·subst q
   refine AllK.add d1 hj.live.inv.coh (hmore _ hk) ?_ fun _ torn=>?_
   ·rw [hg]
    refine hpiece _ (Zq23 (newE J d)).length ?_
    rw [List.take_length]
    show layB o.b (W0.length:Int).toNat (Zq23 (newE J d))=_
    rw [hb0,Int.toNat_natCast]
    exact Zq238 _ _
   ·rw [hg]
    refine hpiece _ (min torn.toNat ((Zq23 (newE J d)).length - 1)) ?_
    show layB o.b (W0.length:Int).toNat ((Zq23 (newE J d)).take (min torn.toNat ((Zq23 (newE J d)).length - 1)))=_
    rw [hb0,Int.toNat_natCast]
    exact Zq238 _ _
  ·exact (hmore k hk).other d1 q
end Go.Proofs.YtpjchngjhijgmaaGreat
namespace Go.Proofs.YtpjchngjhijgmaaGreat
open Go.RowKit
theorem JOK.any {S:Str} {J:Jn} (h:JOK S J):JAny S J:=by
 refine ⟨h.live,h.ok,h.small,h.run,h.ents,h.lay,h.rec_,fun k hk=>?_,h.merged,h.dead,h.safe⟩
 have hr:=h.rows k hk
 unfold rowB
 rw [hr]
 split
 ·rename_i q;rw [q];exact List.nil_prefix
 ·exact List.prefix_refl _
section
variable {W w : World} {I : Hp} {l : List HP} {p : Nat} {S : Str}
set_option maxRecDepth 4000
set_option maxHeartbeats 8000000
theorem Zq356 {J:Jn} {m:Nat} (h:St W I w (Zq11 p S::l)) (hJ:JAny S J) (ha:S.armed=false) (hk:Keeps S (m+200)) :
  Calls Tryz.prog 27 #[.pointer (some ⟨p,0,none⟩)] w fun e w'=>∃ I' q S',I.sub I'∧e=.returned (.tuple #[.pointer (some ⟨q,0,none⟩),.int .i64 0])∧St W I' w' (Zq11 p S'::jnHP q p (Zq40 J)::l)∧JOK S' (Zq40 J)∧S'.armed=false∧S'.late=[]∧Keeps S' m:=by
 obtain ⟨q1,q2,q3,q4,q5⟩:=hJ.open_pre
 obtain ⟨S',ho,hj,ha',hl'⟩:=hJ.open_calm ha
 have hto:=hJ.live.told
 have hs:=Zq450 (m:=m) J.r (some J.r) h hJ.live.on (hk.fewer (by omega)) q1 q2 q3 q4 q5
 have hk2:=Zq350 (r:=J.r) (m:=m) (hk.fewer (show m+2+4*(Zq35 S ⟨2,0⟩).length≤m+200 by omega))
 rw [ho] at hs hk2
 refine hs.mono ?_
 rintro e w' ⟨I',hs1,⟨hne,_⟩|⟨_,q,he,h2⟩⟩
 ·exact absurd rfl hne
 ·exact ⟨I',q,S',hs1,he,h2,hj,ha',hl',hk2⟩
theorem Zq863 {A:Option Addr} {c k:Nat} {ps:List (List Int)} (h:St W I w l) (hR:RowsI I (.slice A ps.length c) ps) (hk:k≤ps.length) (hn:ps.length≤1000000) :
  ∃ A' c' w',(Builtin.append_ #[22,22] 22 #[.slice (some ⟨w.heap.size,0,none⟩) 0 0,.slice A k c]).run Tryz.prog (w.alloc (.cells #[] 46))=.ok (.slice A' k c') w'∧St W I w' (Zq126 (.slice A' k c') (ps.take k)::l):=by
 obtain ⟨vs,h1,hrow,h3,h4⟩:=hR
 obtain ⟨i0,hi0,hz0,hz1,hz2⟩:=info_parts Zq448
 have hone:∀ u ∈ vs,u.oneCell'=true:=by
  intro u hu
  obtain ⟨i,hi⟩:=List.getElem?_of_mem hu
  have hil:=(List.getElem?_eq_some_iff.1 hi).1
  obtain ⟨A,c,e⟩:=(h3 i u _ hi (List.getElem?_eq_getElem (by omega))).isSl
  rw [e];rfl
 have h2:=((h.alloc (.cells #[] 46)).row_shut (e:=46) (size:=1) (n:=0) (xs:=[]) (by simp) (Nat.le_refl _) (by unfold maxLen;omega) (by simp) (by simp)).win_of_row
 have hrk:RowI I 1 (.slice A k c) k (vs.take k):=by
  obtain ⟨A',c',e,a1,a2,a3,a4,a5⟩:=hrow
  simp only [Value.slice.injEq] at e
  obtain ⟨rfl,_,rfl⟩:=e
  refine ⟨A,c,rfl,by rw [List.length_take];omega,by omega,a3,a4,fun hn=>?_⟩
  obtain ⟨b,off,cs,t,f,e1,e2,e3⟩:=a5 (by omega)
  refine ⟨b,off,cs,t,f,e1,e2,fun i x hx=>e3 i x ?_⟩
  rw [List.getElem?_take] at hx
  split at hx
  ·exact hx
  ·cases hx
 obtain ⟨v',w',hr,h5⟩:=St.win_append (t:=22) (ty:=22) h2 Tryz.underlying22 hi0 hz0 hz1 hz2 rfl (by decide) (by decide) (by intro u hu;cases hu) (RowI.src hrk h2.imm (fun u hu=>hone u (List.mem_of_mem_take hu)) (by omega)) (by omega)
 obtain ⟨A',c',e3,_⟩:=h5.win_slice
 subst e3
 rw [Nat.zero_add,Zl3] at h5
 rw [Nat.zero_add] at hr
 refine ⟨A',c',w',hr,St.ex_shut (vs.take k) (St.all_shut ?_)⟩
 have hl:(ps.take k).length=k:=by rw [List.length_take];omega
 rw [hl]
 refine (St.imm_shut (A:=⟨fun I=>∀ (i:Nat) (r:List Int),(ps.take k)[i]?=some r→∃ x,(vs.take k)[i]?=some x∧BytesI I x r∧∀ y ∈ r,isByte y,_⟩) ?_ h5).pull 1 _ rfl
 intro i r hr
 have hik:i<k:=by have:=(List.getElem?_eq_some_iff.1 hr).1;omega
 rw [List.getElem?_take_of_lt hik] at hr ⊢
 obtain ⟨x,hx⟩:∃ x,vs[i]?=some x:=⟨_,List.getElem?_eq_getElem (by omega)⟩
 exact ⟨x,hx,h3 i x r hx hr,(h4 r (List.mem_of_getElem? hr)).1⟩
end
end Go.Proofs.YtpjchngjhijgmaaGreat
namespace Go.Proofs.YtpjchngjhijgmaaGreat
open Go.RowKit
section
variable {W w : World} {I : Hp} {l : List HP}
set_option maxRecDepth 4000
set_option maxHeartbeats 8000000
theorem Zq466 (A B:Option Addr) (ca cb:Nat) (es:List En) (h:St W I w (Zq25 (.slice A es.length ca) es::Zq25 (.slice B es.length cb) es::l)) (hn:es.length≤1000000) :
  Calls Tryz.prog 31 #[.slice A es.length ca,.slice B es.length cb] w fun e w'=>e=.returned (.bool true)∧St W I w' (Zq25 (.slice A es.length ca) es::Zq25 (.slice B es.length cb) es::l):=by
 have H:=Zh h
 have hn1:(es.length:Int)≤1000000:=by omega
 clear h
 go_enter Tryz.func31,Tryz.ntmps31
 go_wp2_with fail
 go_loopw [5] (fun a5 wr=>∃ (i:Nat),a5=.int .i64 i∧i≤es.length∧St W I wr (Zq25 (.slice A es.length ca) es::Zq25 (.slice B es.length cb) es::l)) (fun a5 _=>es.length - (intOf a5).toNat)
 case atStart=>exact ⟨0,rfl,Nat.zero_le _,H.out⟩
 case round =>
  obtain ⟨i,rfl,hi,h2⟩:=hrel
  clear H
  by_cases hlt:i<es.length
  ·have d0:decide ((i:Int)<(es.length:Int))=true:=decide_eq_true (by omega)
   obtain ⟨e,he⟩:∃ e,es[i]?=some e:=⟨_,List.getElem?_eq_getElem hlt⟩
   obtain ⟨g1,q1,c1,v1,e1,hg1,hb1,hy1,x0,x1,x2⟩:=h2.ents_cell he
   obtain ⟨g2,q2,c2,v2,e2,hg2,hb2,hy2,y0,y1,y2⟩:=(h2.pull 1 _ rfl).ents_cell he
   simp only [Value.slice.injEq] at e1 e2
   obtain ⟨rfl,hx1,hx2⟩:=e1
   obtain ⟨rfl,hx3,hx4⟩:=e2
   clear hx1 hx2 hx3 hx4
   have H2:=Zh h2
   have HE:=Zh he
   have HB1:=Zh hb1
   have HB2:=Zh hb2
   have HMK:=Zh (show ∀ w',Below wr.heap.size wr w'→(w'.cell? ⟨g1,q1+i*3,none⟩=some (.int .i64 e.tag)∧w'.cell? ⟨g1,q1+i*3+1,none⟩=some (.int .i64 e.seq)∧w'.cell? ⟨g1,q1+i*3+2,none⟩=some v1∧w'.cell? ⟨g2,q2+i*3,none⟩=some (.int .i64 e.tag)∧w'.cell? ⟨g2,q2+i*3+1,none⟩=some (.int .i64 e.seq)∧w'.cell? ⟨g2,q2+i*3+2,none⟩=some v2∧(convert 46 9 v1).run Tryz.prog w'=.ok (.string (strOfNums e.data)) w'∧(convert 46 9 v2).run Tryz.prog w'=.ok (.string (strOfNums e.data)) w') from fun w' hb=>by
    have hc:∀ g o,g<wr.heap.size→w'.cell? ⟨g,o,none⟩=wr.cell? ⟨g,o,none⟩:=fun g o hg=>hb.cell (p:=⟨g,o,none⟩) hg
    have h3:=H2.out.keep hb
    rw [hc _ _ hg1,hc _ _ hg1,hc _ _ hg1,hc _ _ hg2,hc _ _ hg2,hc _ _ hg2]
    exact ⟨x0,x1,x2,y0,y1,y2,Zq90 (Zq30 h3 HB1.out),Zq90 (Zq30 h3 HB2.out)⟩)
   obtain ⟨A1,k1,rfl⟩:=hb1.isSl
   obtain ⟨A2,k2,rfl⟩:=hb2.isSl
   obtain ⟨w2,hw2⟩:∃ x,x=wr:=⟨_,rfl⟩
   rw [←hw2] at H2 HMK ⊢
   clear h2 he hb1 hb2 hy1 hy2 hg1 hg2 x0 x1 x2 y0 y1 y2 hw2
   go_upto_region 6 with fail
   refine Zq37 (fun w'=>w'.cell? ⟨g1,q1+i*3,none⟩=some (.int .i64 e.tag)∧w'.cell? ⟨g1,q1+i*3+1,none⟩=some (.int .i64 e.seq)∧w'.cell? ⟨g1,q1+i*3+2,none⟩=some (.slice A1 e.data.length k1)∧w'.cell? ⟨g2,q2+i*3,none⟩=some (.int .i64 e.tag)∧w'.cell? ⟨g2,q2+i*3+1,none⟩=some (.int .i64 e.seq)∧w'.cell? ⟨g2,q2+i*3+2,none⟩=some (.slice A2 e.data.length k2)∧(convert 46 9 (.slice A1 e.data.length k1)).run Tryz.prog w'=.ok (.string (strOfNums e.data)) w'∧(convert 46 9 (.slice A2 e.data.length k2)).run Tryz.prog w'=.ok (.string (strOfNums e.data)) w') [(0,false),(1,false),(2,false),(3,false),(4,false),(5,false),(6,false),(7,false),(8,false),(9,false),(10,false),(11,false),(12,false),(13,false),(14,false),(15,false),(16,false),(17,false),(18,false),(19,false),(20,false),(21,false),(22,false),(23,false),(24,false),(25,false),(26,false),(27,false),(28,false),(29,false),(30,false),(31,false),(32,false),(33,false),(34,false),(35,false),(36,false),(37,false),(38,false)] [] [] (by kernel_rfl) (by kernel_rfl) (by (intro w' hb;exact HMK.out _ (((Below.refl _ _).drew).trans hb))) ?_
   repeat (first|(refine Zq52 (by rfl) _ (by rfl) (by intro w;go_simp;try with_reducible rfl) ?_;(try simp only [Act.put,List.setIfInBounds_toArray,Zl4,Zl5]))|(refine Zq118 (by rfl) _ (by rfl) (by (intro w hSw;(try dsimp only at hSw);go_simp;try with_reducible rfl)) ?_;(try simp only [Act.put,List.setIfInBounds_toArray,Zl4,Zl5]))|(refine Zq71 (by rfl) (by rfl) ?_;(try simp only [Act.put,List.setIfInBounds_toArray,Zl4,Zl5]))|fail)
   refine Zq264 ?_
   refine Zq421 ?_
   rintro w9 hz9
   have H9:=Zh (H2.out.drew.keep hz9.below)
   clear hz9 H2 HMK HB1 HB2
   go_wp2_with fail
   refine NoPanic.normal ?_
   go_wp2_with fail
   go_roundw
   case rel=>exact ⟨i+1,by go_num,by omega,H9.out⟩
   case measure=>first|(simp [intOf];done)|(simp [intOf];omega)|fail
  ·obtain rfl:i=es.length:=by omega
   have d0:decide (((es.length:Nat):Int)<(es.length:Int))=false:=decide_eq_false (by omega)
   have H2:=Zh h2
   clear h2
   go_wp2_with fail
   go_ret
   exact ⟨rfl,H2.out⟩
end
end Go.Proofs.YtpjchngjhijgmaaGreat
