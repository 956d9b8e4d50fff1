import Derived.Test.YtpjchngjhijgmaaGreatJM32
set_option linter.all false
namespace Go.Proofs.YtpjchngjhijgmaaGreat
open Go.RowKit
section
variable {W w w' : World} {I : Hp} {l : List HP} {p q : Nat} {J : Jn} {S : Str}
set_option maxRecDepth 4000
set_option maxHeartbeats 8000000
theorem Zq741 (h:St W I w (Zq10 p S::l)) (hon:S.on=false):Calls Tryz.prog 27 #[.pointer (some ⟨p,0,none⟩)] w fun e w'=>e=.returned (.tuple #[.pointer none,.int .i64 7])∧w=w':=by
 have hr:=Zq127 h
 rw [if_pos hon] at hr
 have HR:=Zh hr
 clear h hr hon
 go_enter Tryz.func27,Tryz.ntmps27
 go_wp2_with fail
 refine HR.out.mono ?_
 rintro e w1 ⟨rfl,rfl⟩
 go_wp2_with fail
 go_ret2
 exact ⟨rfl,rfl⟩
theorem Zq278 {m:Nat} (h:St W I w (Zq10 p S::l)) (hon:S.on=true) (hk:Inv S m) (hj:JRec S none):Calls Tryz.prog 27 #[.pointer (some ⟨p,0,none⟩)] w fun e w'=>e=.returned (.tuple #[.pointer none,.int .i64 (attrS S kJ nmJ).2])∧St W I w' (Zq10 p S::l):=by
 have hr:=Zq127 h
 rw [if_neg (by simp [hon])] at hr
 have HR:=Zh hr
 have hl:=Zq389 h hk hj
 have HL:=Zh hl
 have hne:((attrS S kJ nmJ).2 != 0)=true:=by unfold JRec at hj;simpa using hj
 obtain ⟨er,her⟩:∃ x,x=(attrS S kJ nmJ).2:=⟨_,rfl⟩
 rw [←her] at HL hne ⊢
 clear h hr hl hj hon her
 go_enter Tryz.func27,Tryz.ntmps27
 go_wp2_with fail
 refine HR.out.mono ?_
 rintro e w1 ⟨rfl,rfl⟩
 go_wp2_with fail
 refine HL.out.mono ?_
 rintro e w2 ⟨rfl,h2⟩
 have H2:=Zh (h2.keep (Zq7 w2 (.cells #[.int .i64 0,.int .i64 0,.int .i64 0,.int .i64 0,.int .i64 0,.slice none 0 0,.slice none 0 0] 105)))
 clear h2
 simp only [Rc.zeroVal]
 go_wp2_with fail
 go_ret2
 exact ⟨rfl,H2.out⟩
theorem Zq461 {S:Str} {m:Nat} (hk:Inv S m):∀ r ∈ readRows S,r.length≤20480:=by
 intro r hr
 obtain ⟨k,_,rfl⟩:=List.mem_map.1 hr
 unfold readS
 split
 ·split
  ·exact Nat.zero_le _
  ·rename_i t ht
   split
   ·exact Nat.zero_le _
   ·have h9:t.b.length≤20480:=(hk.seen _ (get_mem ht)).1
    simp only [List.length_take,List.length_drop]
    omega
 ·exact Nat.zero_le _
theorem Zq228 {ts:List Tag}:∀ {es:List En} {i:Nat},(∀ e ∈ es.take i,e.tag=tagOf ts e.seq)→(∀ e,es[i]?=some e→e.tag≠tagOf ts e.seq)→i≤es.length→tagged ts es=es.take i
 | [],i,_,_,_=>by simp [tagged]
 | x::es,0,_,h,_=>by
  unfold tagged
  rw [List.takeWhile_cons,if_neg (by simpa using h x rfl)]
  rfl
 | x::es,i+1,h1,h2,h3=>by
  have ih:=Zq228 (ts:=ts) (es:=es) (i:=i) (fun e he=>h1 e (by rw [List.take_succ_cons];exact List.mem_cons_of_mem _ he)) (fun e he=>h2 e (by simpa using he)) (by simpa using h3)
  unfold tagged at ih ⊢
  rw [List.takeWhile_cons,if_pos (by have:=h1 x (by rw [List.take_succ_cons];exact List.mem_cons_self ..);simpa using this),ih,List.take_succ_cons]
theorem Zq415 (r:Rc) (o:Option Rc) {m:Nat} (h:St W I w (Zq10 p S::l)) (hon:S.on=true) (hk:Keeps S (m+2+4*(Zq21 S ⟨2,0⟩).length)) (hn:(Zq18 S ⟨2,0⟩).length≤100) (hb:SeenB S) (hj:JRec S (some r)) (hs:r.set≤1000000)
  (hj2:(trimJ S (layJ (Zq65 S r))).1=0→JRec (trimJ S (layJ (Zq65 S r))).2 o) :
  Calls Tryz.prog 27 #[.pointer (some ⟨p,0,none⟩)] w fun e w'=>∃ I',I.sub I' ∧
   (((openJ S r).1≠0∧e=.returned (.tuple #[.pointer none,.int .i64 (openJ S r).1])∧St W I' w' (Zq10 p (openJ S r).2.1::l)) ∨
     ((openJ S r).1=0∧∃ q,e=.returned (.tuple #[.pointer (some ⟨q,0,none⟩),.int .i64 0])∧St W I' w' (Zq10 p (openJ S r).2.1::jnHP q p (openJ S r).2.2::l))):=by
 have hr:=Zq127 h
 rw [if_neg (by simp [hon])] at hr
 have HR:=Zh hr
 have hl:=Zq390 r h hk.inv hj
 have HL:=Zh hl
 obtain ⟨ks,hks⟩:∃ x,x=Zq21 S ⟨2,0⟩:=⟨_,rfl⟩
 have hkl:ks.length≤100:=by
  rw [hks]
  unfold Zq21
  rw [if_pos hon]
  exact hn
 have HKE:=Zh hks
 have HN:=Zh hn
 have HK:=Zh hk
 have HB:=Zh hb
 have HS:=Zh hs
 have HJ2:=Zh hj2
 have HOK:=Zh hj.1
 have hrl:=Zq461 hk.inv
 have HRL:=Zh hrl
 have HREAD:=Zh (fun w1 (I1:Hp) (L:List HP) (k:K4) (n:Int) (h:St W I1 w1 (Zq10 p S::L))=>Zq489 k 0 n h hk.inv)
 clear h hr hl hj hon hks hn hk hb hs hj2 hrl
 go_enter Tryz.func27,Tryz.ntmps27
 go_wp2_with fail
 refine HR.out.mono ?_
 rintro e w1 ⟨rfl,rfl⟩
 go_wp2_with fail
 refine HL.out.mono ?_
 rintro e w2 ⟨I2,vt,vc,s2,rfl,hrI,h2⟩
 obtain ⟨At,ct,rfl,_⟩:=hrI.1
 obtain ⟨Ac,cc,rfl,_⟩:=hrI.2
 have h3:=(h2.alloc (.cells (r.cells (.slice At r.tags.length ct) (.slice Ac r.cls.length cc)) 105))
 simp only [Rc.cells] at h3 ⊢
 have S2:=Zh s2
 have HRI:=Zh hrI
 have H3:=Zh h3
 clear h2 h3 s2 hrI HR HL
 go_upto_region 7 with fail
 have h3:=H3.out
 obtain ⟨gr,hgr⟩:∃ x,x=w2.heap.size:=⟨_,rfl⟩
 rw [←hgr] at h3 ⊢
 generalize (World.alloc _ _:World)=w3 at h3 ⊢
 clear hgr H3
 obtain ⟨x0,x1,x2,x3,x4,x5,x6⟩:=Zq105 h3
 have lg:=h3.lt
 obtain ⟨q,hq⟩:∃ x,x=w3.heap.size:=⟨_,rfl⟩
 have h4:=h3.alloc (.cells (Zq135 p ⟨r,[],[],Fl.zero,0,false⟩ ⟨.slice At r.tags.length ct,.slice Ac r.cls.length cc,.slice none 0 0,.slice none 0 0⟩) 110)
 rw [←hq] at h4
 have h5:St W I2 _ (jnBlk q p ⟨r,[],[],Fl.zero,0,false⟩ ⟨.slice At r.tags.length ct,.slice Ac r.cls.length cc,.slice none 0 0,.slice none 0 0⟩::_::_):=h4
 simp only [Zq135,Fl.zero] at h5
 have h6:=((h5.pull 2 _ rfl).pull 2 _ rfl)
 have H6:=Zh h6.rows_nil
 clear h4 h5 h6
 go_upto_region 8 with fail
 have h6:=H6.out
 rw [←hq]
 generalize (World.alloc _ _:World)=w5 at h6 ⊢
 clear H6 h3 x0 x1 x2 x3 x4 x5 x6 lg hq
 have H6:=Zh h6
 clear h6
 have HKEYS:=Zh (Zq618 2 0 (H6.out.pull 2 _ rfl) (Nat.le_trans HN.out (by decide)))
 rw [←HKE.out] at HKEYS
 go_wp2_with fail
 refine HKEYS.out.mono ?_
 rintro e w4 ⟨v4,rfl,hb4,ho4⟩
 obtain ⟨A4,c4,rfl⟩:=Zq17 ho4
 obtain ⟨I4,s4,hR4,h4⟩:=(H6.out.row_fresh hb4 ho4).freeze_row
 have HR4:=Zh hR4
 have S4:=Zh (S2.out.trans s4)
 have HRI4:=Zh (HRI.out.mono s4)
 have H4:=Zh (h4.pull 2 _ rfl)
 clear hb4 ho4 hR4 h4 s4 HKEYS H6 HRI
 go_wp2_with fail
 have HRR:=Zh (show readRows S=ks.map fun k=>(readS S k 0 (lenAt S k)).1 by rw [HKE.out];rfl)
 obtain ⟨f,hf⟩:∃ f:K4→List Int,f=fun k=>(readS S k 0 (lenAt S k)).1:=⟨_,rfl⟩
 rw [←hf] at HRR
 have HF:=Zh hf
 clear hf
 go_loopw [8,38] (fun a8 a38 wr=>∃ (i:Nat) (I':Hp) (A8:Option Addr) (c8:Nat),a38=.int .i64 i∧a8=.slice A8 i c8∧i≤ks.length∧I4.sub I'∧St W I' wr (Zq10 p S::Zq280 (.slice A8 i c8) ((ks.take i).map f)::HP.pt gr (.cells #[.int .i64 r.shape.splay,.int .i64 r.shape.sets,.int .i64 r.shape.size,.int .i64 r.first,.int .i64 r.set,.slice At r.tags.length ct,.slice Ac r.cls.length cc] 105)::HP.pt q (.cells #[.pointer (some ⟨p,0,none⟩),.int .i64 r.shape.splay,.int .i64 r.shape.sets,.int .i64 r.shape.size,.int .i64 r.first,.int .i64 r.set,.slice At r.tags.length ct,.slice Ac r.cls.length cc,.slice none 0 0,.slice none 0 0,.int .i64 0,.int .i64 0,.int .i64 0,.int .i64 0,.int .i64 0,.int .i64 0,.bool false] 110)::l)) (fun _ a38 _=>ks.length - (intOf a38).toNat)
 case atStart=>exact ⟨0,I4,none,0,rfl,rfl,Nat.zero_le _,Hp.sub.refl _,by rw [List.take_zero,List.map_nil];exact H4.out⟩
 case round =>
  obtain ⟨i,I',A8,c8,rfl,rfl,hi,hsub,hst⟩:=hrel
  clear H4
  by_cases hlt:i<ks.length
  ·have d0:decide ((i:Int)<(ks.length:Int))=true:=by rw [decide_eq_true_eq];omega
   have hlt2:(i:Int)<(ks.length:Int):=by omega
   obtain ⟨k,hkk⟩:∃ k,ks[i]?=some k:=⟨_,List.getElem?_eq_getElem hlt⟩
   have hR:=HR4.out.mono hsub
   obtain ⟨bb,off,e1,hc⟩:=Zq115 (i:=i) (mk:=K4.vals) (k:=4) hR (Hp.sub.refl _) hst (fun _=>rfl) hkk
   simp only [Value.slice.injEq,and_true,true_and] at e1
   subst e1
   have y0:=hc 0 (by omega)
   have y1:=hc 1 (by omega)
   have y2:=hc 2 (by omega)
   have y3:=hc 3 (by omega)
   have htk:(ks.take (i+1)).map f=(ks.take i).map f++[f k]:=by rw [List.take_add_one,hkk,List.map_append];rfl
   have HTK:=Zh htk
   have hfk:f k=(readS S k 0 (lenAt S k)).1:=by rw [HF.out]
   have h4:=hst.alloc (.cells #[.int .i64 k.kind,.int .i64 k.img,.int .i64 k.num,.int .i64 k.snap] 43)
   have hsz:=Zq380 k (h4.pull 1 _ rfl)
   have HREAD2:=Zh (fun w1 (L:List HP) (n:Int) (h:St W I' w1 (Zq10 p S::L))=>HREAD.out w1 I' L k n h)
   have HBY:=Zh (Zq407 (k:=k) (off:=0) (n:=lenAt S k) HB.out)
   obtain ⟨n,hn⟩:∃ x,x=lenAt S k:=⟨_,rfl⟩
   obtain ⟨wy,hwy⟩:∃ x,x=whyS S k:=⟨_,rfl⟩
   rw [←hn,←hwy] at hsz
   rw [←hn] at hfk HBY
   have HREAD3:=Zh (fun w1 (L:List HP) (h:St W I' w1 (Zq10 p S::L))=>HREAD2.out w1 L n h)
   obtain ⟨⟨bs,er⟩,hrd⟩:∃ x,x=readS S k 0 n:=⟨_,rfl⟩
   rw [←hrd] at hfk HREAD3 HBY
   simp only at hfk HREAD3 HBY
   rw [hfk] at HTK
   obtain ⟨k0,k1,k2,k3⟩:=k
   simp only [K4.vals,Zl6,Zl7,Nat.add_zero] at y0 y1 y2 y3
   simp only [K4.val] at hsz HREAD3
   simp only at h4
   have HSZ:=Zh hsz
   have H4:=Zh h4
   have HSUB:=Zh hsub
   clear hc hkk hR htk hsub hst h4 hsz hfk hn hwy hrd HREAD2
   go_wp2_with fail
   refine HSZ.out.mono ?_
   rintro e w6 ⟨hb6,rfl⟩
   have h6:=H4.out.keep hb6
   have HR6:=Zh (HREAD3.out _ _ (h6.pull 1 _ rfl))
   obtain ⟨z0,z1,z2,z3⟩:=Zq410 h6
   have lk:=h6.lt
   have H6:=Zh h6
   clear h6 hb6 H4 HSZ HREAD3 y0 y1 y2 y3
   go_wp2_with fail
   refine HR6.out.mono ?_
   rintro e w7 ⟨hb7,v7,rfl,ho7⟩
   obtain ⟨A7,c7,rfl⟩:=Zq17 ho7
   obtain ⟨I7,s7,hB7,h7⟩:=Zq31 H6.out hb7 ho7
   have hil:((ks.take i).map f).length=i:=by rw [List.length_map,List.length_take];omega
   obtain ⟨A9,c9,w9,hr9,h9⟩:=St.rows_append (g:=w7.heap.size) rfl (h7.drop.pull 1 _ rfl) hB7 HBY.out (by rw [hil];omega)
   rw [hil] at hr9 h9
   have hst9:=h9.pull 1 _ rfl
   have HR9:=Zh hr9
   have H9:=Zh hst9
   have S7:=Zh (HSUB.out.trans s7)
   clear hb7 ho7 hB7 h7 hr9 h9 hst9 s7 H6 HR6 z0 z1 z2 z3 lk hil
   go_wp2_with (at_builtin;refine Lib.wpList_append_run _ rfl (.tmp 55) (.tmp 57) 22 22 rfl _ _ rfl rfl _ _ HR9.out ?_)
   go_roundw
   case rel=>exact ⟨i+1,I7,A9,c9,by go_num,rfl,by omega,S7.out,by rw [HTK.out];exact H9.out⟩
   case measure=>first|(simp [intOf];done)|(simp [intOf];omega)|fail
  ·obtain rfl:i=ks.length:=by omega
   have d0:decide (((ks.length:Nat):Int)<(ks.length:Int))=false:=by rw [decide_eq_false_iff_not];omega
   rw [List.take_length,←HRR.out] at hst
   have hll:(readRows S).length=ks.length:=by rw [HRR.out,List.length_map]
   have S4':=Zh (S4.out.trans hsub)
   have HRI5:=Zh (HRI4.out.mono hsub)
   have hfst:=HOK.out.first
   obtain ⟨x0,x1,x2,x3,x4,x5,x6⟩:=Zq105 (hst.pull 2 _ rfl)
   have lg:=(hst.pull 2 _ rfl).lt
   have hmg:=Zq650 _ (readRows S) r.first (hst.pull 1 _ rfl) (by rw [hll];omega) (fun x hx=>by have:=HRL.out x hx;omega) (by omega)
   have HMG:=Zh hmg
   clear hst hmg hsub HR4 HRI4 hll
   go_wp2_with fail
   refine HMG.out.mono ?_
   rintro e w6 ⟨I6,v6,s6,rfl,h6⟩
   obtain ⟨es,hes⟩:∃ x,x=Zq177 (readRows S) r.first:=⟨_,rfl⟩
   have hel:es.length≤100000:=by
    rw [hes]
    have:=Zq664 (s:=r.first) (fun x hx=>Nat.le_trans (HRL.out x hx) (show 20480≤23000 by decide))
    have h9:(readRows S).length=ks.length:=by rw [HRR.out,List.length_map]
    rw [h9] at this
    omega
   have hst1:(Zq65 S r).l.length≤100000:=by
    have h9:=(Zq414 (ts:=r.tags) (es:=es)).2
    unfold Zq65
    rw [←hes]
    show (tagged r.tags es).length≤100000
    omega
   have HJB:=Zh (Zq871 (J:=Zq65 S r) HOK.out HS.out hst1 ⟨Int.le_refl 0,by show (0:Int)≤_;decide⟩)
   have HEOK:=Zh (show ∀ e ∈ (layJ (Zq65 S r)).l,e.okB=true from fun e he=>Zq740 e ((Zq414 (ts:=r.tags) (es:=Zq177 (readRows S) r.first)).1 e (Zq513 _ _ e he)))
   rw [←hes] at h6
   have HES:=Zh hes
   obtain ⟨A6,c6,rfl,hec,_⟩:=h6.ents_slice
   have S6:=Zh (S4'.out.trans s6)
   have HRI6:=Zh (HRI5.out.mono s6)
   have h7:=(((h6.pull 1 _ rfl).drop).ents_nil)
   have h8:St W I6 w6 (Zq23 (.slice none 0 0) []::Zq23 (.slice A6 es.length c6) es::Zq10 p S::HP.pt gr (.cells #[.int .i64 r.shape.splay,.int .i64 r.shape.sets,.int .i64 r.shape.size,.int .i64 r.first,.int .i64 r.set,.slice At r.tags.length ct,.slice Ac r.cls.length cc] 105)::jnBlk q p (Zq65 S r) ⟨.slice At r.tags.length ct,.slice Ac r.cls.length cc,.slice none 0 0,.slice none 0 0⟩::l):=h7
   have H7:Hid (St W I6 w6 (Zq23 (.slice A6 es.length c6) es::HP.pt gr (.cells #[.int .i64 r.shape.splay,.int .i64 r.shape.sets,.int .i64 r.shape.size,.int .i64 r.first,.int .i64 r.set,.slice At r.tags.length ct,.slice Ac r.cls.length cc] 105)::jnBlk q p (Zq65 S r) ⟨.slice At r.tags.length ct,.slice Ac r.cls.length cc,.slice none 0 0,.slice none 0 0⟩::Zq23 (.slice none 0 0) []::Zq10 p S::l)):=Zh (h8.perm (by ((try simp only [Zl0,Zl1,Zl2,Zl3]);repeat (first|with_reducible exact List.Perm.refl _|(apply Zq4;(· repeat (first|with_reducible exact Zq3|with_reducible apply Zq2)))))))
   clear h8
   clear h6 h7 hes hst1 s6 HMG HREAD HRI5 x0 x1 x2 x3 x4 x5 x6 lg S4' HRR
   go_wp2_with fail
   go_loopw [65] (fun a65 wr=>∃ (i:Nat) (I':Hp) (A8:Option Addr) (c8:Nat),a65=.int .i64 i∧i≤es.length∧(∀ e ∈ es.take i,e.tag=tagOf r.tags e.seq)∧I6.sub I'∧St W I' wr (Zq23 (.slice A6 es.length c6) es::HP.pt gr (.cells #[.int .i64 r.shape.splay,.int .i64 r.shape.sets,.int .i64 r.shape.size,.int .i64 r.first,.int .i64 r.set,.slice At r.tags.length ct,.slice Ac r.cls.length cc] 105)::jnBlk q p (Zq65 S r) ⟨.slice At r.tags.length ct,.slice Ac r.cls.length cc,.slice A8 i c8,.slice none 0 0⟩::Zq23 (.slice A8 i c8) (es.take i)::Zq10 p S::l)) (fun a65 _=>es.length - (intOf a65).toNat)
   case atStart=>exact ⟨0,I6,none,0,rfl,Nat.zero_le _,(fun e he=>by simp at he),Hp.sub.refl _,H7.out⟩
   case round =>
    obtain ⟨i,I9,A8,c8,rfl,hi,htg,hsub,hst⟩:=hrel
    clear H7
    by_cases hlt:i<es.length
    ·have d0:decide ((i:Int)<(es.length:Int))=true:=by rw [decide_eq_true_eq];omega
     have hlt2:(i:Int)<(es.length:Int):=by omega
     obtain ⟨e,he⟩:∃ e,es[i]?=some e:=⟨_,List.getElem?_eq_getElem hlt⟩
     obtain ⟨g,qq,c2,vd,e2,hg,hbd,hbb,y0,y1,y2⟩:=hst.ents_cell he
     simp only [Value.slice.injEq] at e2
     obtain ⟨rfl,hnn,rfl⟩:=e2
     clear hnn
     obtain ⟨Ad,cd,rfl⟩:=hbd.isSl
     have htk:es.take (i+1)=es.take i++[e]:=by rw [List.take_add_one,he];rfl
     have hil:(es.take i).length=i:=by rw [List.length_take];omega
     have h4:=hst.alloc (.cells #[.int .i64 e.tag,.int .i64 e.seq,.slice Ad e.data.length cd] 50)
     obtain ⟨tv,hto⟩:∃ x,x=tagOf r.tags e.seq:=⟨_,rfl⟩
     have HTG:=Zh htg
     have HTK:=Zh htk
     have HIL:=Zh hil
     have HE:=Zh he
     have HTO:=Zh hto
     have HSUB:=Zh hsub
     have HBD:=Zh hbd
     have HBB:=Zh hbb
     obtain ⟨tg,sq,d⟩:=e
     simp only at y0 y1 y2 h4 HTO HBD HBB
     obtain ⟨g16,hg16⟩:∃ x,x=wr.heap.size:=⟨_,rfl⟩
     rw [←hg16] at h4
     have H4:=Zh h4
     clear hst h4 htg htk hil he hto hsub hbd hbb
     go_upto_region 19 with fail
     have h4:=H4.out
     rw [←hg16]
     generalize (World.alloc _ _:World)=w4 at h4 ⊢
     clear hg16 H4 y0 y1 y2 hg
     have HMK:=Zh (show ∀ w',St W I9 w' (HP.pt g16 (.cells #[.int .i64 tg,.int .i64 sq,.slice Ad d.length cd] 50)::Zq23 (.slice (some ⟨g,qq,none⟩) es.length c6) es::HP.pt gr (.cells #[.int .i64 r.shape.splay,.int .i64 r.shape.sets,.int .i64 r.shape.size,.int .i64 r.first,.int .i64 r.set,.slice At r.tags.length ct,.slice Ac r.cls.length cc] 105)::jnBlk q p (Zq65 S r) ⟨.slice At r.tags.length ct,.slice Ac r.cls.length cc,.slice A8 i c8,.slice none 0 0⟩::Zq23 (.slice A8 i c8) (es.take i)::Zq10 p S::l)→(w'.cell? ⟨gr,5,none⟩=some (.slice At r.tags.length ct)∧w'.cell? ⟨g16,0,none⟩=some (.int .i64 tg)∧w'.cell? ⟨g16,1,none⟩=some (.int .i64 sq)) from fun w' h1=>by
      obtain ⟨a0,a1,a2⟩:=Zq40 h1
      obtain ⟨b0,b1,b2,b3,b4,b5,b6⟩:=Zq105 (h1.pull 2 _ rfl)
      exact ⟨b5,a0,a1⟩)
     have HTA:=Zh (show ∀ w' L,St W I9 w' L→TagsAt w' At r.tags.length r.tags from fun w' L h1=>by
      obtain ⟨A,c,e,_,ht⟩:=Zq152 h1 (HRI6.out.mono HSUB.out).1
      simp only [Value.slice.injEq] at e
      obtain ⟨rfl,_,_⟩:=e
      exact ht)
     have HTN:=Zh (show r.tags.length≤1000000 by have:=Zq154 HOK.out.tags;omega)
     have H4:=Zh h4
     clear h4
     refine Zq42 (fun w'=>St W I9 w' (HP.pt g16 (.cells #[.int .i64 tg,.int .i64 sq,.slice Ad d.length cd] 50)::Zq23 (.slice (some ⟨g,qq,none⟩) es.length c6) es::HP.pt gr (.cells #[.int .i64 r.shape.splay,.int .i64 r.shape.sets,.int .i64 r.shape.size,.int .i64 r.first,.int .i64 r.set,.slice At r.tags.length ct,.slice Ac r.cls.length cc] 105)::jnBlk q p (Zq65 S r) ⟨.slice At r.tags.length ct,.slice Ac r.cls.length cc,.slice A8 i c8,.slice none 0 0⟩::Zq23 (.slice A8 i c8) (es.take i)::Zq10 p S::l)∧w'.cell? ⟨gr,5,none⟩=some (.slice At r.tags.length ct)∧w'.cell? ⟨g16,0,none⟩=some (.int .i64 tg)∧w'.cell? ⟨g16,1,none⟩=some (.int .i64 sq)) [(0,false),(1,false),(2,false),(3,false),(4,false),(5,false),(6,false),(7,false)] [] [] (by kernel_rfl) (by kernel_rfl) (by (intro w' hb;exact ⟨H4.out.drew.keep hb,HMK.out _ (H4.out.drew.keep hb)⟩)) ?_
     repeat (first|(refine Zq60 (by rfl) _ (by rfl) (by intro w;go_simp;try with_reducible rfl) ?_;(try simp only [Act.put,List.setIfInBounds_toArray,Zl4,Zl5]))|(refine Zq146 (by rfl) _ (by rfl) (by (intro w hSw;(try dsimp only at hSw);go_simp;try with_reducible rfl)) ?_;(try simp only [Act.put,List.setIfInBounds_toArray,Zl4,Zl5]))|(refine Zq79 (by rfl) (by rfl) ?_;(try simp only [Act.put,List.setIfInBounds_toArray,Zl4,Zl5]))|fail)
     refine Zq178 (by rfl) (.int .i64 tv) (67) (#[.slice At r.tags.length ct,.int .i64 sq]) (by rfl) (by intro w;go_simp;try with_reducible rfl) (by (rintro w1 ⟨hS,_⟩;rw [HTO.out];exact (Zq647 At _ ct r.tags sq w1 (HTA.out _ _ hS) HTN.out).mono (by rintro e w' ⟨h1,rfl⟩;exact ⟨h1,Below.refl _ _⟩))) ?_
     (try simp only [Act.put,List.setIfInBounds_toArray,Zl4,Zl5])
     repeat (first|(refine Zq60 (by rfl) _ (by rfl) (by intro w;go_simp;try with_reducible rfl) ?_;(try simp only [Act.put,List.setIfInBounds_toArray,Zl4,Zl5]))|(refine Zq146 (by rfl) _ (by rfl) (by (intro w hSw;(try dsimp only at hSw);go_simp;try with_reducible rfl)) ?_;(try simp only [Act.put,List.setIfInBounds_toArray,Zl4,Zl5]))|(refine Zq79 (by rfl) (by rfl) ?_;(try simp only [Act.put,List.setIfInBounds_toArray,Zl4,Zl5]))|fail)
     refine Zq345 ?_
     refine Zq547 ?_
     rintro w5 hz5
     have h5:=H4.out.drew.keep hz5.below
     have H5:=Zh h5
     clear h5 hz5 H4 HMK HTA HTN
     by_cases htv:tg=tv
     ·subst htv
      go_wp2_with fail
      refine NoPanic.normal ?_
      go_upto_region 20 with fail
      have HMK2:=Zh (show ∀ (I':Hp) (w':World) (L:List HP),St W I' w' (HP.pt g16 (.cells #[.int .i64 tg,.int .i64 sq,.slice Ad d.length cd] 50)::jnBlk q p (Zq65 S r) ⟨.slice At r.tags.length ct,.slice Ac r.cls.length cc,.slice A8 i c8,.slice none 0 0⟩::L)→(w'.cell? ⟨q,8,none⟩=some (.slice A8 i c8)∧w'.cell? ⟨g16,0,none⟩=some (.int .i64 tg)∧w'.cell? ⟨g16,1,none⟩=some (.int .i64 sq)∧w'.cell? ⟨g16,2,none⟩=some (.slice Ad d.length cd)) from fun I' w' L h1=>by
       obtain ⟨a0,a1,a2⟩:=Zq40 h1
       exact ⟨jn_c8 (h1.pull 1 _ rfl),a0,a1,a2⟩)
      have h6:=H5.out.drew
      have X1:=Zh (HMK2.out _ _ _ ((h6.pull 3 _ rfl).pull 1 _ rfl))
      have h6a:=h6.keep (Zq7 _ (.cells #[.int .i64 tg,.int .i64 sq,.slice Ad d.length cd] 50))
      have X2:=Zh (HMK2.out _ _ _ ((h6a.pull 3 _ rfl).pull 1 _ rfl))
      obtain ⟨A',c',w12,hrun,h12⟩:=St.ents_append (e:=⟨tg,sq,d⟩) (g:=w5.drew.heap.size) rfl (h6.pull 4 _ rfl) HBD.out HBB.out (by rw [HIL.out];omega)
      rw [HIL.out] at hrun h12
      rw [←HTK.out] at h12
      have h13:=((h12.pull 4 _ rfl).pull 2 _ rfl)
      have X3:=Zh (HMK2.out _ _ _ h13)
      have h14:=(h13.drop).jb_l (.slice A' (i+1) c')
      have HTG2:=Zh (show ∀ e ∈ es.take (i+1),e.tag=tagOf r.tags e.seq by
       rw [HTK.out]
       intro x hx
       rcases List.mem_append.1 hx with hx|hx
       ·exact HTG.out x hx
       ·rw [List.mem_singleton.1 hx];exact HTO.out)
      have k8:=X3.out.1
      have fq:=Zq52 (h13.drop) 8
      have lq:=(h13.drop).lt
      have lq0:=((h6.pull 3 _ rfl)).lt
      have HRUN:=Zh hrun
      have H14:=Zh h14
      obtain ⟨x0,x1,x2,x3⟩:=X1.out
      clear h6 h6a h12 h13 h14 hrun H5 HTG HTK HBD HBB HE HTO HIL
      refine Zq8 (fun w'=>w'.cell? ⟨q,8,none⟩=some (.slice A8 i c8)∧w'.cell? ⟨g16,0,none⟩=some (.int .i64 tg)∧w'.cell? ⟨g16,1,none⟩=some (.int .i64 sq)∧w'.cell? ⟨g16,2,none⟩=some (.slice Ad d.length cd)) [0,1,2,3,4,5] [6,7] [8,9,10] (by kernel_rfl) (by kernel_rfl) (by (exact ⟨x0,x1,x2,x3⟩)) ?_
      simp only [pickL,Zl6,Zl7]
      repeat (refine Zq5 _ (Or.inl ⟨by rfl,by (intro w hSw;(try dsimp only at hSw);go_simp;try with_reducible rfl)⟩) ?_;(try simp only [Act.put,List.setIfInBounds_toArray,Zl4,Zl5]))
      refine Zq9 ?_
      unfold Zq16
      clear x0 x1 x2 x3
      go_wp2_with fail
      refine Zq0 X2.out ?_
      unfold Zq16
      go_wp2_with (at_builtin;refine Lib.wpList_append_run _ rfl (.tmp 81) (.tmp 83) 58 58 rfl _ _ rfl rfl _ _ HRUN.out ?_)
      refine Zq0 X3.out ?_
      unfold Zq16
      go_wp2_with fail
      refine NoPanic.normal ?_
      go_wp2_with fail
      go_roundw
      case rel=>exact ⟨i+1,I9,A',c',by go_num,by omega,HTG2.out,HSUB.out,((H14.out.pull 3 _ rfl).pull 3 _ rfl)⟩
      case measure=>first|(simp [intOf];done)|(simp [intOf];omega)|fail
     ·have hne:(tg != tv)=true:=by simpa using htv
      have HT:=Zh (show tagged r.tags es=es.take i from Zq228 HTG.out (fun e he=>by
       rw [HE.out] at he
       obtain rfl:=Option.some.inj he
       show tg≠tagOf r.tags sq
       rw [←HTO.out]
       exact htv) hi)
      have hst9:=((H5.out.drop).drop).drop
      have hrI5:=HRI6.out.mono HSUB.out
      have S9':=Zh (S6.out.trans HSUB.out)
      clear H5 HTG HTK HBD HBB HE HTO
      go_wp2_with fail
      refine NoPanic.normal ?_
      have hJl:(Zq65 S r).l=es.take i:=by rw [←HT.out];unfold Zq65;rw [HES.out]
      have hjn:=St.jn_shut (J:=Zq65 S r) (V:=⟨.slice At r.tags.length ct,.slice Ac r.cls.length cc,.slice A8 i c8,.slice none 0 0⟩) (hrI5:recI I9 (Zq65 S r).r _ _) (by rw [hJl];exact (((hst9.win_nil 41 2).pull 2 _ rfl).pull 2 _ rfl))
      have hlay:=Zq505 hjn HOK.out (by rw [hJl,List.length_take];omega)
      have HLAY:=Zh hlay
      clear hlay hjn hst9 hJl
      go_wp2_with fail
      refine HLAY.out.mono ?_
      rintro e w10 ⟨rfl,h10⟩
      have hmd:=Zq411 o (h10.pull 1 _ rfl) HK.out (Nat.le_trans HN.out (by decide)) HB.out HJB.out HEOK.out HJ2.out
      have hop:openJ S r=mendJ S (layJ (Zq65 S r)):=rfl
      obtain ⟨⟨why,S9,J9⟩,hm9⟩:∃ x,x=mendJ S (layJ (Zq65 S r)):=⟨_,rfl⟩
      rw [←hm9] at hmd hop
      have HMD:=Zh hmd
      have HOP:=Zh hop
      clear hmd hop h10 hm9 HLAY
      go_wp2_with fail
      refine HMD.out.mono ?_
      rintro e w11 ⟨I11,s11,rfl,h11⟩
      have H11:=Zh h11
      have S11:=Zh (S9'.out.trans s11)
      clear h11 s11 HMD
      by_cases hw:why=0
      ·subst hw
       go_wp2_with fail
       go_ret2
       rw [HOP.out]
       exact ⟨I11,S11.out,.inr ⟨rfl,q,rfl,H11.out⟩⟩
      ·have hne:(why != 0)=true:=by simpa using hw
       go_wp2_with fail
       go_ret2
       rw [HOP.out]
       exact ⟨I11,S11.out,.inl ⟨hw,rfl,(H11.out.pull 1 _ rfl).drop⟩⟩
    ·obtain rfl:i=es.length:=by omega
     have d0:decide (((es.length:Nat):Int)<(es.length:Int))=false:=by rw [decide_eq_false_iff_not];omega
     have HT:=Zh (show tagged r.tags es=es.take es.length from Zq228 htg (fun e he=>by simp at he) (Nat.le_refl _))
     obtain ⟨i,hie⟩:∃ x,x=es.length:=⟨_,rfl⟩
     have hst9:=(hst.drop).drop
     have hrI5:=HRI6.out.mono hsub
     have S9':=Zh (S6.out.trans hsub)
     rw [←hie] at hst9 HT
     clear hst hsub htg hie hlt hi
     have hJl:(Zq65 S r).l=es.take i:=by rw [←HT.out];unfold Zq65;rw [HES.out]
     have hjn:=St.jn_shut (J:=Zq65 S r) (V:=⟨.slice At r.tags.length ct,.slice Ac r.cls.length cc,.slice A8 i c8,.slice none 0 0⟩) (hrI5:recI I9 (Zq65 S r).r _ _) (by rw [hJl];exact (((hst9.win_nil 41 2).pull 2 _ rfl).pull 2 _ rfl))
     have hlay:=Zq505 hjn HOK.out (by rw [hJl,List.length_take];omega)
     have HLAY:=Zh hlay
     clear hlay hjn hst9 hJl
     go_wp2_with fail
     refine HLAY.out.mono ?_
     rintro e w10 ⟨rfl,h10⟩
     have hmd:=Zq411 o (h10.pull 1 _ rfl) HK.out (Nat.le_trans HN.out (by decide)) HB.out HJB.out HEOK.out HJ2.out
     have hop:openJ S r=mendJ S (layJ (Zq65 S r)):=rfl
     obtain ⟨⟨why,S9,J9⟩,hm9⟩:∃ x,x=mendJ S (layJ (Zq65 S r)):=⟨_,rfl⟩
     rw [←hm9] at hmd hop
     have HMD:=Zh hmd
     have HOP:=Zh hop
     clear hmd hop h10 hm9 HLAY
     go_wp2_with fail
     refine HMD.out.mono ?_
     rintro e w11 ⟨I11,s11,rfl,h11⟩
     have H11:=Zh h11
     have S11:=Zh (S9'.out.trans s11)
     clear h11 s11 HMD
     by_cases hw:why=0
     ·subst hw
      go_wp2_with fail
      go_ret2
      rw [HOP.out]
      exact ⟨I11,S11.out,.inr ⟨rfl,q,rfl,H11.out⟩⟩
     ·have hne:(why != 0)=true:=by simpa using hw
      go_wp2_with fail
      go_ret2
      rw [HOP.out]
      exact ⟨I11,S11.out,.inl ⟨hw,rfl,(H11.out.pull 1 _ rfl).drop⟩⟩
end
end Go.Proofs.YtpjchngjhijgmaaGreat
