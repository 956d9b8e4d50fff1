import Derived.Test.YtpjchngjhijgmaaGreatJM29
set_option linter.all false
namespace Go.Proofs.YtpjchngjhijgmaaGreat
open Go.RowKit
section
variable {W w w' : World} {I : Hp} {l : List HP} {p q : Nat} {J : Jn} {S : Str}
theorem Zq410 {b:Nat} {c0 c1 c2 c3:Value} {t:TypeId} {f:Nat × Nat} (h:St W I w (HP.pt b (.cells #[c0,c1,c2,c3] t f)::l)):w.cell? ⟨b,0,none⟩=some c0∧w.cell? ⟨b,1,none⟩=some c1∧w.cell? ⟨b,2,none⟩=some c2∧w.cell? ⟨b,3,none⟩=some c3 :=
 ⟨Zq1 h.heap 0,Zq1 h.heap 1,Zq1 h.heap 2,Zq1 h.heap 3⟩
set_option maxRecDepth 4000
set_option maxHeartbeats 8000000
theorem Zq657 {m:Nat} (h:St W I w (Zq10 p S::jnHP q p J::l)) (hk:Keeps S (m+4*(Zq21 S ⟨2,0⟩).length)) (hn:(Zq18 S ⟨2,0⟩).length≤1000000) (hb:SeenB S) (hl:J.at_.length=J.l.length) (hn2:J.l.length≤100000) (hE:∀ e ∈ J.l,e.okB=true) :
  Calls Tryz.prog 105 #[.pointer (some ⟨q,0,none⟩)] w fun e w'=>∃ I',I.sub I'∧e=.returned (.int .i64 (trimJ S J).1)∧St W I' w' (Zq10 p (trimJ S J).2::jnHP q p J::l):=by
 have hrows:=Zq654 (h.pull 1 _ rfl) hl hn2 hE
 have hby:=(h.pull 1 _ rfl).jn_bytes
 obtain ⟨mm,hmm⟩:∃ x,x=rowsJ J:=⟨_,rfl⟩
 have HMB:=Zh (show ∀ k,∀ y ∈ Zq19 mm k,isByte y by rw [hmm];exact Zq409 hby (fun k y hy=>by simp [Zq19,get] at hy))
 obtain ⟨ks,hks⟩:∃ x,x=Zq21 S ⟨2,0⟩:=⟨_,rfl⟩
 have HX:=Zh (show trimJ S J=fixL mm ks S by unfold trimJ;rw [←hmm,←hks])
 rw [←hmm] at hrows
 rw [←hks] at hk
 have hkl:ks.length≤1000000:=by
  rw [hks]
  unfold Zq21
  split
  ·exact hn
  ·simp
 have HWB:=Zh (show ∀ k,(Zq19 mm k).length≤1000000000 by
  have hgo:∀ (es:List En) (ps:List Pl) (m0:List (K4 × List Int)) (n:Nat),(∀ e ∈ es,e.okB=true)→(∀ k,(Zq19 m0 k).length≤n)→∀ k,(Zq19 (Zq235 J.r.shape es ps m0) k).length≤n+1000*es.length:=by
   intro es
   induction es with
   | nil=>intro ps m0 n _ h0 k;exact Nat.le_trans (h0 k) (by omega)
   | cons e es ih =>
    intro ps m0 n he h0 k
    cases ps with
    | nil=>exact Nat.le_trans (h0 k) (by omega)
    | cons p ps =>
     have hf:(Zq46 e).length≤1000:=by
      rw [Zq38]
      have:=(En.okB_iff.1 (he e (List.mem_cons_self ..))).2.2
      omega
     have:=ih ps (Zq281 m0 (keyOf J.r.shape p) (Zq46 e)) (n+1000) (fun x hx=>he x (List.mem_cons_of_mem _ hx)) (Zq404 h0 hf) k
     simp only [Zq235,List.length_cons]
     omega
  intro k
  rw [hmm]
  have:=hgo J.l J.at_ [] 0 hE (fun k=>by simp [Zq19,get]) k
  unfold rowsJ
  omega)
 have HROWS:=Zh hrows
 have HKE:=Zh hks
 have HK:=Zh hk
 have HN:=Zh hn
 have HB:=Zh hb
 clear h hrows hby hmm hks hk hn hb hl hn2 hE
 go_enter Tryz.func105,Tryz.ntmps105
 go_wp2_with fail
 refine HROWS.out.mono ?_
 rintro e w1 ⟨I1,b,s1,rfl,h1⟩
 have hkeys:=Zq618 2 0 (h1.pull 2 _ rfl) HN.out
 rw [←HKE.out] at hkeys
 obtain ⟨x0,lq⟩:=(h1.pull 1 _ rfl).jn_ptr
 have HKEYS:=Zh hkeys
 have H1:=Zh h1
 have S1:=Zh s1
 clear h1 hkeys s1
 go_wp2_with fail
 refine HKEYS.out.mono ?_
 rintro e w2 ⟨v2,rfl,hb2,ho2⟩
 obtain ⟨A2,c2,rfl⟩:=Zq17 ho2
 obtain ⟨I2,hs2,hR2,h2⟩:=(H1.out.row_fresh hb2 ho2).freeze_row
 have HR2:=Zh hR2
 have H2:=Zh (h2.pull 2 _ rfl)
 have S2:=Zh (S1.out.trans hs2)
 clear hb2 ho2 hR2 h2 hs2 x0 lq
 go_wp2_with fail
 go_loopw [19] (fun a19 wr=>∃ (i:Nat) (S':Str) (I':Hp),a19=.int .i64 i∧i≤ks.length∧fixL mm ks S=fixL mm (ks.drop i) S'∧Keeps S' (m+4*(ks.length - i))∧SeenB S'∧I2.sub I'∧St W I' wr (Zq10 p S'::Zq286 b mm::jnHP q p J::l)) (fun a19 _=>ks.length - (intOf a19).toNat)
 case atStart=>exact ⟨0,S,I2,rfl,Nat.zero_le _,rfl,by simpa using HK.out,HB.out,Hp.sub.refl _,H2.out⟩
 case round =>
  obtain ⟨i,S',I',rfl,hi,hfx,hk',hsb,hsub,hst⟩:=hrel
  by_cases hlt:i<ks.length
  ·have d0:decide ((i:Int)<(ks.length:Int))=true:=by rw [decide_eq_true_eq];omega
   obtain ⟨k,hkk⟩:∃ k,ks[i]?=some k:=⟨_,List.getElem?_eq_getElem hlt⟩
   have hR:=HR2.out.mono hsub
   obtain ⟨bb,off,e1,hc⟩:=Zq115 (i:=i) (mk:=K4.vals) (k:=4) hR (Hp.sub.refl _) hst (fun _=>rfl) hkk
   simp only [Value.slice.injEq,and_true,true_and] at e1
   subst e1
   have y0:=hc 0 (by omega)
   have y1:=hc 1 (by omega)
   have y2:=hc 2 (by omega)
   have y3:=hc 3 (by omega)
   have hdr:ks.drop i=k::ks.drop (i+1):=by
    obtain ⟨hil,he⟩:=List.getElem?_eq_some_iff.1 hkk
    rw [←he,←List.drop_eq_getElem_cons hil]
   rw [hdr] at hfx
   have hfx2:fixL mm ks S=if (fixS mm k S').1≠0 then fixS mm k S' else fixL mm (ks.drop (i+1)) (fixS mm k S').2:=hfx
   have hkp:=Zq408 (mm:=mm) (k:=k) (m:=m+4*(ks.length - (i+1))) (S:=S') (by rw [show m+4*(ks.length - (i+1))+4=m+4*(ks.length - i) by omega];exact hk')
   have HKP:=Zh hkp
   have HSB2:=Zh (Zq656 (mm:=mm) (k:=k) hsb (HMB.out k))
   have HK':=Zh (hk'.fewer (show m+4≤m+4*(ks.length - i) by omega))
   have HSB:=Zh hsb
   have HFX:=Zh hfx2
   have HSUB:=Zh hsub
   obtain ⟨wk,hwk⟩:∃ x,x=Zq19 mm k:=⟨_,rfl⟩
   have hwl:wk.length≤1000000000:=by rw [hwk];exact HWB.out k
   have HWKB:=Zh (show ∀ y ∈ wk,isByte y by rw [hwk];exact HMB.out k)
   have HWK:=Zh hwk
   have h4:=hst.alloc (.cells #[.int .i64 k.kind,.int .i64 k.img,.int .i64 k.num,.int .i64 k.snap] 43)
   have hfs:fixS mm k S'=if (readS S' k 0 (lenAt S' k)).2≠0 then ((readS S' k 0 (lenAt S' k)).2,S')
     else if (readS S' k 0 (lenAt S' k)).1=wk∧wk≠[] then (0,S')
     else if wk=[] then dropS S' k
     else if wk<+:(readS S' k 0 (lenAt S' k)).1 then trimS S' k wk.length
     else if (trimS S' k 0).1≠0 then trimS S' k 0 else Zq134 (trimS S' k 0).2 k 0 wk:=by rw [hwk];rfl
   have HSIZE:=Zh (fun w1 (L:List HP) (h:St W I' w1 (Zq10 p S'::L))=>Zq380 k h)
   have HREAD:=Zh (fun w1 (L:List HP) (n:Int) (h:St W I' w1 (Zq10 p S'::L))=>Zq489 k 0 n h HK'.out.inv)
   have HDROP:=Zh (fun w1 (I1:Hp) (L:List HP) (h:St W I1 w1 (Zq10 p S'::L))=>Zq340 k h HK'.out)
   have HTRIM:=Zh (fun w1 (I1:Hp) (L:List HP) (n:Int) (h:St W I1 w1 (Zq10 p S'::L))=>Zq721 k n h HK'.out)
   have HWRITE:=Zh (fun w1 (I1:Hp) (L:List HP) (S3:Str) (pv:Value) (bs:List Int) (hk3:Keeps S3 m) (h:St W I1 w1 (Zq10 p S3::L)) (hp:SliceSrc w1 1 pv bs.length (bs.map byteV)) (hbl:bs.length≤1000000000)=>Zq381 k 0 pv bs h hk3 hp hbl)
   have HTK:=Zh (Zq168 (k:=k) (n:=0) (S:=S') (m:=m+2) HK'.out)
   have HRDB:=Zh (Zq407 (k:=k) (off:=0) (n:=lenAt S' k) hsb)
   obtain ⟨n,hnn⟩:∃ x,x=lenAt S' k:=⟨_,rfl⟩
   obtain ⟨wy,hwy⟩:∃ x,x=whyS S' k:=⟨_,rfl⟩
   obtain ⟨⟨bs,er⟩,hrd⟩:∃ x,x=readS S' k 0 n:=⟨_,rfl⟩
   rw [←hnn,←hrd] at hfs
   rw [←hnn,←hrd] at HRDB
   rw [←hnn,←hwy] at HSIZE
   have HRD:=Zh hrd
   have HFS:=Zh hfs
   obtain ⟨kk,hkk2⟩:∃ x,x=k:=⟨_,rfl⟩
   rw [←hkk2] at HREAD HDROP HTRIM HWRITE HTK HRD HFS HKP HSB2 HFX HWK
   have HKK:=Zh hkk2
   obtain ⟨k0,k1,k2,k3⟩:=k
   simp only [K4.vals,Zl6,Zl7,Nat.add_zero] at y0 y1 y2 y3
   simp only [K4.val] at HSIZE
   simp only at h4
   have HKV:=Zh (show kk.val=.agg #[.int .i64 k0,.int .i64 k1,.int .i64 k2,.int .i64 k3] by rw [HKK.out];rfl)
   rw [HKV.out] at HREAD HDROP HTRIM HWRITE
   have hin:(i:Int)<(ks.length:Int):=by omega
   have H4:=Zh h4
   clear hc hkk hR hdr hfx hfx2 hk' hsb hsub hkp hst h4 hfs hrd hnn hwy hwk hkk2
   go_upto_region 5 with fail
   have h4:=H4.out
   obtain ⟨gk,hgk⟩:∃ x,x=wr.heap.size:=⟨_,rfl⟩
   rw [←hgk] at h4 ⊢
   generalize (World.alloc _ _:World)=w4 at h4 ⊢
   clear y0 y1 y2 y3 H4 hgk
   have HMK:=Zh (show ∀ (w':World) (I1:Hp) (S1:Str) (H:HP) (L:List HP),St W I1 w' (HP.pt gk (.cells #[.int .i64 k0,.int .i64 k1,.int .i64 k2,.int .i64 k3] 43)::Zq10 p S1::H::jnHP q p J::L)→(w'.cell? ⟨q,0,none⟩=some (.pointer (some ⟨p,0,none⟩))∧w'.cell? ⟨gk,0,none⟩=some (.int .i64 k0)∧w'.cell? ⟨gk,1,none⟩=some (.int .i64 k1)∧w'.cell? ⟨gk,2,none⟩=some (.int .i64 k2)∧w'.cell? ⟨gk,3,none⟩=some (.int .i64 k3)) from fun w' I1 S1 H L h1=>by
    have ck:=Zq1 h1.heap
    exact ⟨((h1.pull 3 _ rfl).jn_ptr).1,ck 0,ck 1,ck 2,ck 3⟩)
   have H5:=Zh h4
   clear h4
   refine Zq42 (fun w'=>St W I' w' (HP.pt gk (.cells #[.int .i64 k0,.int .i64 k1,.int .i64 k2,.int .i64 k3] 43)::Zq10 p S'::Zq286 b mm::jnHP q p J::l)∧w'.cell? ⟨q,0,none⟩=some (.pointer (some ⟨p,0,none⟩))∧w'.cell? ⟨gk,0,none⟩=some (.int .i64 k0)∧w'.cell? ⟨gk,1,none⟩=some (.int .i64 k1)∧w'.cell? ⟨gk,2,none⟩=some (.int .i64 k2)∧w'.cell? ⟨gk,3,none⟩=some (.int .i64 k3)) [(0,false),(1,false),(2,false),(3,false),(4,false),(5,false),(6,false),(7,false),(8,true)] [] [9,10] (by kernel_rfl) (by kernel_rfl) (by (intro w' hb;exact ⟨H5.out.drew.keep hb,HMK.out _ _ _ _ _ (H5.out.drew.keep hb)⟩)) ?_
   repeat (first|(refine Zq60 (by rfl) _ (by rfl) (by intro w;go_simp;try with_reducible rfl) ?_;(try simp only [Act.put,List.setIfInBounds_toArray,Zl4,Zl5]))|(refine Zq146 (by rfl) _ (by rfl) (by (intro w hSw;(try dsimp only at hSw);go_simp;try with_reducible rfl)) ?_;(try simp only [Act.put,List.setIfInBounds_toArray,Zl4,Zl5]))|(refine Zq79 (by rfl) (by rfl) ?_;(try simp only [Act.put,List.setIfInBounds_toArray,Zl4,Zl5]))|fail)
   refine Zq178 (by rfl) (.tuple #[.int .i64 n,.int .i64 wy]) (71) (#[.pointer (some ⟨p,0,none⟩),.agg #[.int .i64 k0,.int .i64 k1,.int .i64 k2,.int .i64 k3]]) (by rfl) (by intro w;go_simp;try with_reducible rfl) (by (rintro w1 ⟨hS,_⟩;exact (HSIZE.out _ _ (hS.pull 1 _ rfl)).mono (by rintro e w' ⟨h1,h2⟩;exact ⟨h2,h1⟩))) ?_
   (try simp only [Act.put,List.setIfInBounds_toArray,Zl4,Zl5])
   repeat (first|(refine Zq60 (by rfl) _ (by rfl) (by intro w;go_simp;try with_reducible rfl) ?_;(try simp only [Act.put,List.setIfInBounds_toArray,Zl4,Zl5]))|(refine Zq146 (by rfl) _ (by rfl) (by (intro w hSw;(try dsimp only at hSw);go_simp;try with_reducible rfl)) ?_;(try simp only [Act.put,List.setIfInBounds_toArray,Zl4,Zl5]))|(refine Zq79 (by rfl) (by rfl) ?_;(try simp only [Act.put,List.setIfInBounds_toArray,Zl4,Zl5]))|fail)
   refine Zq345 ?_
   refine Zq547 ?_
   rintro w5 hz5
   have h5:=H5.out.drew.keep hz5.below
   have H6:=Zh h5
   clear h5 hz5 H5
   go_wp2_with fail
   refine NoPanic.normal ?_
   go_upto_region 6 with fail
   obtain ⟨x0,x1,x2,x3,x4⟩:=HMK.out _ _ _ _ _ H6.out.drew
   refine Zq239 (fun w'=>w'.cell? ⟨q,0,none⟩=some (.pointer (some ⟨p,0,none⟩))∧w'.cell? ⟨gk,0,none⟩=some (.int .i64 k0)∧w'.cell? ⟨gk,1,none⟩=some (.int .i64 k1)∧w'.cell? ⟨gk,2,none⟩=some (.int .i64 k2)∧w'.cell? ⟨gk,3,none⟩=some (.int .i64 k3)) [0,1,2,3,4,5] [] [6] [7,8,9,10,11] [] (by kernel_rfl) (by kernel_rfl) (by (exact ⟨x0,x1,x2,x3,x4⟩)) ?_
   simp only [pickL,Zl6,Zl7]
   repeat (refine Zq5 _ (Or.inl ⟨by rfl,by (intro w hSw;(try dsimp only at hSw);go_simp;try with_reducible rfl)⟩) ?_;(try simp only [Act.put,List.setIfInBounds_toArray,Zl4,Zl5]))
   refine Zq9 ?_
   unfold Zq16
   clear x0 x1 x2 x3 x4
   unfold Zq16
   go_wp2_with fail
   refine (HREAD.out _ _ n (H6.out.drew.pull 1 _ rfl)).mono ?_
   rintro e w6 ⟨hb6,v6,rfl,ho6⟩
   rw [←HRD.out] at ho6 ⊢
   simp only at ho6
   obtain ⟨A6,c6,rfl⟩:=Zq17 ho6
   obtain ⟨I6,hs6,hB6,h6⟩:=Zq31 H6.out.drew hb6 ho6
   have H7:=Zh h6
   have HBB:=Zh hB6
   have HS6:=Zh (HSUB.out.trans hs6)
   clear hb6 ho6 hs6 hB6 h6 H6 HREAD HSIZE
   go_wp2_with fail
   refine Zq0 (S:=fun _=>True) trivial ?_
   unfold Zq16
   repeat (refine Zq13 _ (Or.inl ⟨by rfl,by intro w;go_simp;try with_reducible rfl⟩) ?_;(try simp only [Act.put,List.setIfInBounds_toArray,Zl4,Zl5]))
   refine Zq15 ?_
   go_wp2_with fail
   refine NoPanic.normal ?_
   have h7:=H7.out
   obtain ⟨A8,c8,H8,hlk,h8,hback⟩:=St.want_look kk (h7.pull 2 _ rfl)
   rw [HKV.out,←HWK.out] at hlk
   rw [←HWK.out] at h8 hback
   have hlk0:=hlk w6 (Below.refl _ _)
   have hsw:=SliceSrc.of_owns (St.row_owns h8) (Zq64 wk)
   have HSW:=Zh hsw
   have HBACK:=Zh (fun (I':Hp) (w':World) (l':List HP) (h:St W I' w' (rowHP (.slice A8 wk.length c8) wk::H8::l'))=>hback h)
   have hsb:=Zq29 h8 HBB.out
   have HSB6:=Zh hsb
   have heq:=Zq170 _ _ bs wk w6 hsb hsw HRDB.out HWKB.out
   have hc6:bs.length≤c6:=by
    obtain ⟨A,c,e,_,h3,_⟩:=HBB.out
    simp only [Value.slice.injEq] at e
    omega
   have HPX:=Zh (fun w1 (h1:SliceSrc w1 1 (.slice A6 bs.length c6) bs.length (bs.map byteV)) (h2:SliceSrc w1 1 (.slice A8 wk.length c8) wk.length (wk.map byteV))=>Zq451 A6 c6 _ bs wk w1 h1 hc6 h2 HRDB.out HWKB.out)
   have H9:=Zh ((h8.pull 3 _ rfl).pull 3 _ rfl)
   obtain ⟨x0,x1,x2,x3,x4⟩:=HMK.out _ _ _ _ _ h7
   have HEQ:=Zh heq
   have HWKN:=Zh (show wk=[]↔wk.length=0 from List.length_eq_zero_iff.symm)
   obtain ⟨nl,hnl⟩:∃ x,x=wk.length:=⟨_,rfl⟩
   rw [←hnl] at hlk0 HEQ HPX HBACK H9 HSW HFS HWKN hwl
   have HNL:=Zh hnl
   clear hlk h8 hback hsw hsb heq hc6 h7 H7 hnl
   by_cases her:er=0
   ·subst her
    have HF1:=Zh (HFS.out.trans (if_neg (by simp)))
    try simp only at HF1
    obtain ⟨eb,heb⟩:∃ x,x=decide (bs=wk):=⟨_,rfl⟩
    rw [←heb] at HEQ
    cases eb with
    | true =>
     have hbw:bs=wk:=of_decide_eq_true heb.symm
     by_cases hnz:nl=0
     ·have HF2:=Zh (HF1.out.trans ((if_neg (fun q=>q.2 (HWKN.out.2 hnz))).trans (if_pos (HWKN.out.2 hnz))))
      subst hnz
      clear heb hbw
      go_wp2_with fail
      refine HEQ.out.mono ?_
      rintro e w7 ⟨rfl,rfl⟩
      go_wp2_with fail
      go_upto_region 13 with fail
      refine Zq11 [0,1,2] [3,4] [5,6] (by kernel_rfl) (by kernel_rfl) ?_
      simp only [pickL,Zl6,Zl7]
      repeat (refine Zq13 _ (Or.inl ⟨by rfl,by intro w;go_simp;try with_reducible rfl⟩) ?_;(try simp only [Act.put,List.setIfInBounds_toArray,Zl4,Zl5]))
      refine Zq15 ?_
      repeat still_step
      refine wpStill_nil ?_
      clear x0 x1 x2 x3 x4
      go_wp2_with fail
      refine (HDROP.out _ _ _ (H9.out.drew.pull 1 _ rfl)).mono ?_
      rintro e w9 ⟨I9,s9,rfl,h9⟩
      obtain ⟨⟨r9,S9⟩,hd⟩:∃ x,x=dropS S' kk:=⟨_,rfl⟩
      rw [←hd] at h9 ⊢
      have HT:=Zh ((h9.pull 1 _ rfl).drop)
      have HI:=Zh s9
      have HE:=Zh (HF2.out.trans hd.symm)
      clear h9 s9 hd
      go_wp2_with fail
      refine NoPanic.normal ?_
      by_cases hr:r9=0
      ·subst hr
       have HC2:=Zh (show fixL mm ks S=fixL mm (ks.drop (i+1)) S9 from HFX.out.trans (by rw [HE.out];exact if_neg (by simp)))
       have HKP2:=Zh (show Keeps S9 (m+4*(ks.length - (i+1))) by have:=HKP.out;rw [HE.out] at this;exact this)
       have HSB3:=Zh (show SeenB S9 by have:=HSB2.out;rw [HE.out] at this;exact this rfl)
       go_wp2_with fail
       go_roundw
       case rel=>exact ⟨i+1,S9,I9,by go_num,by omega,HC2.out,HKP2.out,HSB3.out,HS6.out.trans HI.out,(HBACK.out _ _ _ ((HT.out.pull 2 _ rfl).pull 2 _ rfl)).pull 1 _ rfl⟩
       case measure=>first|(simp [intOf];done)|(simp [intOf];omega)|fail
      ·have hne:(r9 != 0)=true:=by simpa using hr
       have HC2:=Zh (show trimJ S J=(r9,S9) from HX.out.trans (HFX.out.trans (by rw [HE.out];exact if_pos hr)))
       go_wp2_with fail
       go_ret
       rw [HC2.out]
       exact ⟨I9,S2.out.trans (HS6.out.trans HI.out),rfl,((HT.out.pull 1 _ rfl).drop.pull 1 _ rfl).drop⟩
     ·have HE:=Zh (HF1.out.trans (if_pos ⟨hbw,fun q=>hnz (HWKN.out.1 q)⟩))
      have hpos:0<nl:=by omega
      obtain ⟨S9,hS9⟩:∃ x,x=S':=⟨_,rfl⟩
      obtain ⟨I9,hI9⟩:∃ x,x=I6:=⟨_,rfl⟩
      have HT:=Zh (H9.out.drop)
      have HI:=Zh (show I6.sub I9 by rw [hI9];exact Hp.sub.refl _)
      subst hI9
      subst hS9
      clear heb hbw H9
      go_wp2_with fail
      refine HEQ.out.mono ?_
      rintro e w7 ⟨rfl,rfl⟩
      have HC2:=Zh (show fixL mm ks S=fixL mm (ks.drop (i+1)) S9 from HFX.out.trans (by rw [HE.out];exact if_neg (by simp)))
      have HKP2:=Zh (show Keeps S9 (m+4*(ks.length - (i+1))) by have:=HKP.out;rw [HE.out] at this;exact this)
      have HSB3:=Zh (show SeenB S9 by have:=HSB2.out;rw [HE.out] at this;exact this rfl)
      go_wp2_with fail
      go_roundw
      case rel=>exact ⟨i+1,S9,I9,by go_num,by omega,HC2.out,HKP2.out,HSB3.out,HS6.out.trans HI.out,(HBACK.out _ _ _ ((HT.out.pull 2 _ rfl).pull 2 _ rfl)).pull 1 _ rfl⟩
      case measure=>first|(simp [intOf];done)|(simp [intOf];omega)|fail
    | false =>
     have hbw:¬ bs=wk:=of_decide_eq_false heb.symm
     have HF1b:=Zh (HF1.out.trans (if_neg (fun q=>hbw q.1)))
     by_cases hnz:nl=0
     ·have HF2:=Zh (HF1b.out.trans (if_pos (HWKN.out.2 hnz)))
      subst hnz
      clear heb hbw
      go_wp2_with fail
      refine HEQ.out.mono ?_
      rintro e w7 ⟨rfl,rfl⟩
      go_wp2_with fail
      go_upto_region 13 with fail
      refine Zq11 [0,1,2] [3,4] [5,6] (by kernel_rfl) (by kernel_rfl) ?_
      simp only [pickL,Zl6,Zl7]
      repeat (refine Zq13 _ (Or.inl ⟨by rfl,by intro w;go_simp;try with_reducible rfl⟩) ?_;(try simp only [Act.put,List.setIfInBounds_toArray,Zl4,Zl5]))
      refine Zq15 ?_
      repeat still_step
      refine wpStill_nil ?_
      clear x0 x1 x2 x3 x4
      go_wp2_with fail
      refine (HDROP.out _ _ _ (H9.out.drew.pull 1 _ rfl)).mono ?_
      rintro e w9 ⟨I9,s9,rfl,h9⟩
      obtain ⟨⟨r9,S9⟩,hd⟩:∃ x,x=dropS S' kk:=⟨_,rfl⟩
      rw [←hd] at h9 ⊢
      have HT:=Zh ((h9.pull 1 _ rfl).drop)
      have HI:=Zh s9
      have HE:=Zh (HF2.out.trans hd.symm)
      clear h9 s9 hd
      go_wp2_with fail
      refine NoPanic.normal ?_
      by_cases hr:r9=0
      ·subst hr
       have HC2:=Zh (show fixL mm ks S=fixL mm (ks.drop (i+1)) S9 from HFX.out.trans (by rw [HE.out];exact if_neg (by simp)))
       have HKP2:=Zh (show Keeps S9 (m+4*(ks.length - (i+1))) by have:=HKP.out;rw [HE.out] at this;exact this)
       have HSB3:=Zh (show SeenB S9 by have:=HSB2.out;rw [HE.out] at this;exact this rfl)
       go_wp2_with fail
       go_roundw
       case rel=>exact ⟨i+1,S9,I9,by go_num,by omega,HC2.out,HKP2.out,HSB3.out,HS6.out.trans HI.out,(HBACK.out _ _ _ ((HT.out.pull 2 _ rfl).pull 2 _ rfl)).pull 1 _ rfl⟩
       case measure=>first|(simp [intOf];done)|(simp [intOf];omega)|fail
      ·have hne:(r9 != 0)=true:=by simpa using hr
       have HC2:=Zh (show trimJ S J=(r9,S9) from HX.out.trans (HFX.out.trans (by rw [HE.out];exact if_pos hr)))
       go_wp2_with fail
       go_ret
       rw [HC2.out]
       exact ⟨I9,S2.out.trans (HS6.out.trans HI.out),rfl,((HT.out.pull 1 _ rfl).drop.pull 1 _ rfl).drop⟩
     ·have HF1c:=Zh (HF1b.out.trans (if_neg (fun q=>hnz (HWKN.out.1 q))))
      have hpos:0<nl:=by omega
      have hpx:=HPX.out w6 HSB6.out HSW.out
      obtain ⟨pb,hpb⟩:∃ x,x=decide (wk<+:bs):=⟨_,rfl⟩
      rw [←hpb] at hpx
      have HPX2:=Zh hpx
      clear heb hbw hpx
      go_wp2_with fail
      refine HEQ.out.mono ?_
      rintro e w7 ⟨rfl,rfl⟩
      go_wp2_with fail
      refine HPX2.out.mono ?_
      rintro e w7 ⟨rfl,rfl⟩
      cases pb with
      | true =>
       have HF2:=Zh (HF1c.out.trans (if_pos (of_decide_eq_true hpb.symm)))
       try rw [←HNL.out] at HF2
       clear hpb
       go_wp2_with fail
       go_upto_region 15 with fail
       refine Zq11 [0,1,2,5,6] [3,4] [7,8] (by kernel_rfl) (by kernel_rfl) ?_
       simp only [pickL,Zl6,Zl7]
       repeat (refine Zq13 _ (Or.inl ⟨by rfl,by intro w;go_simp;try with_reducible rfl⟩) ?_;(try simp only [Act.put,List.setIfInBounds_toArray,Zl4,Zl5]))
       refine Zq15 ?_
       repeat still_step
       refine wpStill_nil ?_
       clear x0 x1 x2 x3 x4
       go_wp2_with fail
       refine (HTRIM.out _ _ _ _ (H9.out.drew.pull 1 _ rfl)).mono ?_
       rintro e w9 ⟨I9,s9,rfl,h9⟩
       obtain ⟨⟨r9,S9⟩,hd⟩:∃ x,x=trimS S' kk (nl:Int):=⟨_,rfl⟩
       rw [←hd] at h9 ⊢
       have HT:=Zh ((h9.pull 1 _ rfl).drop)
       have HI:=Zh s9
       have HE:=Zh (HF2.out.trans hd.symm)
       clear h9 s9 hd
       go_wp2_with fail
       refine NoPanic.normal ?_
       by_cases hr:r9=0
       ·subst hr
        have HC2:=Zh (show fixL mm ks S=fixL mm (ks.drop (i+1)) S9 from HFX.out.trans (by rw [HE.out];exact if_neg (by simp)))
        have HKP2:=Zh (show Keeps S9 (m+4*(ks.length - (i+1))) by have:=HKP.out;rw [HE.out] at this;exact this)
        have HSB3:=Zh (show SeenB S9 by have:=HSB2.out;rw [HE.out] at this;exact this rfl)
        go_wp2_with fail
        go_roundw
        case rel=>exact ⟨i+1,S9,I9,by go_num,by omega,HC2.out,HKP2.out,HSB3.out,HS6.out.trans HI.out,(HBACK.out _ _ _ ((HT.out.pull 2 _ rfl).pull 2 _ rfl)).pull 1 _ rfl⟩
        case measure=>first|(simp [intOf];done)|(simp [intOf];omega)|fail
       ·have hne:(r9 != 0)=true:=by simpa using hr
        have HC2:=Zh (show trimJ S J=(r9,S9) from HX.out.trans (HFX.out.trans (by rw [HE.out];exact if_pos hr)))
        go_wp2_with fail
        go_ret
        rw [HC2.out]
        exact ⟨I9,S2.out.trans (HS6.out.trans HI.out),rfl,((HT.out.pull 1 _ rfl).drop.pull 1 _ rfl).drop⟩
      | false =>
       have HF2:=Zh (HF1c.out.trans (if_neg (of_decide_eq_false hpb.symm)))
       clear hpb
       go_wp2_with fail
       go_upto_region 8 with fail
       refine Zq11 [0,1,2] [3,4] [5,6] (by kernel_rfl) (by kernel_rfl) ?_
       simp only [pickL,Zl6,Zl7]
       repeat (refine Zq13 _ (Or.inl ⟨by rfl,by intro w;go_simp;try with_reducible rfl⟩) ?_;(try simp only [Act.put,List.setIfInBounds_toArray,Zl4,Zl5]))
       refine Zq15 ?_
       repeat still_step
       refine wpStill_nil ?_
       clear x0 x1 x2 x3 x4
       go_wp2_with fail
       refine (HTRIM.out _ _ _ 0 (H9.out.drew.pull 1 _ rfl)).mono ?_
       rintro e w9 ⟨I9,s9,rfl,h9⟩
       obtain ⟨⟨r9,S9⟩,hd⟩:∃ x,x=trimS S' kk 0:=⟨_,rfl⟩
       rw [←hd] at h9 ⊢
       have HT:=Zh ((h9.pull 1 _ rfl).drop)
       have HI:=Zh s9
       have H10:=Zh h9
       have HF3:=Zh (show fixS mm kk S'=if r9≠0 then (r9,S9) else Zq134 S9 kk 0 wk by rw [HF2.out,←hd])
       have HTK9:=Zh (show Keeps S9 (m+2) by rw [show S9=(trimS S' kk 0).2 by rw [←hd]];exact HTK.out)
       clear h9 s9 hd
       go_wp2_with fail
       refine NoPanic.normal ?_
       by_cases hr:r9=0
       ·subst hr
        have HF4:=Zh (HF3.out.trans (if_neg (by simp)))
        have HSW9:=Zh (SliceSrc.of_owns (St.row_owns (H10.out.drew.pull 2 _ rfl)) (Zq64 wk))
        rw [←HNL.out] at HSW9
        obtain ⟨x1,x2,x3,x4⟩:=Zq410 (H10.out.pull 1 _ rfl)
        obtain ⟨x0,lq⟩:=(H10.out.pull 4 _ rfl).jn_ptr
        go_wp2_with fail
        go_upto_region 10 with fail
        refine Zq11 [0,1,2,5] [3,4] [6,7] (by kernel_rfl) (by kernel_rfl) ?_
        simp only [pickL,Zl6,Zl7]
        repeat (refine Zq13 _ (Or.inl ⟨by rfl,by intro w;go_simp;try with_reducible rfl⟩) ?_;(try simp only [Act.put,List.setIfInBounds_toArray,Zl4,Zl5]))
        refine Zq15 ?_
        repeat still_step
        refine wpStill_nil ?_
        clear x0 x1 x2 x3 x4
        go_wp2_with fail
        rw [HNL.out] at HSW9 ⊢
        refine (HWRITE.out _ _ _ S9 _ wk (HTK9.out.fewer (by omega)) H10.out.drew HSW9.out (by rw [←HNL.out];exact hwl)).mono ?_
        rintro e w10 ⟨I10,s10,rfl,h10⟩
        obtain ⟨⟨r10,S10⟩,hd2⟩:∃ x,x=Zq134 S9 kk 0 wk:=⟨_,rfl⟩
        rw [←hd2] at h10 ⊢
        try rw [←HNL.out] at h10
        try rw [←HNL.out]
        have HT:=Zh ((h10.pull 1 _ rfl).drop)
        have HI:=Zh (HI.out.trans s10)
        have HE:=Zh (HF4.out.trans hd2.symm)
        clear h10 s10 hd2
        go_wp2_with fail
        refine NoPanic.normal ?_
        by_cases hr:r10=0
        ·subst hr
         have HC2:=Zh (show fixL mm ks S=fixL mm (ks.drop (i+1)) S10 from HFX.out.trans (by rw [HE.out];exact if_neg (by simp)))
         have HKP2:=Zh (show Keeps S10 (m+4*(ks.length - (i+1))) by have:=HKP.out;rw [HE.out] at this;exact this)
         have HSB3:=Zh (show SeenB S10 by have:=HSB2.out;rw [HE.out] at this;exact this rfl)
         go_wp2_with fail
         go_roundw
         case rel=>exact ⟨i+1,S10,I10,by go_num,by omega,HC2.out,HKP2.out,HSB3.out,HS6.out.trans HI.out,(HBACK.out _ _ _ ((HT.out.pull 2 _ rfl).pull 2 _ rfl)).pull 1 _ rfl⟩
         case measure=>first|(simp [intOf];done)|(simp [intOf];omega)|fail
        ·have hne:(r10 != 0)=true:=by simpa using hr
         have HC2:=Zh (show trimJ S J=(r10,S10) from HX.out.trans (HFX.out.trans (by rw [HE.out];exact if_pos hr)))
         go_wp2_with fail
         go_ret
         rw [HC2.out]
         exact ⟨I10,S2.out.trans (HS6.out.trans HI.out),rfl,((HT.out.pull 1 _ rfl).drop.pull 1 _ rfl).drop⟩
       ·have hne0:(r9==0)=false:=by simpa using hr
        have hne:(r9 != 0)=true:=by simpa using hr
        have HE:=Zh (HF3.out.trans (if_pos hr))
        have HC2:=Zh (show trimJ S J=(r9,S9) from HX.out.trans (HFX.out.trans (by rw [HE.out];exact if_pos hr)))
        go_wp2_with fail
        go_ret
        rw [HC2.out]
        exact ⟨I9,S2.out.trans (HS6.out.trans HI.out),rfl,((HT.out.pull 1 _ rfl).drop.pull 1 _ rfl).drop⟩
   ·have hr:er≠0:=her
    have hne:(er != 0)=true:=by simpa using hr
    have HE:=Zh (HFS.out.trans (if_pos her))
    try simp only at HE
    obtain ⟨S9,hS9⟩:∃ x,x=S':=⟨_,rfl⟩
    obtain ⟨I9,hI9⟩:∃ x,x=I6:=⟨_,rfl⟩
    have HT:=Zh (H9.out.drop)
    have HI:=Zh (show I6.sub I9 by rw [hI9];exact Hp.sub.refl _)
    subst hI9
    subst hS9
    clear H9 her
    have HC2:=Zh (show trimJ S J=(er,S9) from HX.out.trans (HFX.out.trans (by rw [HE.out];exact if_pos hr)))
    go_wp2_with fail
    go_ret
    rw [HC2.out]
    exact ⟨I9,S2.out.trans (HS6.out.trans HI.out),rfl,((HT.out.pull 1 _ rfl).drop.pull 1 _ rfl).drop⟩
  ·obtain rfl:i=ks.length:=by omega
   have d0:decide (((ks.length:Nat):Int)<(ks.length:Int))=false:=by rw [decide_eq_false_iff_not];omega
   rw [List.drop_length] at hfx
   have HFX:=Zh (HX.out.trans hfx)
   have hba:=Zq86 hst (hk'.fewer (show m≤m+4*(ks.length - ks.length) by omega))
   obtain ⟨x0,lq⟩:=(hst.pull 2 _ rfl).jn_ptr
   obtain ⟨⟨r9,S9⟩,hd⟩:∃ x,x=Zq14 S':=⟨_,rfl⟩
   have HFX2:=Zh (HFX.out.trans (show fixL mm [] S'=(r9,S9) from hd.symm))
   rw [←hd] at hba
   have HBA:=Zh hba
   have HSUB:=Zh hsub
   clear hba hfx hk' hst hsub hd
   go_wp2_with fail
   refine HBA.out.mono ?_
   rintro e w3 ⟨I3,hs3,rfl,h3⟩
   have H3:=Zh h3
   have HS3:=Zh (HSUB.out.trans hs3)
   clear h3 hs3
   go_wp2_with fail
   go_ret
   rw [HFX2.out]
   exact ⟨I3,S2.out.trans HS3.out,rfl,(H3.out.pull 1 _ rfl).drop⟩
end
end Go.Proofs.YtpjchngjhijgmaaGreat
