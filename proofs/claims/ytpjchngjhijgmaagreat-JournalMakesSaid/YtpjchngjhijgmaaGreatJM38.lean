import Derived.Test.YtpjchngjhijgmaaGreatJM37
set_option linter.all false
namespace Go.Proofs.YtpjchngjhijgmaaGreat
open Go.RowKit
theorem Zq666 {l:List Tag} (h:Zq43 l=true) {seq:Int} (hs:1≤seq):1≤tagOf l seq∧tagOf l seq≤1073741824:=by
 obtain ⟨t0,ts,hl,h0⟩:=Zq308 h
 unfold tagOf
 cases hf:l.reverse.find? (fun t=>decide (t.at_<seq)) with
 | none =>
  have h1:=List.find?_eq_none.1 hf t0 (by rw [hl];simp)
  simp at h1
  omega
 | some t =>
  have hm:t ∈ l:=by simpa using List.mem_of_find?_eq_some hf
  obtain ⟨i,hi⟩:=List.getElem?_of_mem hm
  have hil:=(List.getElem?_eq_some_iff.1 hi).1
  have hok:Zq98 l l.length=true:=by
   unfold Zq43 at h
   simp only [Bool.and_eq_true] at h
   exact h.2
  have h1:=Zq172 hok (show i+1≤l.length by omega)
  have h2:=Zq172 hok (show i≤l.length by omega)
  rw [Zq85 hi h2] at h1
  unfold tagOk at h1
  simp only [Bool.and_eq_true,decide_eq_true_eq] at h1
  have h3:=h1.2
  unfold Zq89 at h3
  exact ⟨h3.2.2.2.1,h3.2.2.2.2.1⟩
theorem Zq821 {J:Jn} {n:Int} (h:fitsJ J [n]=true):(1≤endJ J+1∧endJ J+1≤1099511627776)∧1≤n∧n≤90∧(rput J.r.shape J.fill (endJ J+1) n).2.2.2=true:=by
 unfold fitsJ Zq430 at h
 split at h
 ·cases h
 ·rename_i h1
  have h4:(rput J.r.shape J.fill (endJ J+1) n).2.2.2=true:=by
   unfold rput at h1 ⊢
   split
   ·rename_i hc
    rw [if_pos hc] at h1
    exact absurd rfl h1
   ·split <;> rfl
  obtain ⟨_,_,h5,h6⟩:=Zq412 h4
  exact ⟨h5,h6.1,h6.2,h4⟩
section
variable {W w w' : World} {I : Hp} {l : List HP} {p q : Nat} {J : Jn} {S : Str}
set_option maxRecDepth 8000
set_option maxHeartbeats 8000000
theorem Zq463 (d:List Int) (Ad:Option Addr) (cd:Nat) {m:Nat} (h:St W I w (Zq10 p S::jnHP q p J::l)) (hk:Keeps S (m+2)) (hB:JB J) (hd:BytesI I (.slice Ad d.length cd) d) (hdb:∀ y ∈ d,isByte y)
  (h6:(Zq56 (madeS S (keyOf J.r.shape (rput J.r.shape J.fill (endJ J+1) d.length).2.1)).2 (keyOf J.r.shape (rput J.r.shape J.fill (endJ J+1) d.length).2.1) (Zq46 (newE J d))).1≠6) :
  Calls Tryz.prog 24 #[.pointer (some ⟨q,0,none⟩),.slice Ad d.length cd] w fun e w'=>∃ I',I.sub I'∧e=.returned (.tuple #[.int .i64 (Zq99 S J d).1.1,.int .i64 (Zq99 S J d).1.2])∧St W I' w' (Zq10 p (Zq99 S J d).2.1::jnHP q p (Zq99 S J d).2.2::l):=by
 have HM:=Zh (Zq500 h)
 have HSM:=Zh (@Zq348 S J)
 obtain ⟨⟨⟨rn0,re0⟩,RS,RJ⟩,hR⟩:∃ x,x=Zq99 S J d:=⟨_,rfl⟩
 rw [←hR]
 unfold Zq99 at hR
 have HB:=Zh hB
 have HK:=Zh hk
 have HD:=Zh hd
 have HDB:=Zh hdb
 have HS6:=Zh h6
 obtain ⟨e0,he0⟩:∃ x,x=mayJ S J:=⟨_,rfl⟩
 obtain ⟨n,hnd⟩:∃ x,x=d.length:=⟨_,rfl⟩
 rw [←he0] at HM HSM hR
 rw [←hnd] at hR HS6 HD ⊢
 have HX:=Zh hR
 have HND:=Zh hnd
 clear h hk hB hd hdb h6 he0 hnd hR
 by_cases h0:e0=0
 ·subst h0
  have HX2:=Zh (HX.out.trans (if_neg (by simp)))
  have hsame:=HSM.out rfl
  rw [hsame] at HM
  clear HX HSM hsame
  go_enter Tryz.func24,Tryz.ntmps24
  go_wp2_with fail
  refine HM.out.mono ?_
  rintro e w2 ⟨rfl,h2⟩
  have H2:=Zh h2
  clear h2 HM
  by_cases hsz:n<1∨90<n
  ·have HX3:=Zh (HX2.out.trans (if_pos hsz))
   rcases (show n<1∨(¬ n<1∧90<n) by omega) with hc|⟨hc,hc2⟩
   ·have hi:(n:Int)<1:=by omega
    clear hsz
    go_wp2_with fail
    go_ret2
    have e1:=HX3.out
    simp only [Prod.mk.injEq] at e1
    obtain ⟨⟨rfl,rfl⟩,rfl,rfl⟩:=e1
    exact ⟨I,Hp.sub.refl _,rfl,H2.out⟩
   ·have hi:¬ (n:Int)<1:=by omega
    have hi2:(90:Int)<n:=by omega
    clear hsz
    go_wp2_with fail
    go_ret2
    have e1:=HX3.out
    simp only [Prod.mk.injEq] at e1
    obtain ⟨⟨rfl,rfl⟩,rfl,rfl⟩:=e1
    exact ⟨I,Hp.sub.refl _,rfl,H2.out⟩
  ·have HX3:=Zh (HX2.out.trans (if_neg hsz))
   have hi:¬ (n:Int)<1:=by omega
   have hi2:¬ (90:Int)<n:=by omega
   have hfi:=Zq646 ((H2.out.pull 1 _ rfl).keep (Zq7 w2 (.cells #[.int .i64 (n:Int)] 3))) HB.out (some ⟨w2.heap.size,0,none⟩) 1 [(n:Int)] (by simp) (fun i x hx=>by
    have hil:=(List.getElem?_eq_some_iff.1 hx).1
    have hi0:i=0:=by simpa using hil
    subst hi0
    simp only [Zl6,Option.some.injEq] at hx
    subst hx
    refine ⟨w2.heap.size,0,rfl,by simp,?_⟩
    rw [Nat.zero_add,Zq1 (heap_alloc_new _ _) 0]
    rfl)
   obtain ⟨fi,hfe⟩:∃ x,x=fitsJ J [(n:Int)]:=⟨_,rfl⟩
   rw [←hfe] at hfi HX3
   have HFI:=Zh hfi
   have HFE:=Zh hfe
   clear hsz hfi hfe HX2
   go_wp2_with fail
   refine HFI.out.mono ?_
   rintro e w3 ⟨rfl,hb3⟩
   have H3:=Zh ((H2.out.keep (Zq7 w2 (.cells #[.int .i64 (n:Int)] 3))).keep hb3)
   clear hb3 HFI H2
   cases fi with
   | false =>
    have HX4:=Zh (HX3.out.trans (if_pos rfl))
    go_wp2_with fail
    go_ret2
    have e1:=HX4.out
    simp only [Prod.mk.injEq] at e1
    obtain ⟨⟨rfl,rfl⟩,rfl,rfl⟩:=e1
    exact ⟨I,Hp.sub.refl _,rfl,H3.out⟩
   | true =>
    have HX4:=Zh (HX3.out.trans (if_neg (by simp)))
    clear HX3
    have hf1:=Zq821 HFE.out.symm
    have HE:=Zh (Zq148 (H3.out.pull 1 _ rfl) HB.out)
    obtain ⟨en,hen⟩:∃ x,x=endJ J:=⟨_,rfl⟩
    rw [←hen] at HE HX4 HS6 hf1
    obtain ⟨sq,hsq⟩:∃ x,x=en+1:=⟨_,rfl⟩
    have w1:IntKind.i64.wrap (en+1)=sq:=by rw [IntKind.wrap_i64];omega
    obtain ⟨tg,htg⟩:∃ x,x=tagOf J.r.tags sq:=⟨_,rfl⟩
    have htk:1≤tg∧tg≤1073741824:=by rw [htg];exact Zq666 HB.out.ok.tags (by omega)
    have hnew:newE J d=⟨tg,sq,d⟩:=by unfold newE;rw [←hen,←hsq,←htg]
    rw [hnew] at HX4 HS6
    rw [←hsq] at HX4 HS6 hf1
    obtain ⟨⟨⟨s1,v0,v1,v2,v3⟩,⟨pa,po⟩,nx,ok⟩,hrr⟩:∃ r,r=rput J.r.shape J.fill sq n:=⟨_,rfl⟩
    rw [←hrr] at HX4 HS6
    simp only at HX4 HS6
    obtain ⟨k,hkk⟩:∃ x,x=keyOf J.r.shape ⟨pa,po⟩:=⟨_,rfl⟩
    rw [←hkk] at HX4 HS6
    obtain ⟨fb,hfb⟩:∃ x,x=Zq46 ⟨tg,sq,d⟩:=⟨_,rfl⟩
    rw [←hfb] at HX4 HS6
    have hfl:fb.length≤1000:=by
     rw [hfb,Zq38]
     show 22+d.length≤1000
     rw [←HND.out]
     omega
    have hmay:mayF tg sq n=true:=by
     unfold mayF
     exact decide_eq_true (by omega)
    have HFB:=Zh hfb
    have HMAY:=Zh hmay
    have HRR:=Zh hrr
    have HKK:=Zh hkk
    have HFL:=Zh hfl
    have HTG:=Zh htg
    clear hnew hrr hkk hfb hfl hmay hen hf1 htk htg hsq
    go_wp2_with fail
    refine HE.out.mono ?_
    rintro e w4 ⟨rfl,hb4⟩
    have h4:=H3.out.keep hb4
    obtain ⟨vt,vc,hrI,hcs,lq,fq⟩:=(h4.pull 1 _ rfl).jn_rcells
    obtain ⟨At,ct,rfl,hnt,hat⟩:=Zq152 h4 hrI.1
    have k6:=hcs.2.2.2.2.2.2.1
    have HOF:=Zh (Zq647 At J.r.tags.length ct J.r.tags sq w4 hat (by have:=Zq154 HB.out.ok.tags;omega))
    rw [←HTG.out] at HOF
    have hsrc:=Zq29 h4 HD.out
    rw [←HND.out] at hsrc
    have HCL:=Zh (Zq24 (.slice Ad n cd) n (d.map byteV) w4 hsrc (by omega))
    have H4:=Zh h4
    clear h4 hrI hcs fq hat hnt hsrc hb4 H3 HE
    go_wp2_with fail
    refine HOF.out.mono ?_
    rintro e w5 ⟨rfl,rfl⟩
    go_wp2_with fail
    refine HCL.out.mono ?_
    rintro e w5 ⟨v5,rfl,ho5,hb5⟩
    obtain ⟨A5,c5,rfl⟩:=Zq17 ho5
    rw [HND.out] at ho5
    obtain ⟨I5,s5,hB5,h5⟩:=Zq31 H4.out hb5 ho5
    rw [←HND.out] at hB5
    have h6:=h5.alloc (.cells #[.int .i64 tg,.int .i64 sq,.slice A5 n c5] 50)
    obtain ⟨g8,hg8⟩:∃ x,x=w5.heap.size:=⟨_,rfl⟩
    rw [←hg8] at h6
    have HB5:=Zh hB5
    have S5:=Zh s5
    have H6:=Zh h6
    clear ho5 hb5 hB5 h5 s5 h6 H4 HOF HCL k6 lq w1
    go_upto_region 10 with fail
    rw [←hg8]
    have h6:=H6.out
    generalize (World.alloc _ _:World)=w6 at h6 ⊢
    clear hg8 H6
    obtain ⟨y0,y1,y2⟩:=Zq40 h6
    have l8:=h6.lt
    have hB5d:=HB5.out
    rw [HND.out] at hB5d
    have hly:=Zq497 tg sq d A5 c5 w6 (by rw [←HND.out];exact HMAY.out) (Zq29 h6 hB5d) HDB.out
    rw [←HND.out] at hly
    have HLY:=Zh hly
    have H6:=Zh h6
    clear h6 hB5d hly
    go_wp2_with fail
    refine HLY.out.mono ?_
    rintro e w7 ⟨A7,c7,f7,rfl,hf7,h7⟩
    rw [←HFB.out] at hf7
    subst hf7
    obtain ⟨I7,s7,hB7,h8⟩:=Zq31 H6.out h7.below h7.row_new
    have HB7:=Zh hB7
    have S7:=Zh (S5.out.trans s7)
    have HB5':=Zh ((Zq103 _ _).mono s7 (show BytesI I5 (.slice A5 d.length c5) d by rw [←HND.out];exact HB5.out))
    have H8:=Zh h8
    clear h7 hB7 h8 s7 H6 HLY y0 y1 y2 l8 HB5 S5
    go_upto_region 11 with fail
    have HRP:=Zh (show ∀ w,Calls Tryz.prog 69 #[.agg #[.int .i64 J.r.shape.splay,.int .i64 J.r.shape.sets,.int .i64 J.r.shape.size],.agg #[.int .i64 J.fill.set,.int .i64 J.fill.u0,.int .i64 J.fill.u1,.int .i64 J.fill.u2,.int .i64 J.fill.u3],.int .i64 sq,.int .i64 (n:Int)] w fun e w'=>e=.returned (.tuple #[.agg #[.int .i64 s1,.int .i64 v0,.int .i64 v1,.int .i64 v2,.int .i64 v3],.agg #[.int .i64 pa,.int .i64 po],.bool nx])∧Below w.heap.size w w' from fun w=>by
     have:=Zq440 J.r.shape J.fill sq n w
     rw [←HRR.out] at this
     exact this)
    have HMK:=Zh (show ∀ (w':World) (L:List HP),St W I7 w' (HP.pt g8 (.cells #[.int .i64 tg,.int .i64 sq,.slice A5 n c5] 50)::Zq10 p S::jnHP q p J::L)→(w'.cell? ⟨q,1,none⟩=some (.int .i64 J.r.shape.splay)∧w'.cell? ⟨q,2,none⟩=some (.int .i64 J.r.shape.sets)∧w'.cell? ⟨q,3,none⟩=some (.int .i64 J.r.shape.size)∧w'.cell? ⟨q,10,none⟩=some (.int .i64 J.fill.set)∧w'.cell? ⟨q,11,none⟩=some (.int .i64 J.fill.u0)∧w'.cell? ⟨q,12,none⟩=some (.int .i64 J.fill.u1)∧w'.cell? ⟨q,13,none⟩=some (.int .i64 J.fill.u2)∧w'.cell? ⟨q,14,none⟩=some (.int .i64 J.fill.u3)) from fun w' L h1=>by
     obtain ⟨V,_,h2⟩:=(h1.pull 2 _ rfl).jn_open
     obtain ⟨a1,a2,a3⟩:=Zq147 h2
     obtain ⟨b1,b2,b3,b4,b5⟩:=Zq392 h2
     exact ⟨a1,a2,a3,b1,b2,b3,b4,b5⟩)
    refine Zq42 (fun w'=>w'.cell? ⟨q,1,none⟩=some (.int .i64 J.r.shape.splay)∧w'.cell? ⟨q,2,none⟩=some (.int .i64 J.r.shape.sets)∧w'.cell? ⟨q,3,none⟩=some (.int .i64 J.r.shape.size)∧w'.cell? ⟨q,10,none⟩=some (.int .i64 J.fill.set)∧w'.cell? ⟨q,11,none⟩=some (.int .i64 J.fill.u0)∧w'.cell? ⟨q,12,none⟩=some (.int .i64 J.fill.u1)∧w'.cell? ⟨q,13,none⟩=some (.int .i64 J.fill.u2)∧w'.cell? ⟨q,14,none⟩=some (.int .i64 J.fill.u3)) [(0,false),(1,false),(2,false),(3,false),(4,false),(5,false),(6,false),(7,false),(8,false),(9,false),(10,false),(11,false),(12,false),(13,false),(14,false),(15,true),(16,true)] [17,18] [19,20,21] (by kernel_rfl) (by kernel_rfl) (by (intro w' hb;exact HMK.out _ _ (H8.out.drew.keep hb))) ?_
    repeat (first|(refine Zq60 (by rfl) _ (by rfl) (by intro w;go_simp;try with_reducible rfl) ?_;(try simp only [Act.put,List.setIfInBounds_toArray,Zl4,Zl5]))|(refine Zq146 (by rfl) _ (by rfl) (by (intro w hSw;(try dsimp only at hSw);go_simp;try with_reducible rfl)) ?_;(try simp only [Act.put,List.setIfInBounds_toArray,Zl4,Zl5]))|(refine Zq79 (by rfl) (by rfl) ?_;(try simp only [Act.put,List.setIfInBounds_toArray,Zl4,Zl5]))|fail)
    refine Zq178 (by rfl) (.tuple #[.agg #[.int .i64 s1,.int .i64 v0,.int .i64 v1,.int .i64 v2,.int .i64 v3],.agg #[.int .i64 pa,.int .i64 po],.bool nx]) (69) (#[.agg #[.int .i64 J.r.shape.splay,.int .i64 J.r.shape.sets,.int .i64 J.r.shape.size],.agg #[.int .i64 J.fill.set,.int .i64 J.fill.u0,.int .i64 J.fill.u1,.int .i64 J.fill.u2,.int .i64 J.fill.u3],.int .i64 sq,.int .i64 (n:Int)]) (by rfl) (by intro w;go_simp;try with_reducible rfl) (by (rintro w1 _;exact HRP.out w1)) ?_
    (try simp only [Act.put,List.setIfInBounds_toArray,Zl4,Zl5])
    repeat (first|(refine Zq60 (by rfl) _ (by rfl) (by intro w;go_simp;try with_reducible rfl) ?_;(try simp only [Act.put,List.setIfInBounds_toArray,Zl4,Zl5]))|(refine Zq146 (by rfl) _ (by rfl) (by (intro w hSw;(try dsimp only at hSw);go_simp;try with_reducible rfl)) ?_;(try simp only [Act.put,List.setIfInBounds_toArray,Zl4,Zl5]))|(refine Zq79 (by rfl) (by rfl) ?_;(try simp only [Act.put,List.setIfInBounds_toArray,Zl4,Zl5]))|fail)
    refine Zq345 ?_
    refine Zq816 (by rfl) (by rfl) (fun g=>.pointer (some ⟨g,0,none⟩)) (fun g=>.pointer (some ⟨g,0,none⟩)) (.cells #[.int .i64 0,.int .i64 0,.int .i64 0,.int .i64 0,.int .i64 0] 108) (.cells #[.int .i64 0,.int .i64 0] 41) (by rfl) (by rfl) (by intro w;go_simp;try with_reducible rfl) (by intro w;go_simp;try with_reducible rfl) ?_
    intro g11 g12
    rintro w9 hz9
    obtain ⟨hb9,l8,l9,hne⟩:=hz9.two (by decide)
    have h9:=H8.out.drew.fresh2 hb9 l8 l9 hne
    clear hz9 hb9 l8 l9
    have f8:=frozen_of_row h9.heap
    have f9:=frozen_of_row (h9.pull 1 _ rfl).heap
    obtain ⟨b5,b6⟩:g11<w9.heap.size∧g12<w9.heap.size:=⟨h9.lt,(h9.pull 1 _ rfl).lt⟩
    obtain ⟨y0,y1,y2,y3,y4⟩:=Zq22 h9
    obtain ⟨z0,z1⟩:=Zq47 (h9.pull 1 _ rfl)
    have H9:=Zh h9
    clear h9 H8 HMK HRP
    go_wp2_with fail
    refine NoPanic.normal ?_
    have h10:=((((H9.out.set5 (.int .i64 s1) (.int .i64 v0) (.int .i64 v1) (.int .i64 v2) (.int .i64 v3)).pull 1 _ rfl).set2 (.int .i64 pa) (.int .i64 po)).pull 1 _ rfl)
    generalize (World.setCell _ _ _:World)=w10 at h10 ⊢
    clear y0 y1 y2 y3 y4 z0 z1 f8 f9 H9 b5 b6
    have hkey:=Zq501 ⟨pa,po⟩ (h10.pull 4 _ rfl)
    obtain ⟨rn,hrn⟩:∃ x,x=rnum J.r.shape ⟨pa,po⟩:=⟨_,rfl⟩
    rw [←hrn] at hkey
    have HKR:=Zh (show k=⟨2,0,rn,0⟩ by rw [HKK.out];unfold keyOf;rw [←hrn])
    simp only [Pl.val] at hkey
    have HKEY:=Zh hkey
    obtain ⟨z0,z1⟩:=Zq47 (h10.pull 1 _ rfl)
    have l12:=(h10.pull 1 _ rfl).lt
    have H10:=Zh h10
    clear h10 hkey hrn
    go_wp2_with fail
    refine HKEY.out.mono ?_
    rintro e w11 ⟨rfl,hb11⟩
    have h12:=(H10.out.keep hb11).alloc (.cells #[.int .i64 2,.int .i64 0,.int .i64 rn,.int .i64 0] 43)
    obtain ⟨g14,hg14⟩:∃ x,x=w11.heap.size:=⟨_,rfl⟩
    rw [←hg14] at h12
    have H12:=Zh h12
    clear hb11 h12 H10 HKEY z0 z1 l12
    go_upto_region 13 with fail
    have h12:=H12.out
    rw [←hg14]
    generalize (World.alloc _ _:World)=w12 at h12 ⊢
    clear hg14 H12
    obtain ⟨n13,hn13⟩:∃ x,x=lenAt S k:=⟨_,rfl⟩
    obtain ⟨wy,hwy⟩:∃ x,x=whyS S k:=⟨_,rfl⟩
    have HSIZE:=Zh (fun w1 (L:List HP) (h:St W I7 w1 (Zq10 p S::L))=>Zq380 k h)
    rw [←hn13,←hwy] at HSIZE
    have HWY:=Zh hwy
    have HKV:=Zh (show k.val=.agg #[.int .i64 2,.int .i64 0,.int .i64 rn,.int .i64 0] by rw [HKR.out];rfl)
    rw [HKV.out] at HSIZE
    have h13:St W I7 w12 (Zq10 p S::jnHP q p J::HP.pt g8 (.cells #[.int .i64 tg,.int .i64 sq,.slice A5 n c5] 50)::HP.pt g11 (.cells #[.int .i64 s1,.int .i64 v0,.int .i64 v1,.int .i64 v2,.int .i64 v3] 108)::HP.pt g12 (.cells #[.int .i64 pa,.int .i64 po] 41)::HP.pt g14 (.cells #[.int .i64 2,.int .i64 0,.int .i64 rn,.int .i64 0] 43)::l):=h12.perm (by ((try simp only [Zl0,Zl1,Zl2,Zl3]);repeat (first|with_reducible exact List.Perm.refl _|(apply Zq4;(· repeat (first|with_reducible exact Zq3|with_reducible apply Zq2))))))
    have HMK:=Zh (show ∀ (I':Hp) (w':World) (S1:Str) (J1:Jn) (L:List HP),St W I' w' (Zq10 p S1::jnHP q p J1::HP.pt g8 (.cells #[.int .i64 tg,.int .i64 sq,.slice A5 n c5] 50)::HP.pt g11 (.cells #[.int .i64 s1,.int .i64 v0,.int .i64 v1,.int .i64 v2,.int .i64 v3] 108)::HP.pt g12 (.cells #[.int .i64 pa,.int .i64 po] 41)::HP.pt g14 (.cells #[.int .i64 2,.int .i64 0,.int .i64 rn,.int .i64 0] 43)::L)→(w'.cell? ⟨q,0,none⟩=some (.pointer (some ⟨p,0,none⟩))∧w'.cell? ⟨g14,0,none⟩=some (.int .i64 2)∧w'.cell? ⟨g14,1,none⟩=some (.int .i64 0)∧w'.cell? ⟨g14,2,none⟩=some (.int .i64 rn)∧w'.cell? ⟨g14,3,none⟩=some (.int .i64 0)) from fun I' w' S1 J1 L h1=>⟨((h1.pull 1 _ rfl).jn_ptr).1,Zq410 (h1.pull 5 _ rfl)⟩)
    have H13:=Zh h13
    clear h12 h13 hn13 hwy
    refine Zq42 (fun w'=>St W I7 w' (Zq10 p S::jnHP q p J::HP.pt g8 (.cells #[.int .i64 tg,.int .i64 sq,.slice A5 n c5] 50)::HP.pt g11 (.cells #[.int .i64 s1,.int .i64 v0,.int .i64 v1,.int .i64 v2,.int .i64 v3] 108)::HP.pt g12 (.cells #[.int .i64 pa,.int .i64 po] 41)::HP.pt g14 (.cells #[.int .i64 2,.int .i64 0,.int .i64 rn,.int .i64 0] 43)::l)∧w'.cell? ⟨q,0,none⟩=some (.pointer (some ⟨p,0,none⟩))∧w'.cell? ⟨g14,0,none⟩=some (.int .i64 2)∧w'.cell? ⟨g14,1,none⟩=some (.int .i64 0)∧w'.cell? ⟨g14,2,none⟩=some (.int .i64 rn)∧w'.cell? ⟨g14,3,none⟩=some (.int .i64 0)) [(0,false),(1,false),(2,false),(3,false),(4,false),(5,false),(6,false),(7,false),(8,true)] [] [9,10] (by kernel_rfl) (by kernel_rfl) (by (intro w' hb;exact ⟨H13.out.drew.keep hb,HMK.out _ _ _ _ _ (H13.out.drew.keep hb)⟩)) ?_
    repeat (first|(refine Zq60 (by rfl) _ (by rfl) (by intro w;go_simp;try with_reducible rfl) ?_;(try simp only [Act.put,List.setIfInBounds_toArray,Zl4,Zl5]))|(refine Zq146 (by rfl) _ (by rfl) (by (intro w hSw;(try dsimp only at hSw);go_simp;try with_reducible rfl)) ?_;(try simp only [Act.put,List.setIfInBounds_toArray,Zl4,Zl5]))|(refine Zq79 (by rfl) (by rfl) ?_;(try simp only [Act.put,List.setIfInBounds_toArray,Zl4,Zl5]))|fail)
    refine Zq178 (by rfl) (.tuple #[.int .i64 n13,.int .i64 wy]) (71) (#[.pointer (some ⟨p,0,none⟩),.agg #[.int .i64 2,.int .i64 0,.int .i64 rn,.int .i64 0]]) (by rfl) (by intro w;go_simp;try with_reducible rfl) (by (rintro w1 ⟨hS,_⟩;exact (HSIZE.out _ _ hS).mono (by rintro e w' ⟨h1,h2⟩;exact ⟨h2,h1⟩))) ?_
    (try simp only [Act.put,List.setIfInBounds_toArray,Zl4,Zl5])
    repeat (first|(refine Zq60 (by rfl) _ (by rfl) (by intro w;go_simp;try with_reducible rfl) ?_;(try simp only [Act.put,List.setIfInBounds_toArray,Zl4,Zl5]))|(refine Zq146 (by rfl) _ (by rfl) (by (intro w hSw;(try dsimp only at hSw);go_simp;try with_reducible rfl)) ?_;(try simp only [Act.put,List.setIfInBounds_toArray,Zl4,Zl5]))|(refine Zq79 (by rfl) (by rfl) ?_;(try simp only [Act.put,List.setIfInBounds_toArray,Zl4,Zl5]))|fail)
    refine Zq345 ?_
    refine Zq547 ?_
    rintro w14 hz14
    have h14:=H13.out.drew.keep hz14.below
    have H14:=Zh h14
    clear h14 hz14 H13 HSIZE
    go_wp2_with fail
    refine NoPanic.normal ?_
    have HX5:=Zh HX4.out
    have HS6':=Zh HS6.out
    have HKM:=Zh (show Keeps (madeS S k).2 m by
     unfold madeS
     split
     ·exact Zq224 HK.out
     ·exact HK.out.fewer (by omega))
    have h15:St W I7 w14 (Zq10 p S::jnHP q p J::HP.pt g14 (.cells #[.int .i64 k.kind,.int .i64 k.img,.int .i64 k.num,.int .i64 k.snap] 43)::HP.pt g8 (.cells #[.int .i64 tg,.int .i64 sq,.slice A5 n c5] 50)::HP.pt g11 (.cells #[.int .i64 s1,.int .i64 v0,.int .i64 v1,.int .i64 v2,.int .i64 v3] 108)::HP.pt g12 (.cells #[.int .i64 pa,.int .i64 po] 41)::l):=by
     rw [HKR.out]
     exact H14.out.perm (by ((try simp only [Zl0,Zl1,Zl2,Zl3]);repeat (first|with_reducible exact List.Perm.refl _|(apply Zq4;(· repeat (first|with_reducible exact Zq3|with_reducible apply Zq2))))))
    have H15:=Zh h15
    clear h15 H14 HMK
    go_step
    go_step
    go_step
    refine Zq745 (g8:=g8) (g11:=g11) (g12:=g12) (g14:=g14) (fb:=f7) (k:=k) (l:=HP.pt g8 (.cells #[.int .i64 tg,.int .i64 sq,.slice A5 n c5] 50)::HP.pt g11 (.cells #[.int .i64 s1,.int .i64 v0,.int .i64 v1,.int .i64 v2,.int .i64 v3] 108)::HP.pt g12 (.cells #[.int .i64 pa,.int .i64 po] 41)::l) (by kernel_rfl) H15.out HK.out HWY.out ?_ ?_
    ·intro hne y0 y1 y2 y3 y6 y7 y8 y9 y10 y11 y12 y13 y14 y15 y16 y17 y18 y19 y20 y21 y22 y23 y24 y25 y26 y27 y28 y29 y30 y31 y32 y33 y34 y35 y36 y37 y38 y39 y40 y41 y42 y43 y44 y45 y46 y47 y48 y49 y50 y51 y52 y53 y54 y55 y56 y57 y58 y59 y60 y61 y62 y63 y64 y65 y66 y67 y68 y69 y70 y71 y72 y73 y74 y75 y76 y77 y78 y79 y80 y81 y82 y83 y84 y85 y86 y87 y88 y89 y90 y91 y92 y93 y94 y95 y96 y97 y98 y99 y100 y101 y102 y103 y104 y105 y106 y107 y108 y109 y110 y111 y112 y113 y114 y115 y116 y117 y118 y119 y120 y121 y122 y123 y124 y125 y126 y127 y128 y129 y130 y131 y132 y133 y134 y135 y136 y137 y138 y139 y140 y141 y142 y143 y144 y145 y146 y147 y148 y149 y150 I2 w2 s2 h2
     have H2:=Zh h2
     clear h2
     have e1:=HX5.out.trans (if_pos hne)
     simp only [Prod.mk.injEq] at e1
     obtain ⟨⟨rfl,rfl⟩,rfl,rfl⟩:=e1
     go_ret2
     exact ⟨I2,S7.out.trans s2,rfl,(St.perm (m:=HP.pt g14 (.cells #[.int .i64 k.kind,.int .i64 k.img,.int .i64 k.num,.int .i64 k.snap] 43)::HP.pt g8 (.cells #[.int .i64 tg,.int .i64 sq,.slice A5 n c5] 50)::HP.pt g11 (.cells #[.int .i64 s1,.int .i64 v0,.int .i64 v1,.int .i64 v2,.int .i64 v3] 108)::HP.pt g12 (.cells #[.int .i64 pa,.int .i64 po] 41)::Zq10 p (madeS S k).2::jnHP q p (endsJ J (madeS S k).1)::l) H2.out (by ((try simp only [Zl0,Zl1,Zl2,Zl3]);repeat (first|with_reducible exact List.Perm.refl _|(apply Zq4;(· repeat (first|with_reducible exact Zq3|with_reducible apply Zq2))))))).drop.drop.drop.drop⟩
    ·intro he y1 y2 y3 y4 y5 y6 y10 y13 y15 y16 y17 y18 y19 y20 y21 y22 y23 y24 y25 y26 y27 y28 y29 y30 y31 y32 y33 y34 y35 y36 y37 y38 y39 y40 y41 y42 y43 y44 y45 y46 y47 y48 y49 y50 y51 y52 y53 y54 y55 y56 y57 y58 y59 y60 y61 y62 y63 y64 y65 y66 y67 y68 y69 y70 y71 y72 y73 y74 y75 y76 y77 y78 y79 y80 y81 y82 y83 y84 y85 y86 y87 y88 y89 y90 y91 y92 y93 y94 y95 y96 y97 y98 y99 y100 y101 y102 y103 y104 y105 y106 y107 y108 y109 y110 y111 y112 y113 y114 y115 y116 y117 y118 y119 y120 y121 y122 y123 y124 y125 y126 y127 y128 y129 y130 y131 y132 y133 y134 y135 y136 y137 y138 y139 y140 y141 y142 y143 y144 y145 y146 y147 y148 y149 y150 I2 w2 s2 h2
     have H2:=Zh h2
     have S2:=Zh s2
     clear h2 s2
     have HX6:=Zh (HX5.out.trans (if_neg (by simp [he])))
     have hD2:BytesI I2 (.slice A5 d.length c5) d:=(Zq103 _ _).mono S2.out HB5'.out
     have h16:St W I2 w2 (Zq10 p (madeS S k).2::jnHP q p J::HP.pt g8 (.cells #[.int .i64 tg,.int .i64 sq,.slice A5 d.length c5] 50)::HP.pt g11 (.cells #[.int .i64 s1,.int .i64 v0,.int .i64 v1,.int .i64 v2,.int .i64 v3] 108)::HP.pt g12 (.cells #[.int .i64 pa,.int .i64 po] 41)::HP.pt g14 (.cells #[.int .i64 k.kind,.int .i64 k.img,.int .i64 k.num,.int .i64 k.snap] 43)::l):=by
      rw [←HND.out]
      exact H2.out.perm (by ((try simp only [Zl0,Zl1,Zl2,Zl3]);repeat (first|with_reducible exact List.Perm.refl _|(apply Zq4;(· repeat (first|with_reducible exact Zq3|with_reducible apply Zq2))))))
     have H16:=Zh h16
     have HD2:=Zh hD2
     clear h16 hD2 H2 HB5'
     go_step
     go_step
     go_step
     refine Zq744 (g8:=g8) (g11:=g11) (g12:=g12) (g14:=g14) (fb:=f7) (k:=k) (tg:=tg) (sq:=sq) (s1:=s1) (v0:=v0) (v1:=v1) (v2:=v2) (v3:=v3) (pa:=pa) (po:=po) (d:=d) (Ad:=A5) (cd:=c5) (by kernel_rfl) H16.out HKM.out HB.out.lens HB.out.len HD2.out HDB.out ((Zq103 _ _).mono S2.out HB7.out) HFL.out HS6'.out ?_ ?_
     ·intro hne y0 y1 y2 y3 y6 y7 y8 y9 y10 y11 y12 y13 y14 y15 y16 y17 y18 y19 y20 y21 y22 y23 y24 y25 y26 y27 y28 y29 y30 y31 y32 y33 y34 y35 y36 y37 y38 y39 y40 y41 y42 y43 y44 y45 y46 y47 y48 y49 y50 y51 y52 y53 y54 y55 y56 y57 y58 y59 y60 y61 y62 y63 y64 y65 y66 y67 y68 y69 y70 y71 y72 y73 y74 y75 y76 y77 y78 y79 y80 y81 y82 y83 y84 y85 y86 y87 y88 y89 y90 y91 y92 y93 y94 y95 y96 y97 y98 y99 y100 y101 y102 y103 y104 y105 y106 y107 y108 y109 y110 y111 y112 y113 y114 y115 y116 y117 y118 y119 y120 y121 y122 y123 y124 y125 y126 y127 y128 y129 y130 y131 y132 y133 y134 y135 y136 y137 y138 y139 y140 y141 y142 y143 y144 y145 y146 y147 y148 y149 y150 I3 w3 s3 h3
      have H3:=Zh h3
      clear h3
      have e1:=HX6.out.trans (if_pos hne)
      simp only [Prod.mk.injEq] at e1
      obtain ⟨⟨rfl,rfl⟩,rfl,rfl⟩:=e1
      go_ret2
      exact ⟨I3,(S7.out.trans S2.out).trans s3,rfl,H3.out⟩
     ·intro he2 y1 y2 y3 y4 y5 y6 y9 y10 y13 y14 y15 y16 y17 y18 y19 y20 y21 y22 y23 y24 y25 y26 y27 y28 y29 y30 y31 y32 y33 y34 y35 y36 y37 y38 y39 y40 y41 y42 y43 y44 y45 y46 y47 y48 y49 y50 y51 y52 y53 y54 y55 y56 y57 y58 y59 y60 y61 y62 y63 y64 y65 y66 y67 y68 y69 y70 y71 y72 y73 y74 y75 y76 y77 y78 y79 y80 y81 y82 y83 y84 y85 y86 y87 y88 y89 y90 y91 y92 y93 y94 y95 y96 y97 y98 y99 y100 y101 y102 y103 y104 y105 y106 y107 y108 y109 y110 y111 y112 y113 y114 y115 y116 y117 y118 y119 y120 y121 y122 y123 y124 y125 y126 y127 y128 y129 y130 y131 y132 y133 y134 y135 y136 y137 y138 y139 y140 y141 y142 y143 y144 y145 y146 y147 y148 y149 y150 I3 w3 s3 h3
      have H3:=Zh h3
      have S3:=Zh s3
      clear h3 s3
      have e1:=HX6.out.trans (if_neg (by simp [he2]))
      simp only [Prod.mk.injEq] at e1
      obtain ⟨⟨rfl,rfl⟩,rfl,rfl⟩:=e1
      go_step
      go_step
      refine Zq820 (g8:=g8) (g11:=g11) (g12:=g12) (tg:=tg) (s1:=s1) (v0:=v0) (v1:=v1) (v2:=v2) (v3:=v3) (pa:=pa) (po:=po) (d:=d) (Ad:=A5) (cd:=c5) (by kernel_rfl) (H3.out.perm (by ((try simp only [Zl0,Zl1,Zl2,Zl3]);repeat (first|with_reducible exact List.Perm.refl _|(apply Zq4;(· repeat (first|with_reducible exact Zq3|with_reducible apply Zq2)))))):St W I3 w3 (jnHP q p J::HP.pt g8 (.cells #[.int .i64 tg,.int .i64 rn0,.slice A5 d.length c5] 50)::HP.pt g11 (.cells #[.int .i64 s1,.int .i64 v0,.int .i64 v1,.int .i64 v2,.int .i64 v3] 108)::HP.pt g12 (.cells #[.int .i64 pa,.int .i64 po] 41)::Zq10 p _::l)) HB.out.lens HB.out.len ((Zq103 _ _).mono S3.out HD2.out) HDB.out ?_
      intro y0 y1 y2 y3 y6 y7 y8 y9 y10 y11 y12 y13 y14 y15 y16 y17 y18 y19 y20 y21 y22 y23 y24 y25 y26 y27 y28 y29 y30 y31 y32 y33 y34 y35 y36 y37 y38 y39 y40 y41 y42 y43 y44 y45 y46 y47 y48 y49 y50 y51 y52 y53 y54 y55 y56 y57 y58 y59 y60 y61 y62 y63 y64 y65 y66 y67 y68 y69 y70 y71 y72 y73 y74 y75 y76 y77 y78 y79 y80 y81 y82 y83 y84 y85 y86 y87 y88 y89 y90 y91 y92 y93 y94 y95 y96 y97 y98 y99 y100 y101 y102 y103 y104 y105 y106 y107 y108 y109 y110 y111 y112 y113 y114 y115 y116 y117 y118 y119 y120 y121 y122 y123 y124 y125 y126 y127 y128 y129 y130 y131 y132 y133 y134 y135 y136 y137 y138 y139 y140 y141 y142 y143 y144 y145 y146 y147 y148 y149 y150 w4 h4
      have H4:=Zh h4
      clear h4
      go_ret2
      exact ⟨I3,(S7.out.trans S2.out).trans S3.out,rfl,H4.out.pull 1 _ rfl⟩
 ·have HX2:=Zh (HX.out.trans (if_pos h0))
  have hne:(e0 != 0)=true:=by simpa using h0
  go_enter Tryz.func24,Tryz.ntmps24
  go_wp2_with fail
  refine HM.out.mono ?_
  rintro e w2 ⟨rfl,h2⟩
  have H2:=Zh h2
  clear h2
  go_wp2_with fail
  go_ret2
  have e1:=HX2.out
  simp only [Prod.mk.injEq] at e1
  obtain ⟨⟨rfl,rfl⟩,rfl,rfl⟩:=e1
  exact ⟨I,Hp.sub.refl _,rfl,H2.out⟩
end
end Go.Proofs.YtpjchngjhijgmaaGreat
