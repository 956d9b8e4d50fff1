import Derived.Test.YtpjchngjhijgmaaGreatJM33
set_option linter.all false
namespace Go.Proofs.YtpjchngjhijgmaaGreat
open Go.RowKit
def goodM (c:Rg) (at':Int) (ts:List Tag):Bool:=c.okB&&decide (0≤at')&&decide (at'≤1099511627776)&&Zq43 ts&&decide (ts.length≤(Zq36 ts at').length)
def newR (c:Rg) (at':Int) (ts:List Tag):Rc:=⟨c,at'+1,0,ts,[]⟩
def makeJ (S:Str) (c:Rg) (at':Int) (ts:List Tag) (there:Bool):Int × Str :=
 if S.on=false then (7,S) else if goodM c at' ts=false then (1,S) else if there=true then (5,S)
 else if (Zq51 S).1≠0 then Zq51 S
 else if (makeS (Zq51 S).2 kJ).1≠0 then makeS (Zq51 S).2 kJ
 else saveJ (makeS (Zq51 S).2 kJ).2 (newR c at' ts)
def wipeJ (S:Str):Int × Str :=
 if S.on=false then (7,S)
 else if whyS S kJ=0 then
  (if (dropS S kJ).1≠0 then dropS S kJ else if (Zq14 (dropS S kJ).2).1≠0 then Zq14 (dropS S kJ).2 else Zq51 (Zq14 (dropS S kJ).2).2)
 else Zq51 S
theorem Zq95 {c:Rg} {at':Int} {ts:List Tag} (h:c.okB=false∨at'<0∨1099511627776<at'∨Zq43 ts=false∨(Zq36 ts at').length<ts.length):goodM c at' ts=false:=by
 unfold goodM
 rcases h with h|h|h|h|h
 ·simp [h]
 ·rw [show decide (0≤at')=false by rw [decide_eq_false_iff_not];omega];simp
 ·rw [show decide (at'≤1099511627776)=false by rw [decide_eq_false_iff_not];omega];simp
 ·simp [h]
 ·rw [show decide (ts.length≤(Zq36 ts at').length)=false by rw [decide_eq_false_iff_not];omega];simp
theorem Zq514 {c:Rg} {at':Int} {ts:List Tag} (h:goodM c at' ts=true):(newR c at' ts).Ok:=by
 unfold goodM at h
 simp only [Bool.and_eq_true,decide_eq_true_eq] at h
 exact ⟨h.1.1.1.1,by show 1≤at'+1∧at'+1≤2199023255552;omega,by show (0:Int)≤0∧(0:Int)≤2147483648;omega,h.1.2,rfl⟩
theorem Zq352 (I:Hp) (s:Nat):RowI I s (.slice none 0 0) 0 []:=⟨none,0,rfl,by simp,Nat.le_refl _,by unfold maxLen;omega,fun _=>rfl,fun h=>absurd h (by simp)⟩
section
variable {W w w' : World} {I : Hp} {l : List HP} {p q : Nat} {J : Jn} {S : Str}
set_option maxRecDepth 4000
set_option maxHeartbeats 8000000
theorem Zq742 (c:Rg) (at':Int) (A:Option Addr) (n m:Nat) (w:World):Calls Tryz.prog 34 #[.pointer none,c.val,.int .i64 at',.slice A n m] w fun e w'=>e=.returned (.int .i64 1)∧Below w.heap.size w w':=by
 simp only [Rg.val]
 have hb:=Zq7 w (.cells #[.int .i64 c.splay,.int .i64 c.sets,.int .i64 c.size] 26)
 have HB:=Zh hb
 clear hb
 go_enter Tryz.func34,Tryz.ntmps34
 go_wp2_with fail
 refine (Zq639 _).mono ?_
 rintro e w1 ⟨rfl,rfl⟩
 go_wp2_with fail
 go_ret
 exact ⟨rfl,HB.out⟩
theorem Zq128 (c:Rg) (at':Int) (vt:Value) (ts:List Tag) (o o2:Option Rc) {m:Nat} (h:St W I w (Zq10 p S::l)) (ht:RowI I 4 vt ts.length (flat ts)) (htn:ts.length≤1000000) (hk:Keeps S (m+4+2*(Zq21 S ⟨2,0⟩).length)) (hn:(Zq18 S ⟨2,0⟩).length≤1000000)
  (hj:JRec S o) (hm:goodM c at' ts=true→o=none→((Zq51 S).1=0→whyS (Zq51 S).2 kJ≠0)∧JRec (makeS (Zq51 S).2 kJ).2 o2∧(saveJ (makeS (Zq51 S).2 kJ).2 (newR c at' ts)).1≠6) :
  Calls Tryz.prog 34 #[.pointer (some ⟨p,0,none⟩),c.val,.int .i64 at',vt] w fun e w'=>∃ I',I.sub I'∧e=.returned (.int .i64 (makeJ S c at' ts o.isSome).1)∧St W I' w' (Zq10 p (makeJ S c at' ts o.isSome).2::l):=by
 obtain ⟨At,ct,rfl,hnc,hat⟩:=Zq152 h ht
 have HX:=Zh (show makeJ S c at' ts o.isSome=if S.on=false then (7,S) else if goodM c at' ts=false then (1,S) else if o.isSome=true then (5,S)
 else if (Zq51 S).1≠0 then Zq51 S
 else if (makeS (Zq51 S).2 kJ).1≠0 then makeS (Zq51 S).2 kJ
 else saveJ (makeS (Zq51 S).2 kJ).2 (newR c at' ts) from rfl)
 obtain ⟨⟨rv,R⟩,hR⟩:∃ x,x=makeJ S c at' ts o.isSome:=⟨_,rfl⟩
 rw [←hR] at HX ⊢
 simp only [Rg.val]
 have h1:=h.alloc (.cells #[.int .i64 c.splay,.int .i64 c.sets,.int .i64 c.size] 26)
 obtain ⟨g5,hg5⟩:∃ x,x=w.heap.size:=⟨_,rfl⟩
 rw [←hg5] at h1
 have hrd:=Zq127 (h1.pull 1 _ rfl)
 have HRD:=Zh hrd
 have H1:=Zh h1
 have HT:=Zh ht
 have HTA:=Zh (show ∀ w' L,St W I w' L→TagsAt w' At ts.length ts from fun w' L h1=>by
  obtain ⟨A,c,e,_,h9⟩:=Zq152 h1 ht
  simp only [Value.slice.injEq] at e
  obtain ⟨rfl,_,_⟩:=e
  exact h9)
 have HK:=Zh hk
 have HN:=Zh hn
 have HJ:=Zh hj
 have HMM:=Zh hm
 have HNC:=Zh hnc
 clear h h1 hrd ht hk hn hj hm hat hR hnc
 by_cases hon:S.on=false
 ·have HX2:=Zh (HX.out.trans (if_pos hon))
  rw [if_pos hon] at HRD
  clear hon
  go_enter Tryz.func34,Tryz.ntmps34
  go_wp2_with fail
  rw [←hg5]
  refine HRD.out.mono ?_
  rintro e w1 ⟨rfl,rfl⟩
  go_wp2_with fail
  go_ret
  have e1:=HX2.out
  simp only [Prod.mk.injEq] at e1
  obtain ⟨rfl,rfl⟩:=e1
  exact ⟨I,Hp.sub.refl _,rfl,H1.out.drop⟩
 ·have HX2:=Zh (HX.out.trans (if_neg hon))
  rw [if_neg hon] at HRD
  have hon1:S.on=true:=by simpa using hon
  have HON:=Zh hon1
  clear hon hon1
  go_enter Tryz.func34,Tryz.ntmps34
  go_upto_region 1 with fail
  have h1:=H1.out
  rw [←hg5]
  generalize (World.alloc _ _:World)=w1 at h1 HRD ⊢
  clear hg5 H1
  obtain ⟨x0,x1,x2⟩:=Zq40 h1
  have l5:=h1.lt
  have HRR:=Zh (Zq200 c w1)
  obtain ⟨ok,hok⟩:∃ x,x=c.okB:=⟨_,rfl⟩
  rw [←hok] at HRR
  have HOK:=Zh hok
  simp only [Rg.val] at HRR
  have H1:=Zh h1
  clear h1 hok
  go_wp2_with fail
  refine HRD.out.mono ?_
  rintro e w2 ⟨rfl,rfl⟩
  go_wp2_with fail
  refine HRR.out.mono ?_
  rintro e w2 ⟨rfl,hb2⟩
  have h2:=H1.out.keep hb2
  have H2:=Zh h2
  clear h2 hb2 H1 HRR HRD x0 x1 x2 l5
  cases ok with
  | false =>
   have HG:=Zh (Zq95 (at':=at') (ts:=ts) (.inl HOK.out.symm))
   have HX3:=Zh (HX2.out.trans (if_pos HG.out))
   go_wp2_with fail
   go_ret
   have e1:=HX3.out
   simp only [Prod.mk.injEq] at e1
   obtain ⟨rfl,rfl⟩:=e1
   exact ⟨I,Hp.sub.refl _,rfl,H2.out.drop⟩
  | true =>
   by_cases ha:at'<0
   ·have HG:=Zh (Zq95 (c:=c) (ts:=ts) (.inr (.inl ha)))
    have HX3:=Zh (HX2.out.trans (if_pos HG.out))
    go_wp2_with fail
    go_ret
    have e1:=HX3.out
    simp only [Prod.mk.injEq] at e1
    obtain ⟨rfl,rfl⟩:=e1
    exact ⟨I,Hp.sub.refl _,rfl,H2.out.drop⟩
   ·by_cases ha2:1099511627776<at'
    ·have HG:=Zh (Zq95 (c:=c) (ts:=ts) (.inr (.inr (.inl ha2))))
     have HX3:=Zh (HX2.out.trans (if_pos HG.out))
     go_wp2_with fail
     go_ret
     have e1:=HX3.out
     simp only [Prod.mk.injEq] at e1
     obtain ⟨rfl,rfl⟩:=e1
     exact ⟨I,Hp.sub.refl _,rfl,H2.out.drop⟩
    ·have HRT:=Zh (Zq475 At ts.length ct ts w2 (HTA.out _ _ H2.out) htn HNC.out)
     obtain ⟨rb,hrb⟩:∃ x,x=Zq43 ts:=⟨_,rfl⟩
     rw [←hrb] at HRT
     have HRB:=Zh hrb
     clear hrb
     go_wp2_with fail
     refine HRT.out.mono ?_
     rintro e w3 ⟨rfl,hb3⟩
     have H3:=Zh (H2.out.keep hb3)
     clear hb3 H2 HRT
     cases rb with
     | false =>
      have HG:=Zh (Zq95 (c:=c) (at':=at') (.inr (.inr (.inr (.inl HRB.out.symm)))))
      have HX3:=Zh (HX2.out.trans (if_pos HG.out))
      go_wp2_with fail
      go_ret
      have e1:=HX3.out
      simp only [Prod.mk.injEq] at e1
      obtain ⟨rfl,rfl⟩:=e1
      exact ⟨I,Hp.sub.refl _,rfl,H3.out.drop⟩
     | true =>
      have HCT:=Zh (Zq503 At ts.length ct ts at' w3 (HTA.out _ _ H3.out) htn HNC.out)
      obtain ⟨cl,hcl⟩:∃ x,x=(Zq36 ts at').length:=⟨_,rfl⟩
      go_wp2_with fail
      refine HCT.out.mono ?_
      rintro e w4 ⟨v4,rfl,ho4,hb4⟩
      obtain ⟨A4,c4,rfl⟩:=Zq17 ho4
      have H4:=Zh (H3.out.keep hb4)
      rw [←hcl]
      have HCL:=Zh hcl
      clear ho4 hb4 H3 HCT hcl
      by_cases hlt:cl<ts.length
      ·have HG:=Zh (Zq95 (c:=c) (.inr (.inr (.inr (.inr (show (Zq36 ts at').length<ts.length by rw [←HCL.out];exact hlt))))))
       have hlt2:(cl:Int)<(ts.length:Int):=by omega
       have HX3:=Zh (HX2.out.trans (if_pos HG.out))
       go_wp2_with fail
       go_ret
       have e1:=HX3.out
       simp only [Prod.mk.injEq] at e1
       obtain ⟨rfl,rfl⟩:=e1
       exact ⟨I,Hp.sub.refl _,rfl,H4.out.drop⟩
      ·have HG:=Zh (show goodM c at' ts=true by
        unfold goodM
        simp only [Bool.and_eq_true,decide_eq_true_eq]
        refine ⟨⟨⟨⟨HOK.out.symm,by omega⟩,by omega⟩,HRB.out.symm⟩,?_⟩
        rw [←HCL.out];omega)
       have hlt2:¬ (cl:Int)<(ts.length:Int):=by omega
       have HX3:=Zh (HX2.out.trans (if_neg (by rw [HG.out];simp)))
       have HNR:=Zh (Zq514 HG.out)
       cases o with
       | some r0 =>
        have HX4:=Zh (HX3.out.trans (if_pos rfl))
        have HLD:=Zh (Zq390 r0 (H4.out.pull 1 _ rfl) HK.out.inv HJ.out)
        go_wp2_with fail
        refine HLD.out.mono ?_
        rintro e w5 ⟨I5,vt5,vc5,s5,rfl,hI5,h5⟩
        obtain ⟨At5,ct5,rfl,_⟩:=hI5.1
        obtain ⟨Ac5,cc5,rfl,_⟩:=hI5.2
        simp only [Rc.cells]
        have H5:=Zh (h5.keep (Zq7 w5 (.cells (r0.cells (.slice At5 r0.tags.length ct5) (.slice Ac5 r0.cls.length cc5)) 105)))
        have S5:=Zh s5
        clear h5 hI5 s5 H4 HLD
        go_wp2_with fail
        go_ret
        have e1:=HX4.out
        simp only [Prod.mk.injEq] at e1
        obtain ⟨rfl,rfl⟩:=e1
        exact ⟨I5,S5.out,rfl,(H5.out.pull 1 _ rfl).drop⟩
       | none =>
        obtain ⟨hw0,hj20,h60⟩:=HMM.out HG.out rfl
        have HW:=Zh hw0
        have HJ2:=Zh hj20
        have HS6:=Zh h60
        clear hw0 hj20 h60
        have HX4:=Zh (HX3.out.trans (if_neg (by simp)))
        have hlne:=HJ.out
        unfold JRec at hlne
        have HLD:=Zh (Zq389 (H4.out.pull 1 _ rfl) HK.out.inv HJ.out)
        obtain ⟨er,her⟩:∃ x,x=(attrS S kJ nmJ).2:=⟨_,rfl⟩
        rw [←her] at HLD hlne
        have hne:(er==0)=false:=by simpa using hlne
        clear her hlne
        go_wp2_with fail
        refine HLD.out.mono ?_
        rintro e w5 ⟨rfl,h5⟩
        simp only [Rc.zeroVal]
        have H5:=Zh ((h5.keep (Zq7 w5 (.cells #[.int .i64 0,.int .i64 0,.int .i64 0,.int .i64 0,.int .i64 0,.slice none 0 0,.slice none 0 0] 105))))
        have HCLR:=Zh (Zq227 (m:=m+4) H5.out HK.out HN.out)
        clear h5 H4 HLD
        have HCK:=Zh (show Keeps (Zq51 S).2 (m+4) from Zq110 HK.out)
        obtain ⟨⟨e6,S6⟩,hcj⟩:∃ x,x=Zq51 S:=⟨_,rfl⟩
        rw [←hcj] at HCLR HX4 HW HJ2 HS6 HCK
        clear hcj
        go_wp2_with fail
        refine HCLR.out.mono ?_
        rintro e w6 ⟨I6,s6,rfl,h6⟩
        have H6:=Zh h6
        have S6':=Zh s6
        clear h6 s6 H5 HCLR
        by_cases he6:e6=0
        ·subst he6
         have HX5:=Zh (HX4.out.trans (if_neg (by simp)))
         have hw6:=HW.out (by first|rfl|trivial)
         have HOWN:=Zh (Zq106 w6)
         go_wp2_with fail
         refine HOWN.out.mono ?_
         rintro e w7 ⟨rfl,hb7⟩
         have h7:=H6.out.keep hb7
         have hsz:=Zq380 kJ h7
         have hkv:kJ.val=.agg #[.int .i64 1,.int .i64 0,.int .i64 0,.int .i64 0]:=rfl
         rw [hkv] at hsz
         obtain ⟨n7,hn7⟩:∃ x,x=lenAt S6 kJ:=⟨_,rfl⟩
         obtain ⟨wy,hwy⟩:∃ x,x=whyS S6 kJ:=⟨_,rfl⟩
         rw [←hn7,←hwy] at hsz
         rw [←hwy] at hw6
         have hwb:(wy != 0)=true:=by simpa using hw6
         have HSZ:=Zh hsz
         have H7:=Zh h7
         clear h7 hsz hn7 hwy hb7 H6 HOWN hkv
         go_wp2_with fail
         refine HSZ.out.mono ?_
         rintro e w8 ⟨hb8,rfl⟩
         have H8:=Zh (H7.out.keep hb8)
         have HOWN:=Zh (Zq106 w8)
         clear hb8 H7 HSZ
         go_wp2_with fail
         refine HOWN.out.mono ?_
         rintro e w9 ⟨rfl,hb9⟩
         have h9:=H8.out.keep hb9
         have hmk:=Zq488 kJ h9 HCK.out
         have hkv:kJ.val=.agg #[.int .i64 1,.int .i64 0,.int .i64 0,.int .i64 0]:=rfl
         rw [hkv] at hmk
         have HMKK:=Zh (show Keeps (makeS S6 kJ).2 (m+2) from Zq224 HCK.out)
         obtain ⟨⟨e10,S10⟩,hmj⟩:∃ x,x=makeS S6 kJ:=⟨_,rfl⟩
         rw [←hmj] at hmk HX5 HJ2 HS6 HMKK
         have HMK:=Zh hmk
         clear h9 hmk hmj hb9 H8 HOWN hkv
         go_wp2_with fail
         refine HMK.out.mono ?_
         rintro e w10 ⟨I10,s10,rfl,h10⟩
         have H10:=Zh h10
         have S10':=Zh (S6'.out.trans s10)
         clear h10 s10 HMK
         by_cases he10:e10=0
         ·subst he10
          have HX6:=Zh (HX5.out.trans (if_neg (by simp)))
          have w1:IntKind.i64.wrap (at'+1)=at'+1:=by rw [IntKind.wrap_i64];omega
          go_upto_region 17 with fail
          have h11:=H10.out.drew
          have HMK5:=Zh (show ∀ (I':Hp) (w':World) (S':Str) (L:List HP),St W I' w' (Zq10 p S'::HP.pt g5 (.cells #[.int .i64 c.splay,.int .i64 c.sets,.int .i64 c.size] 26)::L)→(w'.cell? ⟨g5,0,none⟩=some (.int .i64 c.splay)∧w'.cell? ⟨g5,1,none⟩=some (.int .i64 c.sets)∧w'.cell? ⟨g5,2,none⟩=some (.int .i64 c.size)) from fun I' w' S' L h1=>Zq40 (h1.pull 1 _ rfl))
          obtain ⟨x0,x1,x2⟩:=HMK5.out _ _ _ _ h11
          have HCLN:=Zh (Zq250 At ts.length ct ts w10.drew (by
           obtain ⟨A,c9,e,_,h9⟩:=Zq152 h11 (HT.out.mono S10'.out)
           simp only [Value.slice.injEq] at e
           obtain ⟨rfl,_,_⟩:=e
           exact h9) htn)
          have H11:=Zh h11
          clear h11 H10
          refine Zq8 (fun w'=>w'.cell? ⟨g5,0,none⟩=some (.int .i64 c.splay)∧w'.cell? ⟨g5,1,none⟩=some (.int .i64 c.sets)∧w'.cell? ⟨g5,2,none⟩=some (.int .i64 c.size)) [0,1,2,3,4] [5,6] [7,8] (by kernel_rfl) (by kernel_rfl) (by (exact ⟨x0,x1,x2⟩)) ?_
          simp only [pickL,Zl6,Zl7]
          repeat (refine Zq5 _ (Or.inl ⟨by rfl,by (intro w hSw;(try dsimp only at hSw);go_simp;try with_reducible rfl)⟩) ?_;(try simp only [Act.put,List.setIfInBounds_toArray,Zl4,Zl5]))
          refine Zq9 ?_
          unfold Zq16
          clear x0 x1 x2
          go_wp2_with fail
          refine HCLN.out.mono ?_
          rintro e w12 ⟨v12,rfl,ho12,hb12⟩
          obtain ⟨A12,c12,rfl⟩:=Zq17 ho12
          obtain ⟨I12,s12,hR12,h12⟩:=(H11.out.row_fresh hb12 ho12).freeze_row
          have X12:=Zh (HMK5.out _ _ _ _ h12)
          have hsv:=fun w1 L (h:St W I12 w1 (Zq10 p S10::L))=>Zq391 (newR c at' ts) (.slice A12 ts.length c12) (.slice none 0 0) o2 h HMKK.out HNR.out ⟨hR12,Zq352 _ _⟩ HJ2.out
          simp only [Rc.cells,newR] at hsv
          have HSV:=Zh hsv
          have H12:=Zh h12
          have S12:=Zh (S10'.out.trans s12)
          clear ho12 hb12 hR12 h12 s12 hsv H11 HCLN
          go_wp2_with fail
          refine Zq0 X12.out ?_
          unfold Zq16
          go_wp2_with fail
          refine Zq0 X12.out ?_
          unfold Zq16
          go_wp2_with fail
          refine (HSV.out _ _ H12.out).mono ?_
          rintro e w13 ⟨I13,s13,rfl,h13⟩
          have hs6:=HS6.out
          have e1:(rv,R)=saveJ S10 ⟨c,at'+1,0,ts,[]⟩:=HX6.out
          have hs6:(saveJ S10 ⟨c,at'+1,0,ts,[]⟩).1≠6:=hs6
          rw [←e1] at h13 hs6 ⊢
          have hne6:(rv==6)=false:=by simpa using hs6
          have H13:=Zh h13
          have S13:=Zh (S12.out.trans s13)
          clear h13 s13 e1 hs6 HSV H12
          go_wp2_with fail
          refine NoPanic.normal ?_
          go_wp2_with fail
          go_ret
          exact ⟨I13,S13.out,rfl,(H13.out.pull 1 _ rfl).drop⟩
         ·have HX6:=Zh (HX5.out.trans (if_pos he10))
          have hne10:(e10 != 0)=true:=by simpa using he10
          go_wp2_with fail
          go_ret
          have e1:=HX6.out
          simp only [Prod.mk.injEq] at e1
          obtain ⟨rfl,rfl⟩:=e1
          exact ⟨I10,S10'.out,rfl,(H10.out.pull 1 _ rfl).drop⟩
        ·have HX5:=Zh (HX4.out.trans (if_pos he6))
         have hne6:(e6 != 0)=true:=by simpa using he6
         go_wp2_with fail
         go_ret
         have e1:=HX5.out
         simp only [Prod.mk.injEq] at e1
         obtain ⟨rfl,rfl⟩:=e1
         exact ⟨I6,S6'.out,rfl,(H6.out.pull 1 _ rfl).drop⟩
theorem Zq416 {m:Nat} (h:St W I w (Zq10 p S::l)) (hk:Keeps S 2)
  (hc1:whyS S kJ=0→(dropS S kJ).1=0→(Zq14 (dropS S kJ).2).1=0→Keeps (Zq14 (dropS S kJ).2).2 (m+2*(Zq21 (Zq14 (dropS S kJ).2).2 ⟨2,0⟩).length)∧(Zq18 (Zq14 (dropS S kJ).2).2 ⟨2,0⟩).length≤1000000)
  (hc2:whyS S kJ≠0→Keeps S (m+2*(Zq21 S ⟨2,0⟩).length)∧(Zq18 S ⟨2,0⟩).length≤1000000) :
  Calls Tryz.prog 35 #[.pointer (some ⟨p,0,none⟩)] w fun e w'=>∃ I',I.sub I'∧e=.returned (.int .i64 (wipeJ S).1)∧St W I' w' (Zq10 p (wipeJ S).2::l):=by
 have HX:=Zh (show wipeJ S=if S.on=false then (7,S) else if whyS S kJ=0 then
  (if (dropS S kJ).1≠0 then dropS S kJ else if (Zq14 (dropS S kJ).2).1≠0 then Zq14 (dropS S kJ).2 else Zq51 (Zq14 (dropS S kJ).2).2)
  else Zq51 S from rfl)
 obtain ⟨⟨rv,R⟩,hR⟩:∃ x,x=wipeJ S:=⟨_,rfl⟩
 rw [←hR] at HX ⊢
 have hrd:=Zq127 h
 have HRD:=Zh hrd
 have H1:=Zh h
 have HK:=Zh hk
 have HC1:=Zh hc1
 have HC2:=Zh hc2
 clear h hrd hk hc1 hc2 hR
 by_cases hon:S.on=false
 ·have HX2:=Zh (HX.out.trans (if_pos hon))
  rw [if_pos hon] at HRD
  clear hon
  go_enter Tryz.func35,Tryz.ntmps35
  go_wp2_with fail
  refine HRD.out.mono ?_
  rintro e w1 ⟨rfl,rfl⟩
  go_wp2_with fail
  go_ret
  have e1:=HX2.out
  simp only [Prod.mk.injEq] at e1
  obtain ⟨rfl,rfl⟩:=e1
  exact ⟨I,Hp.sub.refl _,rfl,H1.out⟩
 ·have HX2:=Zh (HX.out.trans (if_neg hon))
  rw [if_neg hon] at HRD
  clear hon
  have hkv:kJ.val=.agg #[.int .i64 1,.int .i64 0,.int .i64 0,.int .i64 0]:=rfl
  have HKV:=Zh hkv
  obtain ⟨n7,hn7⟩:∃ x,x=lenAt S kJ:=⟨_,rfl⟩
  obtain ⟨wy,hwy⟩:∃ x,x=whyS S kJ:=⟨_,rfl⟩
  have HSZ:=Zh (fun w1 L (h:St W I w1 (Zq10 p S::L))=>Zq380 kJ h)
  rw [←hn7,←hwy,HKV.out] at HSZ
  rw [←hwy] at HX2 HC1 HC2
  clear hn7 hwy hkv
  go_enter Tryz.func35,Tryz.ntmps35
  go_wp2_with fail
  refine HRD.out.mono ?_
  rintro e w1 ⟨rfl,rfl⟩
  have HOWN:=Zh (Zq106 w)
  go_wp2_with fail
  refine HOWN.out.mono ?_
  rintro e w2 ⟨rfl,hb2⟩
  have H2:=Zh (H1.out.keep hb2)
  clear hb2 HRD HOWN H1
  go_wp2_with fail
  refine (HSZ.out _ _ H2.out).mono ?_
  rintro e w3 ⟨hb3,rfl⟩
  have H3:=Zh (H2.out.keep hb3)
  have HOWN:=Zh (Zq106 w3)
  clear hb3 HSZ H2
  by_cases hw0:wy=0
  ·subst hw0
   have HX3:=Zh (HX2.out.trans (if_pos rfl))
   have HC:=Zh (HC1.out rfl)
   go_wp2_with fail
   refine HOWN.out.mono ?_
   rintro e w4 ⟨rfl,hb4⟩
   have hdr:=Zq340 kJ (H3.out.keep hb4) HK.out
   have HKD:=Zh (show Keeps (dropS S kJ).2 0 from Zq108 HK.out)
   rw [HKV.out] at hdr
   obtain ⟨⟨e5,S5⟩,hd⟩:∃ x,x=dropS S kJ:=⟨_,rfl⟩
   rw [←hd] at hdr HX3 HC HKD
   have HDR:=Zh hdr
   clear hb4 hd hdr H3 HOWN
   go_wp2_with fail
   refine HDR.out.mono ?_
   rintro e w5 ⟨I5,s5,rfl,h5⟩
   have H5:=Zh h5
   have S5':=Zh s5
   have HBA:=Zh (Zq86 h5 HKD.out)
   clear h5 s5 HDR
   by_cases he5:e5=0
   ·subst he5
    have HX4:=Zh (HX3.out.trans (if_neg (by simp)))
    obtain ⟨⟨e6,S6⟩,hb⟩:∃ x,x=Zq14 S5:=⟨_,rfl⟩
    rw [←hb] at HBA HX4 HC
    clear hb
    go_wp2_with fail
    refine HBA.out.mono ?_
    rintro e w6 ⟨I6,s6,rfl,h6⟩
    have H6:=Zh h6
    have S6':=Zh (S5'.out.trans s6)
    clear h6 s6 HBA
    by_cases he6:e6=0
    ·subst he6
     have e1:(rv,R)=Zq51 S6:=HX4.out.trans (if_neg (by simp))
     have HC0:=HC.out (by first|rfl|trivial) (by first|rfl|trivial)
     have hcl:=Zq227 H6.out HC0.1 HC0.2
     rw [←e1] at hcl
     have HCL:=Zh hcl
     clear e1 HC0 hcl
     go_wp2_with fail
     refine HCL.out.mono ?_
     rintro e w7 ⟨I7,s7,rfl,h7⟩
     have H7:=Zh h7
     have S7':=Zh (S6'.out.trans s7)
     clear h7 s7
     go_wp2_with fail
     go_ret
     exact ⟨I7,S7'.out,rfl,H7.out⟩
    ·have e1:(rv,R)=(e6,S6):=HX4.out.trans (if_pos he6)
     have hne:(e6 != 0)=true:=by simpa using he6
     simp only [Prod.mk.injEq] at e1
     obtain ⟨rfl,rfl⟩:=e1
     go_wp2_with fail
     go_ret
     exact ⟨I6,S6'.out,rfl,H6.out⟩
   ·have e1:(rv,R)=(e5,S5):=HX3.out.trans (if_pos he5)
    have hne:(e5 != 0)=true:=by simpa using he5
    simp only [Prod.mk.injEq] at e1
    obtain ⟨rfl,rfl⟩:=e1
    go_wp2_with fail
    go_ret
    exact ⟨I5,S5'.out,rfl,H5.out⟩
  ·have hne:(wy==0)=false:=by simpa using hw0
   have e1:(rv,R)=Zq51 S:=HX2.out.trans (if_neg hw0)
   have HC0:=HC2.out hw0
   have hcl:=Zq227 H3.out HC0.1 HC0.2
   rw [←e1] at hcl
   have HCL:=Zh hcl
   clear e1 HC0 hcl hw0
   go_wp2_with fail
   refine HCL.out.mono ?_
   rintro e w7 ⟨I7,s7,rfl,h7⟩
   have H7:=Zh h7
   have S7':=Zh s7
   clear h7 s7
   go_wp2_with fail
   go_ret
   exact ⟨I7,S7'.out,rfl,H7.out⟩
end
end Go.Proofs.YtpjchngjhijgmaaGreat
namespace Go.Proofs.YtpjchngjhijgmaaGreat
open Go.RowKit
inductive Tp where
 | leaf:Tp
 | one:Nat→Tp→Tp
 | two:Nat→Tp→Nat→Tp→Tp
 | pull:List Nat→Tp→Tp
def Tp.size:Tp→Nat
 | .leaf=>0
 | .one _ t=>t.size+1
 | .two _ t _ _=>t.size+1
 | .pull ks t=>ks.length+t.size
section
variable {P : Program} {md : Region.Mode} {w : World}
variable {Q : Exit → Act → World → Prop} {S : World → Prop} {N : Nat → Bool}
def wpTp (P:Program) (l:List Oper) (S:World→Prop) (Q:Exit→Act→World→Prop) (T:Act→World→Prop):Tp→Act→World→Prop
 | .leaf,a,w=>T a w
 | .one i t,a,w=>wpList P l.toArray (Zq88 S Q (wpTp P l S Q T t)) (pickL l [i]) a w
 | .two i t j u,a,w=>wpList P l.toArray (Zq88 S Q (wpTp P l S Q T t)) (pickL l [i]) a w∧wpList P l.toArray (Zq88 S Q (wpTp P l S Q T u)) (pickL l [j]) a w
 | .pull ks t,a,w=>Zq163 P l.toArray S (fun a1=>wpTp P l S Q T t a1 w) (pickL l ks) a
def Zq789 (md:Region.Mode) (l:List Oper) (k t:Nat):Bool:=match l[t]? with
 | some o=>o.after.any fun e=>Region.binds md e&&e.on==k
 | none=>false
def pullB (md:Region.Mode) (l:List Oper) (N:Nat→Bool) (ks:List Nat):Bool:=(List.range l.length).all fun t=>N t||ks.all fun k=>Zq789 md l k t||reaches md l.toArray k l.length t
def tpB (md:Region.Mode) (l:List Oper) (N:Nat→Bool) (tail:List Nat):Tp→Array Bool→Bool
 | .leaf,listed=>tailB md l.toArray tail listed
 | .one i t,listed=>decide (Region.ready md l.toArray listed=[i])&&tpB md l N tail t (listed.setIfInBounds i true)
 | .two i t j u,listed=>(decide (Region.ready md l.toArray listed=[i,j])&&decide (t.size=u.size))&&(tpB md l N tail t (listed.setIfInBounds i true)&&tpB md l N tail u (listed.setIfInBounds j true))
 | .pull ks t,listed=>(Zq97 md l.toArray ks listed&&pullB md l N ks)&&tpB md l N tail t (Zq27 ks listed)
theorem Zq743 {l:List Oper} {ks:List Nat} (h:pullB md l N ks=true):∀ k ∈ ks,∀ listed,ShutDown md l.toArray listed→listed.getD k true=false→∀ j ∈ Region.ready md l.toArray listed,N j=true:=by
 intro k hk listed hsd hun j hj
 simp only [pullB,List.all_eq_true,List.mem_range] at h
 obtain ⟨_,o,ho,hall⟩:=mem_ready.1 hj
 have h2:=h j (by simpa using (Array.getElem?_eq_some_iff.1 ho).1)
 rw [Bool.or_eq_true] at h2
 rcases h2 with h2|h2
 ·exact h2
 ·have h3:=List.all_eq_true.1 h2 k hk
  rw [Bool.or_eq_true] at h3
  have h4:listed.getD k false=true:=by
   rcases h3 with h3|h3
   ·unfold Zq789 at h3
    rw [show l[j]?=some o by simpa using ho] at h3
    obtain ⟨e,he,hb⟩:=Array.any_eq_true'.1 h3
    rw [Bool.and_eq_true,beq_iff_eq] at hb
    rw [←hb.2]
    exact hall e he hb.1
   ·exact Zq58 hsd _ j (fun o' ho' e he' hb=>by rw [ho] at ho';cases ho';exact hall e he' hb) h3
  rw [Zq34 hun] at h4;cases h4
theorem Zq213 {l:List Oper} {tail:List Nat} (hsel:Region.noSelect l.toArray=true) (hQ:∀ c (a:Act) d v w,Q (.panic c) (a.put d v) w→Q (.panic c) a w):∀ (t:Tp) (listed:Array Bool) (a:Act) (w:World),(∀ k ∈ tail,N k=false)→ShutDown md l.toArray listed→S w→tpB md l N tail t listed=true →
  wpTp P l S Q (wpList P l.toArray Q (pickL l tail)) t a w→Zq191 P md l.toArray Q S N (t.size+tail.length) listed a w
 | .leaf,listed,a,w,hN,_,_,hB,h=>by
  rw [Tp.size,Nat.zero_add]
  exact Zq220 tail listed a w hN hB h
 | .one k t,listed,a,w,hN,hs,_,hB,h=>by
  simp only [tpB,Bool.and_eq_true,decide_eq_true_eq] at hB
  rw [Tp.size,show t.size+1+tail.length=(t.size+tail.length)+1 by omega]
  refine ⟨fun h1=>(by rw [hB.1] at h1;cases h1),fun i hi=>?_⟩
  have hi':=hi
  rw [hB.1] at hi'
  obtain rfl:i=k:=by simpa using hi'
  obtain ⟨o,ho⟩:=Zq73 hi
  have ho':l[i]?=some o:=by simpa using ho
  have e:pickL l [i]=[o]:=by simp [pickL,ho']
  unfold wpTp at h
  rw [e] at h
  exact wpOp_mono (fun a' w' h'=>⟨fun _=>h'.1,Zq213 hsel hQ t _ a' w' hN (hs.next hi) h'.1 hB.2 h'.2⟩) (Zq59 ho h)
 | .two k t k2 u,listed,a,w,hN,hs,_,hB,h=>by
  simp only [tpB,Bool.and_eq_true,decide_eq_true_eq] at hB
  obtain ⟨⟨hr,hsz⟩,hB1,hB2⟩:=hB
  rw [Tp.size,show t.size+1+tail.length=(t.size+tail.length)+1 by omega]
  refine ⟨fun h1=>(by rw [hr] at h1;cases h1),fun i hi=>?_⟩
  have hi':=hi
  rw [hr] at hi'
  obtain ⟨o,ho⟩:=Zq73 hi
  have ho':l[i]?=some o:=by simpa using ho
  have e:pickL l [i]=[o]:=by simp [pickL,ho']
  unfold wpTp at h
  rcases (by simpa using hi':i=k∨i=k2) with rfl|rfl
  ·have h1:=h.1
   rw [e] at h1
   exact wpOp_mono (fun a' w' h'=>⟨fun _=>h'.1,Zq213 hsel hQ t _ a' w' hN (hs.next hi) h'.1 hB1 h'.2⟩) (Zq59 ho h1)
  ·have h1:=h.2
   rw [e] at h1
   rw [hsz]
   exact wpOp_mono (fun a' w' h'=>⟨fun _=>h'.1,Zq213 hsel hQ u _ a' w' hN (hs.next hi) h'.1 hB2 h'.2⟩) (Zq59 ho h1)
 | .pull ks t,listed,a,w,hN,hs,hS,hB,h=>by
  simp only [tpB,Bool.and_eq_true] at hB
  obtain ⟨⟨he,hp⟩,hB⟩:=hB
  rw [Tp.size,Nat.add_assoc]
  exact Zq137 hsel hQ hS ks listed a (Zq743 hp) hs he (fun a1 h1=>Zq213 hsel hQ t _ a1 w hN (Zq180 ks _ he hs) hS hB h1) h
def Zq886 (md:Region.Mode) (l:List Oper) (hold:List Nat) (t:Tp) (tail:List Nat):Bool :=
 Region.noSelect l.toArray&&tpB md l (fun t=>hold.contains t) tail t (Array.replicate l.length false)&&decide (t.size+tail.length=l.length)&&tail.all (fun t=>!hold.contains t)
theorem Zq179 {id:Nat} {Q:Exit→Act→World→Prop} {a:Act} {l:List Oper} (S:World→Prop) (hold:List Nat) (t:Tp) (tail:List Nat) (hm:P.follows .mixedOrders=true) (hB:Zq886 .any l hold t tail=true) (hS:S w.drew)
  (h:wpTp P l S (NoPanic Q) (wpList P l.toArray (NoPanic Q) (pickL l tail)) t a w.drew):(Code.region id l.toArray true).wp P Q a w:=by
 refine wp_region_noPanic ?_
 simp only [Zq886,Bool.and_eq_true,decide_eq_true_eq] at hB
 obtain ⟨⟨⟨hsel,ht⟩,hn⟩,htl⟩:=hB
 refine wp_region_any hm (Zq195 (S:=S) (N:=fun t=>hold.contains t) _ _ _ _ ?_)
 change Zq191 P .any l.toArray _ _ _ l.toArray.size _ a w.drew
 have hsz:l.toArray.size=t.size+tail.length:=by rw [hn];simp
 have hrep:Array.replicate l.toArray.size false=Array.replicate l.length false:=by simp
 rw [hrep,hsz]
 exact Zq213 hsel (fun _ _ _ _ _ h=>h) t _ a _ (fun k hk=>by
  have:=List.all_eq_true.1 htl k hk
  simpa using this) (ShutDown.start _) hS ht h
end
end Go.Proofs.YtpjchngjhijgmaaGreat
