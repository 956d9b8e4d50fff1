import Derived.Test.YtpjchngjhijgmaaGreatJM21
import Derived.Test.YtpjchngjhijgmaaGreatJM22
set_option linter.all false
namespace Go.Proofs.YtpjchngjhijgmaaGreat
open Go.RowKit
def kJ:K4:=⟨1,0,0,0⟩
def nmJ:ByteArray:=⟨#[106]⟩
def JRec (S:Str):Option Rc→Prop
 | none=>(attrS S kJ nmJ).2≠0
 | some r=>r.Ok∧attrS S kJ nmJ=(recB r,0)
def saveJ (S:Str) (r:Rc):Int × Str :=
 if attrS S kJ nmJ=(recB r,0) then Zq14 S
 else if (setS S kJ nmJ (recB r)).1≠0 then setS S kJ nmJ (recB r) else Zq14 (setS S kJ nmJ (recB r)).2
def Zq246:List K4→Str→Int × Str
 | [],S=>Zq14 S
 | k::ks,S=>if (dropS S k).1≠0 then dropS S k else Zq246 ks (dropS S k).2
def Zq51 (S:Str):Int × Str:=Zq246 (Zq21 S ⟨2,0⟩) S
theorem Zq302 (k:K4) (ks:List K4) (S:Str):Zq246 (k::ks) S=if (dropS S k).1≠0 then dropS S k else Zq246 ks (dropS S k).2:=rfl
theorem Zq110:∀ {ks:List K4} {S:Str} {m:Nat},Keeps S (m+2*ks.length)→Keeps (Zq246 ks S).2 m
 | [],S,m,h=>Zq76 (by simpa using h)
 | k::ks,S,m,h=>by
  have h1:Keeps (dropS S k).2 (m+2*ks.length):=Zq108 (by simpa [Nat.mul_add,Nat.add_assoc] using h)
  unfold Zq246
  split
  ·exact h1.fewer (by omega)
  ·exact Zq110 h1
theorem Zq303 {S:Str} {r:Rc} {m:Nat} (h:Keeps S (m+2)):Keeps (saveJ S r).2 m:=by
 have h1:Keeps (setS S kJ nmJ (recB r)).2 m:=Zq382 h
 unfold saveJ
 split
 ·exact Zq76 (h.fewer (by omega))
 ·split
  ·exact h1
  ·exact Zq76 h1
section
variable {W w : World} {I : Hp} {l : List HP} {p : Nat} {S : Str}
set_option maxRecDepth 4000
set_option maxHeartbeats 8000000
theorem Zq106 (w:World):Calls Tryz.prog 92 #[] w fun e w'=>e=.returned (.agg #[.int .i64 1,.int .i64 0,.int .i64 0,.int .i64 0])∧Below w.heap.size w w':=by
 go_enter Tryz.func92,Tryz.ntmps92
 go_wp2
 exact bodyPost_ret (v:=.agg #[.int .i64 1,.int .i64 0,.int .i64 0,.int .i64 0]) (by simp [results,Tryz.results92,go_sem]) rfl ⟨rfl,Zq7 _ _⟩
theorem Zq639 (w:World):Calls Tryz.prog 82 #[.pointer none] w fun e w'=>e=.returned (.int .i64 1)∧w=w':=by
 go_enter Tryz.func82,Tryz.ntmps82
 go_wp2
 go_ret
 exact ⟨rfl,rfl⟩
theorem Zq127 (h:St W I w (Zq10 p S::l)):Calls Tryz.prog 82 #[.pointer (some ⟨p,0,none⟩)] w fun e w'=>e=.returned (.int .i64 (if S.on=false then 7 else 0))∧w=w':=by
 have H:=Zh h
 clear h
 cases ho:S.on with
 | false =>
  go_enter Tryz.func82,Tryz.ntmps82
  go_wp2_with fail
  refine (Zq617 H.out).mono ?_
  rw [ho]
  rintro e w1 ⟨rfl,rfl⟩
  go_wp2_with fail
  go_ret
  exact ⟨rfl,rfl⟩
 | true =>
  go_enter Tryz.func82,Tryz.ntmps82
  go_wp2_with fail
  refine (Zq617 H.out).mono ?_
  rw [ho]
  rintro e w1 ⟨rfl,rfl⟩
  go_wp2_with fail
  go_ret
  exact ⟨rfl,rfl⟩
theorem Zq389 {m:Nat} (h:St W I w (Zq10 p S::l)) (hk:Inv S m) (hj:JRec S none) :
  Calls Tryz.prog 83 #[.pointer (some ⟨p,0,none⟩)] w fun e w'=>e=.returned (.tuple #[Rc.zeroVal,.int .i64 (attrS S kJ nmJ).2])∧St W I w' (Zq10 p S::l):=by
 have h0:=(h.alloc (.cells #[.int .i64 0,.int .i64 0,.int .i64 0,.int .i64 0,.int .i64 0,.slice none 0 0,.slice none 0 0] 105)).pull 1 _ rfl
 simp only [Zl0,Zl1] at h0
 have H0:=Zh h0
 have HK:=Zh hk
 obtain ⟨er,her⟩:∃ er,(attrS S kJ nmJ).2=er:=⟨_,rfl⟩
 unfold JRec at hj
 rw [her] at hj ⊢
 have HER:=Zh her
 have hne:(er != 0)=true:=by simpa using hj
 clear h h0 hk her
 go_enter Tryz.func83,Tryz.ntmps83
 go_wp2_with fail
 refine (Zq106 _).mono ?_
 rintro e w1 ⟨rfl,hb1⟩
 have h1:=H0.out.keep hb1
 have hat:=Zq342 kJ nmJ h1 HK.out
 rw [HER.out] at hat
 simp only [K4.val,kJ,nmJ] at hat
 have HAT:=Zh hat
 have H1:=Zh h1
 clear hat h1 hb1
 go_wp2_with fail
 refine HAT.out.mono ?_
 rintro e w2 ⟨hb2,v2,rfl,ho2⟩
 have h2:=H1.out.keep hb2
 obtain ⟨x0,x1,x2,x3,x4,x5,x6⟩:=Zq105 (h2.pull 1 _ rfl)
 have f:=frozen_of_row (h2.pull 1 _ rfl).heap
 have H2:=Zh ((h2.pull 1 _ rfl).set7 (.int .i64 0) (.int .i64 0) (.int .i64 0) (.int .i64 0) (.int .i64 0) (.slice none 0 0) (.slice none 0 0))
 clear hb2 ho2 h2
 go_wp2_with fail
 have h2:=H2.out
 generalize (World.setCell _ _ _:World)=w3 at h2 ⊢
 clear x0 x1 x2 x3 x4 x5 x6
 obtain ⟨x0,x1,x2,x3,x4,x5,x6⟩:=Zq105 h2
 refine bodyPost_ret (v:=.tuple #[Rc.zeroVal,.int .i64 er]) (by simp [results,Tryz.results83,go_sem,x0,x1,x2,x3,x4,x5,x6,Rc.zeroVal]) rfl ?_
 exact ⟨rfl,h2.drop⟩
theorem Zq390 (r:Rc) {m:Nat} (h:St W I w (Zq10 p S::l)) (hk:Inv S m) (hj:JRec S (some r)) :
  Calls Tryz.prog 83 #[.pointer (some ⟨p,0,none⟩)] w fun e w'=>∃ I' vt vc,I.sub I'∧e=.returned (.tuple #[.agg (r.cells vt vc),.int .i64 0])∧recI I' r vt vc∧St W I' w' (Zq10 p S::l):=by
 have h0:=(h.alloc (.cells #[.int .i64 0,.int .i64 0,.int .i64 0,.int .i64 0,.int .i64 0,.slice none 0 0,.slice none 0 0] 105)).pull 1 _ rfl
 simp only [Zl0,Zl1] at h0
 have H0:=Zh h0
 have HK:=Zh hk
 have HJ:=Zh hj
 obtain ⟨R,hR⟩:∃ R,recB r=R:=⟨_,rfl⟩
 have HR:=Zh hR
 have e0:=hj.2
 rw [hR] at e0
 have HE:=Zh e0
 clear h h0 hk hj hR e0
 go_enter Tryz.func83,Tryz.ntmps83
 go_wp2_with fail
 refine (Zq106 _).mono ?_
 rintro e w1 ⟨rfl,hb1⟩
 have h1:=H0.out.keep hb1
 have hat:=Zq342 kJ nmJ h1 HK.out
 rw [HE.out] at hat
 simp only [K4.val,kJ,nmJ] at hat
 have HAT:=Zh hat
 have H1:=Zh h1
 clear hat h1 hb1
 go_wp2_with fail
 refine HAT.out.mono ?_
 rintro e w2 ⟨hb2,v2,rfl,ho2⟩
 obtain ⟨I2,hs2,hB2,h2⟩:=Zq31 H1.out hb2 ho2
 have hg:=Zq865 v2 r h2 (by rw [HR.out];exact hB2) HJ.out.1
 obtain ⟨A2,c2,rfl⟩:=BytesI.isSl hB2
 have HG:=Zh hg
 have HS2:=Zh hs2
 clear hb2 ho2 h2 hB2 hg hs2
 go_wp2_with fail
 refine HG.out.mono ?_
 rintro e w3 ⟨I3,vt,vc,hs3,rfl,hrI,h3⟩
 obtain ⟨⟨a,b,sz⟩,fi,st,tags,cls⟩:=r
 simp only [Rc.cells]
 obtain ⟨At,ct,hvt,_⟩:=hrI.1
 obtain ⟨Ac,cc,hvc,_⟩:=hrI.2
 simp only at hvt hvc
 subst hvt hvc
 have h4:=h3.alloc (.cells #[.int .i64 a,.int .i64 b,.int .i64 sz,.int .i64 fi,.int .i64 st,.slice At tags.length ct,.slice Ac cls.length cc] 105)
 have h5:=h4.pull 2 _ rfl
 simp only [Zl0,Zl1] at h5
 have lt3:=(h3.pull 1 _ rfl).lt
 obtain ⟨x0,x1,x2,x3,x4,x5,x6⟩:=Zq105 (h3.pull 1 _ rfl)
 have f:=frozen_of_row (h3.pull 1 _ rfl).heap
 have H6:=Zh (((h3.pull 1 _ rfl).set7 (.int .i64 a) (.int .i64 b) (.int .i64 sz) (.int .i64 fi) (.int .i64 st) (.slice At tags.length ct) (.slice Ac cls.length cc)).alloc (.cells #[.int .i64 a,.int .i64 b,.int .i64 sz,.int .i64 fi,.int .i64 st,.slice At tags.length ct,.slice Ac cls.length cc] 105))
 have HI:=Zh hrI
 have HS3:=Zh (HS2.out.trans hs3)
 clear h3 h4 h5 hs3 hrI
 go_wp2_with fail
 have h6:=H6.out
 generalize (World.alloc _ _:World)=w6 at h6 ⊢
 clear x0 x1 x2 x3 x4 x5 x6
 have h7:=h6.drop
 obtain ⟨x0,x1,x2,x3,x4,x5,x6⟩:=Zq105 h7
 refine bodyPost_ret (v:=.tuple #[.agg #[.int .i64 a,.int .i64 b,.int .i64 sz,.int .i64 fi,.int .i64 st,.slice At tags.length ct,.slice Ac cls.length cc],.int .i64 0]) (by simp [results,Tryz.results83,go_sem,x0,x1,x2,x3,x4,x5,x6]) rfl ?_
 exact ⟨_,HS3.out,_,_,rfl,HI.out,h7.drop⟩
theorem Zq391 (r:Rc) (vt vc:Value) (o:Option Rc) {m:Nat} (h:St W I w (Zq10 p S::l)) (hk:Keeps S (m+2)) (hr:r.Ok) (hI:recI I r vt vc) (hj:JRec S o) :
  Calls Tryz.prog 93 #[.pointer (some ⟨p,0,none⟩),.agg (r.cells vt vc)] w fun e w'=>∃ I',I.sub I'∧e=.returned (.int .i64 (saveJ S r).1)∧St W I' w' (Zq10 p (saveJ S r).2::l):=by
 obtain ⟨R,hR⟩:∃ R,recB r=R:=⟨_,rfl⟩
 have hX:saveJ S r=if attrS S kJ nmJ=(R,0) then Zq14 S else if (setS S kJ nmJ R).1≠0 then setS S kJ nmJ R else Zq14 (setS S kJ nmJ R).2:=by unfold saveJ;rw [hR]
 have HX:=Zh hX
 have HR:=Zh hR
 have hRl:=Zq126 hr
 have hRb:=Zq273 hr
 rw [hR] at hRl hRb
 have HRB:=Zh hRb
 have HOK:=Zh hr
 obtain ⟨⟨A,er⟩,hat⟩:∃ x,attrS S kJ nmJ=x:=⟨_,rfl⟩
 have hab:er=0→(∀ x ∈ A,isByte x):=by
  intro h0
  cases o with
  | none=>unfold JRec at hj;rw [hat] at hj;exact absurd h0 hj
  | some r0 =>
   have h1:=hj.2
   rw [hat] at h1
   simp only [Prod.mk.injEq] at h1
   rw [h1.1]
   exact Zq273 hj.1
 have HAB:=Zh hab
 have HAT:=Zh hat
 rw [hat] at HX
 have HK:=Zh hk
 obtain ⟨S2,hs2e⟩:∃ x,setS S kJ nmJ R=x:=⟨_,rfl⟩
 have hks:Keeps S2.2 m:=by rw [←hs2e];exact Zq382 hk
 have HKS:=Zh hks
 have HSE:=Zh hs2e
 rw [hs2e] at HX
 obtain ⟨e2,S2⟩:=S2
 have hput:=Zq863 r vt vc (h.alloc (.cells (r.cells vt vc) 105)) hr ((recI.mono (Hp.sub.refl _) hI))
 have HP:=Zh hput
 have H0:=Zh (h.alloc (.cells (r.cells vt vc) 105))
 obtain ⟨⟨a,b,sz⟩,fi,st,tags,cls⟩:=r
 obtain ⟨At,ct,hvt,_⟩:=hI.1
 obtain ⟨Ac,cc,hvc,_⟩:=hI.2
 simp only at hvt hvc
 subst hvt hvc
 simp only [Rc.cells] at HP H0 ⊢
 clear h hk hr hI hj hab hat hX hR hRb hks hs2e hput
 go_enter Tryz.func93,Tryz.ntmps93
 go_wp2_with fail
 refine HP.out.mono ?_
 rintro e w1 ⟨A1,c1,q,rfl,hq,hb1,ho1⟩
 rw [HR.out] at hq
 subst hq
 obtain ⟨I1,hs1,hB1,h1⟩:=Zq31 H0.out hb1 ho1
 have HB1:=Zh hB1
 have HS1:=Zh hs1
 have H1:=Zh h1.drop
 clear hs1 hB1 h1 hb1 ho1
 go_wp2_with fail
 refine (Zq106 _).mono ?_
 rintro e w2 ⟨rfl,hb2⟩
 have h2:=H1.out.keep hb2
 have hat:=Zq342 kJ nmJ h2 HK.out.inv
 rw [HAT.out] at hat
 simp only [K4.val,kJ,nmJ] at hat
 have HATS:=Zh hat
 have H2:=Zh h2
 clear hat h2 hb2
 go_wp2_with fail
 refine HATS.out.mono ?_
 rintro e w3 ⟨hb3,v3,rfl,ho3⟩
 obtain ⟨A3,c3,rfl⟩:=Zq17 ho3
 have h3:=H2.out.keep hb3
 have H3:=Zh h3
 have HO3:=Zh (SliceSrc.of_owns ho3 (Zq64 A))
 have HB3:=Zh hb3
 clear h3 ho3 hb3
 -- the two ways on
 have way:∀ (w:World),St W I1 w (Zq10 p S::l)→Calls Tryz.prog 151 #[.pointer (some ⟨p,0,none⟩),.agg #[.int .i64 1,.int .i64 0,.int .i64 0,.int .i64 0],.string ⟨#[106]⟩,.slice A1 q.length c1] w fun e w'=>∃ I',I1.sub I'∧e=.returned (.int .i64 e2)∧St W I' w' (Zq10 p S2::l):=fun w h=>by
  have:=Zq809 kJ nmJ (.slice A1 q.length c1) q h HK.out (Zq29 h HB1.out) (by omega)
  rw [HSE.out] at this
  exact this
 have WAY:=Zh way
 clear way
 by_cases her:er=0
 ·subst her
  have heq:=Zq170 (.slice A3 A.length c3) (.slice A1 q.length c1) A q w3 HO3.out (Zq29 H3.out HB1.out) (HAB.out rfl) HRB.out
  obtain ⟨bq,hbq⟩:∃ b,decide (A=q)=b:=⟨_,rfl⟩
  rw [hbq] at heq
  have HEQ:=Zh heq
  have HBQ:=Zh hbq
  clear heq hbq
  go_wp2_with fail
  refine HEQ.out.mono ?_
  rintro e w4 ⟨rfl,rfl⟩
  cases bq with
  | true =>
   have HX1:=Zh (HX.out.trans (if_pos (by rw [of_decide_eq_true HBQ.out])))
   have hba:=Zq86 H3.out (HK.out.fewer (show m≤m+2 by omega))
   have HBA:=Zh hba
   clear hba
   go_wp2_with fail
   refine HBA.out.mono ?_
   rintro e w7 ⟨I7,hs7,rfl,h7⟩
   have H7:=Zh h7
   have HS7:=Zh (HS1.out.trans hs7)
   clear h7 hs7
   go_wp2_with fail
   go_ret
   rw [HX1.out]
   exact ⟨I7,HS7.out,rfl,H7.out⟩
  | false =>
   have HX1:=Zh (HX.out.trans (if_neg (fun h=>of_decide_eq_false HBQ.out (by simpa using h))))
   go_wp2_with fail
   refine (Zq106 _).mono ?_
   rintro e w5 ⟨rfl,hb5⟩
   have HW:=Zh (WAY.out w5 (H3.out.keep hb5))
   clear hb5
   go_wp2_with fail
   refine HW.out.mono ?_
   rintro e w6 ⟨I6,hs6,rfl,h6⟩
   by_cases he2:e2=0
   ·subst he2
    have HX2:=Zh (HX1.out.trans (if_neg (by simp)))
    have hba:=Zq86 h6 HKS.out
    have HBA:=Zh hba
    have HS6:=Zh (HS1.out.trans hs6)
    clear h6 hba hs6
    go_wp2_with fail
    refine HBA.out.mono ?_
    rintro e w7 ⟨I7,hs7,rfl,h7⟩
    have H7:=Zh h7
    have HS7:=Zh (HS6.out.trans hs7)
    clear h7 hs7
    go_wp2_with fail
    go_ret
    rw [HX2.out]
    exact ⟨I7,HS7.out,rfl,H7.out⟩
   ·have hne:(e2 != 0)=true:=by simpa using he2
    have HX2:=Zh (HX1.out.trans (if_pos he2))
    have H6:=Zh h6
    have HS6:=Zh (HS1.out.trans hs6)
    clear h6 hs6
    go_wp2_with fail
    go_ret
    rw [HX2.out]
    exact ⟨I6,HS6.out,rfl,H6.out⟩
 ·have hne0:(er==0)=false:=by simpa using her
  have HX1:=Zh (HX.out.trans (if_neg (fun h=>her (by simpa using (congrArg Prod.snd h)))))
  go_wp2_with fail
  refine (Zq106 _).mono ?_
  rintro e w5 ⟨rfl,hb5⟩
  have HW:=Zh (WAY.out w5 (H3.out.keep hb5))
  clear hb5
  go_wp2_with fail
  refine HW.out.mono ?_
  rintro e w6 ⟨I6,hs6,rfl,h6⟩
  by_cases he2:e2=0
  ·subst he2
   have HX2:=Zh (HX1.out.trans (if_neg (by simp)))
   have hba:=Zq86 h6 HKS.out
   have HBA:=Zh hba
   have HS6:=Zh (HS1.out.trans hs6)
   clear h6 hba hs6
   go_wp2_with fail
   refine HBA.out.mono ?_
   rintro e w7 ⟨I7,hs7,rfl,h7⟩
   have H7:=Zh h7
   have HS7:=Zh (HS6.out.trans hs7)
   clear h7 hs7
   go_wp2_with fail
   go_ret
   rw [HX2.out]
   exact ⟨I7,HS7.out,rfl,H7.out⟩
  ·have hne:(e2 != 0)=true:=by simpa using he2
   have HX2:=Zh (HX1.out.trans (if_pos he2))
   have H6:=Zh h6
   have HS6:=Zh (HS1.out.trans hs6)
   clear h6 hs6
   go_wp2_with fail
   go_ret
   rw [HX2.out]
   exact ⟨I6,HS6.out,rfl,H6.out⟩
theorem Zq227 {m:Nat} (h:St W I w (Zq10 p S::l)) (hk:Keeps S (m+2*(Zq21 S ⟨2,0⟩).length)) (hn:(Zq18 S ⟨2,0⟩).length≤1000000) :
  Calls Tryz.prog 91 #[.pointer (some ⟨p,0,none⟩)] w fun e w'=>∃ I',I.sub I'∧e=.returned (.int .i64 (Zq51 S).1)∧St W I' w' (Zq10 p (Zq51 S).2::l):=by
 have hks:=Zq618 2 0 h hn
 obtain ⟨ks,hke⟩:∃ ks,Zq21 S ⟨2,0⟩=ks:=⟨_,rfl⟩
 have HX:=Zh (show Zq51 S=Zq246 ks S by unfold Zq51;rw [hke])
 rw [hke] at hks hk
 have HKS:=Zh hks
 have HK:=Zh hk
 have H:=Zh h
 have hkl:ks.length≤1000000:=by
  rw [←hke]
  unfold Zq21
  split
  ·exact hn
  ·simp
 clear h hk hks hke hn
 go_enter Tryz.func91,Tryz.ntmps91
 go_wp2_with fail
 refine HKS.out.mono ?_
 rintro e w1 ⟨v1,rfl,hb1,ho1⟩
 obtain ⟨A1,c1,rfl⟩:=Zq17 ho1
 obtain ⟨I1,hs1,hR1,h1⟩:=(H.out.row_fresh hb1 ho1).freeze_row
 have HR1:=Zh hR1
 have H1:=Zh h1
 have HS1:=Zh hs1
 clear hb1 ho1 hR1 h1 hs1
 go_wp2_with fail
 go_loopw [9] (fun a9 wr=>∃ (i:Nat) (S':Str) (I':Hp),a9=.int .i64 i∧i≤ks.length∧Zq246 ks S=Zq246 (ks.drop i) S'∧Keeps S' (m+2*(ks.length - i))∧I1.sub I'∧St W I' wr (Zq10 p S'::l)) (fun a9 _=>ks.length - (intOf a9).toNat)
 case atStart=>exact ⟨0,S,I1,rfl,Nat.zero_le _,rfl,by simpa using HK.out,Hp.sub.refl _,H1.out⟩
 case round =>
  obtain ⟨i,S',I',rfl,hi,hcl,hk',hsub,hst⟩:=hrel
  by_cases hlt:i<ks.length
  ·have d0:decide ((i:Int)<(ks.length:Int))=true:=by rw [decide_eq_true_eq];omega
   obtain ⟨k,hkk⟩:∃ k,ks[i]?=some k:=⟨_,List.getElem?_eq_getElem hlt⟩
   have hR:=HR1.out.mono hsub
   obtain ⟨b,off,e1,hc⟩:=Zq115 (i:=i) (mk:=K4.vals) (k:=4) hR (Hp.sub.refl _) hst (fun _=>rfl) hkk
   simp only [Value.slice.injEq,and_true,true_and] at e1
   subst e1
   have y0:=hc 0 (by omega)
   have y1:=hc 1 (by omega)
   have y2:=hc 2 (by omega)
   have y3:=hc 3 (by omega)
   have hdr:ks.drop i=k::ks.drop (i+1):=by
    obtain ⟨hil,he⟩:=List.getElem?_eq_some_iff.1 hkk
    rw [←he,←List.drop_eq_getElem_cons hil]
   rw [hdr] at hcl
   have h2:=hst.keep (Zq7 wr (.cells #[.int .i64 k.kind,.int .i64 k.img,.int .i64 k.num,.int .i64 k.snap] 43))
   have hk2:Keeps S' ((m+2*(ks.length - (i+1)))+2):=by
    rw [show m+2*(ks.length - (i+1))+2=m+2*(ks.length - i) by omega]
    exact hk'
   have hd:=Zq340 k h2 hk2
   have hkd:=Zq108 (k:=k) hk2
   obtain ⟨k0,k1,k2,k3⟩:=k
   simp only [K4.vals,Zl6,Zl7,Nat.add_zero] at y0 y1 y2 y3
   simp only [K4.val] at hd
   obtain ⟨⟨e2,S2⟩,hds⟩:∃ x,dropS S' ⟨k0,k1,k2,k3⟩=x:=⟨_,rfl⟩
   have hcl2:Zq246 ks S=if e2≠0 then (e2,S2) else Zq246 (ks.drop (i+1)) S2:=by rw [hcl,Zq302,hds]
   rw [hds] at hd hkd
   have HD:=Zh hd
   have HKD:=Zh hkd
   have HCL:=Zh hcl2
   have HSUB:=Zh hsub
   have hin:(i:Int)<(ks.length:Int):=by omega
   clear hc hkk hR hdr hcl hcl2 h2 hk2 hd hkd hds hk' hsub hst
   go_wp2_with fail
   refine HD.out.mono ?_
   rintro e w3 ⟨I3,hs3,rfl,h3⟩
   have H3:=Zh h3
   have HS3:=Zh (HSUB.out.trans hs3)
   clear h3 hs3
   by_cases he2:e2=0
   ·subst he2
    have HC2:=Zh (HCL.out.trans (if_neg (by simp)))
    go_wp2_with fail
    go_roundw
    case rel=>exact ⟨i+1,S2,I3,by go_num,by omega,HC2.out,HKD.out,HS3.out,H3.out⟩
    case measure=>first|(simp [intOf];done)|(simp [intOf];omega)|fail
   ·have hne:(e2 != 0)=true:=by simpa using he2
    have HC2:=Zh (HX.out.trans (HCL.out.trans (if_pos he2)))
    go_wp2_with fail
    go_ret
    rw [HC2.out]
    exact ⟨I3,HS1.out.trans HS3.out,rfl,H3.out⟩
  ·obtain rfl:i=ks.length:=by omega
   have d0:decide (((ks.length:Nat):Int)<(ks.length:Int))=false:=by rw [decide_eq_false_iff_not];omega
   rw [List.drop_length] at hcl
   have HCL:=Zh (HX.out.trans hcl)
   have hba:=Zq86 hst (hk'.fewer (show m≤m+2*(ks.length - ks.length) by omega))
   have HBA:=Zh hba
   have HSUB:=Zh hsub
   clear hba hcl hk' hst hsub
   go_wp2_with fail
   refine HBA.out.mono ?_
   rintro e w3 ⟨I3,hs3,rfl,h3⟩
   have H3:=Zh h3
   have HS3:=Zh (HSUB.out.trans hs3)
   clear h3 hs3
   go_wp2_with fail
   go_ret
   rw [HCL.out]
   exact ⟨I3,HS1.out.trans HS3.out,rfl,H3.out⟩
end
end Go.Proofs.YtpjchngjhijgmaaGreat
namespace Go.Proofs.YtpjchngjhijgmaaGreat
open Go.RowKit
def Pl.vals (p:Pl):List Value:=[.int .i64 p.set,.int .i64 p.obj]
structure JV where
 vt:Value
 vc:Value
 vl:Value
 va:Value
def Zq135 (p:Nat) (J:Jn) (V:JV):Array Value :=
 #[.pointer (some ⟨p,0,none⟩),.int .i64 J.r.shape.splay,.int .i64 J.r.shape.sets,.int .i64 J.r.shape.size,.int .i64 J.r.first,.int .i64 J.r.set,V.vt,V.vc,V.vl,V.va,.int .i64 J.fill.set,.int .i64 J.fill.u0,.int .i64 J.fill.u1,.int .i64 J.fill.u2,.int .i64 J.fill.u3,.int .i64 J.safe,.bool J.dead]
def jnBlk (q p:Nat) (J:Jn) (V:JV):HP:=HP.pt q (.cells (Zq135 p J V) 110)
def Zq20 (v:Value) (ps:List Pl):HP:=HP.win 41 2 v ps.length (ps.flatMap Pl.vals)
def jnHP (q p:Nat) (J:Jn):HP :=
 HP.ex fun V:JV=>HP.all [jnBlk q p J V,HP.imm ⟨fun I=>recI I J.r V.vt V.vc,fun s h=>h.mono s⟩,Zq23 V.vl J.l,Zq20 V.va J.at_]
structure JB (J:Jn):Prop where
 ok:J.r.Ok
 len:J.l.length≤100000
 lens:J.at_.length=J.l.length
 fill:J.fill.okB J.r.shape=true
 safe:0≤J.safe∧J.safe≤3299023255552
def endJ (J:Jn):Int:=J.r.first - 1+J.l.length
def setsJ (J:Jn):Int:=J.fill.set - J.r.set+1
def deadJ (J:Jn):Jn:={ J with dead:=true }
def endsJ (J:Jn) (why:Int):Jn:=if why=7 then deadJ J else J
def mayJ (S:Str) (J:Jn):Int:=if J.dead=true∨S.on=false then 7 else 0
def mayJ2 (S:Str) (J:Jn):Jn:=if J.dead=true∨S.on=false then deadJ J else J
theorem JB.first {J:Jn} (h:JB J):1≤J.r.first∧J.r.first≤2199023255552:=h.ok.first
theorem JB.fills {J:Jn} (h:JB J):(0≤J.fill.u0∧J.fill.u0≤4096)∧(0≤J.fill.u1∧J.fill.u1≤4096)∧(0≤J.fill.u2∧J.fill.u2≤4096)∧(0≤J.fill.u3∧J.fill.u3≤4096)∧(0≤J.fill.set∧J.fill.set<1073741824):=Zq481 h.fill h.ok.shape
section
variable {W w : World} {I : Hp} {l : List HP} {p q : Nat} {S : Str} {J : Jn}
theorem St.jn_open (h:St W I w (jnHP q p J::l)):∃ V:JV,recI I J.r V.vt V.vc∧St W I w (jnBlk q p J V::Zq23 V.vl J.l::Zq20 V.va J.at_::l):=by
 obtain ⟨V,h1⟩:=h.ex_open
 obtain ⟨hr,h2⟩:=((h1.all_open).pull 1 _ rfl).imm_open
 exact ⟨V,hr,h2⟩
theorem St.jn_shut {V:JV} (hr:recI I J.r V.vt V.vc) (h:St W I w (jnBlk q p J V::Zq23 V.vl J.l::Zq20 V.va J.at_::l)):St W I w (jnHP q p J::l):=by
 refine St.ex_shut V ?_
 refine St.all_shut ?_
 exact ((St.imm_shut (A:=⟨fun I=>recI I J.r V.vt V.vc,fun s h=>h.mono s⟩) hr h).pull 1 _ rfl)
theorem Zq45 {V:JV} (h:St W I w (jnBlk q p J V::l)) (i:Nat):w.cell? ⟨q,i,none⟩=(Zq135 p J V)[i]?:=Zq1 h.heap i
theorem jn_c0 {V:JV} (h:St W I w (jnBlk q p J V::l)):w.cell? ⟨q,0,none⟩=some (.pointer (some ⟨p,0,none⟩)):=Zq45 h 0
theorem Zq147 {V:JV} (h:St W I w (jnBlk q p J V::l)):w.cell? ⟨q,1,none⟩=some (.int .i64 J.r.shape.splay)∧w.cell? ⟨q,2,none⟩=some (.int .i64 J.r.shape.sets)∧w.cell? ⟨q,3,none⟩=some (.int .i64 J.r.shape.size):=⟨Zq45 h 1,Zq45 h 2,Zq45 h 3⟩
theorem jn_c4 {V:JV} (h:St W I w (jnBlk q p J V::l)):w.cell? ⟨q,4,none⟩=some (.int .i64 J.r.first):=Zq45 h 4
theorem jn_c5 {V:JV} (h:St W I w (jnBlk q p J V::l)):w.cell? ⟨q,5,none⟩=some (.int .i64 J.r.set):=Zq45 h 5
theorem jn_c6 {V:JV} (h:St W I w (jnBlk q p J V::l)):w.cell? ⟨q,6,none⟩=some V.vt:=Zq45 h 6
theorem jn_c7 {V:JV} (h:St W I w (jnBlk q p J V::l)):w.cell? ⟨q,7,none⟩=some V.vc:=Zq45 h 7
theorem jn_c8 {V:JV} (h:St W I w (jnBlk q p J V::l)):w.cell? ⟨q,8,none⟩=some V.vl:=Zq45 h 8
theorem jn_c9 {V:JV} (h:St W I w (jnBlk q p J V::l)):w.cell? ⟨q,9,none⟩=some V.va:=Zq45 h 9
theorem Zq392 {V:JV} (h:St W I w (jnBlk q p J V::l)):w.cell? ⟨q,10,none⟩=some (.int .i64 J.fill.set)∧w.cell? ⟨q,11,none⟩=some (.int .i64 J.fill.u0)∧w.cell? ⟨q,12,none⟩=some (.int .i64 J.fill.u1)∧w.cell? ⟨q,13,none⟩=some (.int .i64 J.fill.u2)∧w.cell? ⟨q,14,none⟩=some (.int .i64 J.fill.u3):=⟨Zq45 h 10,Zq45 h 11,Zq45 h 12,Zq45 h 13,Zq45 h 14⟩
theorem Zq866 {V:JV} (h:St W I w (jnBlk q p J V::l)):w.cell? ⟨q,15,none⟩=some (.int .i64 J.safe):=Zq45 h 15
theorem Zq867 {V:JV} (h:St W I w (jnBlk q p J V::l)):w.cell? ⟨q,16,none⟩=some (.bool J.dead):=Zq45 h 16
theorem Zq52 {V:JV} (h:St W I w (jnBlk q p J V::l)) (i:Nat):w.frozen? ⟨q,i,none⟩=false:=frozen_of_row h.heap i
theorem St.jn_dead (h:St W I w (jnHP q p J::l)):St W I (w.setCell ⟨q,16,none⟩ (.bool true)) (jnHP q p (deadJ J)::l):=by
 obtain ⟨V,hr,h1⟩:=h.jn_open
 exact St.jn_shut (J:=deadJ J) (V:=V) hr (h1.setCell 16 (.bool true))
set_option maxRecDepth 4000
set_option maxHeartbeats 8000000
theorem Zq393 (h:St W I w (jnHP q p J::l)) (hB:JB J):Calls Tryz.prog 18 #[.pointer (some ⟨q,0,none⟩)] w fun e w'=>e=.returned (.int .i64 J.safe)∧Below w.heap.size w w':=by
 obtain ⟨V,hr,h1⟩:=h.jn_open
 have x:=Zq866 h1
 clear h h1 hr
 go_enter Tryz.func18,Tryz.ntmps18
 go_wp2_with fail
 go_ret
 exact ⟨rfl,Below.refl _ _⟩
theorem Zq304 (h:St W I w (jnHP q p J::l)) (hB:JB J):Calls Tryz.prog 48 #[.pointer (some ⟨q,0,none⟩)] w fun e w'=>e=.returned (.int .i64 J.r.first)∧Below w.heap.size w w':=by
 obtain ⟨V,hr,h1⟩:=h.jn_open
 have x:=jn_c4 h1
 clear h h1 hr
 go_enter Tryz.func48,Tryz.ntmps48
 go_wp2_with fail
 go_ret
 exact ⟨rfl,Below.refl _ _⟩
theorem Zq148 (h:St W I w (jnHP q p J::l)) (hB:JB J):Calls Tryz.prog 29 #[.pointer (some ⟨q,0,none⟩)] w fun e w'=>e=.returned (.int .i64 (endJ J))∧Below w.heap.size w w':=by
 obtain ⟨V,hr,h1⟩:=h.jn_open
 obtain ⟨A,c,hvl,hc,_⟩:=(h1.pull 1 _ rfl).ents_slice
 have b1:=hB.first
 have b2:=hB.len
 have x4:=jn_c4 h1
 have x8:=jn_c8 h1
 rw [hvl] at x8
 have w1:IntKind.i64.wrap (J.r.first - 1)=J.r.first - 1:=by rw [IntKind.wrap_i64];omega
 have w2:IntKind.i64.wrap (J.r.first - 1+J.l.length)=J.r.first - 1+J.l.length:=by rw [IntKind.wrap_i64];omega
 unfold endJ
 clear h h1 hr
 go_enter Tryz.func29,Tryz.ntmps29
 go_upto_region 3 with fail
 go_quiet (fail)
 go_wp2_with fail
 go_ret
 exact ⟨rfl,⟨rfl,rfl,rfl,Nat.le_refl _,fun _ _=>rfl⟩⟩
theorem Zq394 (h:St W I w (jnHP q p J::l)) (hB:JB J):Calls Tryz.prog 30 #[.pointer (some ⟨q,0,none⟩)] w fun e w'=>e=.returned (.int .i64 (setsJ J))∧Below w.heap.size w w':=by
 obtain ⟨V,hr,h1⟩:=h.jn_open
 have b1:=hB.fills
 have b2:=hB.ok.set
 have x5:=jn_c5 h1
 have x10:=(Zq392 h1).1
 have w1:IntKind.i64.wrap (J.fill.set - J.r.set)=J.fill.set - J.r.set:=by rw [IntKind.wrap_i64];omega
 have w2:IntKind.i64.wrap (J.fill.set - J.r.set+1)=J.fill.set - J.r.set+1:=by rw [IntKind.wrap_i64];omega
 unfold setsJ
 clear h h1 hr
 go_enter Tryz.func30,Tryz.ntmps30
 go_upto_region 3 with fail
 go_quiet (fail)
 go_wp2_with fail
 go_ret
 exact ⟨rfl,⟨rfl,rfl,rfl,Nat.le_refl _,fun _ _=>rfl⟩⟩
theorem Zq549 (h:St W I w (jnHP q p J::l)):Calls Tryz.prog 98 #[.pointer (some ⟨q,0,none⟩)] w fun e w'=>e=.returned J.r.shape.val∧Below w.heap.size w w':=by
 obtain ⟨V,hr,h1⟩:=h.jn_open
 obtain ⟨x1,x2,x3⟩:=Zq147 h1
 have lt:=h1.lt
 clear h h1 hr
 go_enter Tryz.func98,Tryz.ntmps98
 go_wp2_with fail
 refine bodyPost_ret (v:=J.r.shape.val) (by simp [results,Tryz.results98,go_sem,Rg.val]) rfl ?_
 exact ⟨rfl,Zq7 _ _⟩
theorem Zq161 (why:Int) (h:St W I w (jnHP q p J::l)):Calls Tryz.prog 59 #[.pointer (some ⟨q,0,none⟩),.int .i64 why] w fun e w'=>e=.returned (.int .i64 why)∧St W I w' (jnHP q p (endsJ J why)::l):=by
 have HD:=Zh h.jn_dead
 obtain ⟨V,hr,h1⟩:=h.jn_open
 have x:=Zq867 h1
 have f:=Zq52 h1
 have H:=Zh h
 clear h h1 hr
 by_cases h7:why=7
 ·subst h7
  have e:endsJ J 7=deadJ J:=if_pos rfl
  rw [e]
  go_enter Tryz.func59,Tryz.ntmps59
  go_wp2_with fail
  go_ret
  exact ⟨rfl,HD.out⟩
 ·have e:endsJ J why=J:=if_neg h7
  rw [e]
  have hne:(why==7)=false:=by simpa using h7
  go_enter Tryz.func59,Tryz.ntmps59
  go_wp2_with fail
  go_ret
  exact ⟨rfl,H.out⟩
theorem Zq500 (h:St W I w (Zq10 p S::jnHP q p J::l)):Calls Tryz.prog 57 #[.pointer (some ⟨q,0,none⟩)] w fun e w'=>e=.returned (.int .i64 (mayJ S J))∧St W I w' (Zq10 p S::jnHP q p (mayJ2 S J)::l):=by
 have hon:=Zq617 h
 have h0:=h.pull 1 _ rfl
 have hd:=(h0.jn_dead).pull 1 _ rfl
 obtain ⟨V,hr,h1⟩:=h0.jn_open
 have x0:=jn_c0 h1
 have x:=Zq867 h1
 have f:=Zq52 h1
 have HD:=Zh hd
 have H:=Zh h
 have HON:=Zh hon
 obtain ⟨dd,hdd⟩:∃ d,J.dead=d:=⟨_,rfl⟩
 obtain ⟨on,hoo⟩:∃ d,S.on=d:=⟨_,rfl⟩
 rw [hdd] at x
 rw [hoo] at HON
 have HX:=Zh (show mayJ S J=if dd=true∨on=false then 7 else 0 by unfold mayJ;rw [hdd,hoo])
 have HY:=Zh (show mayJ2 S J=if dd=true∨on=false then deadJ J else J by unfold mayJ2;rw [hdd,hoo])
 clear h h0 h1 hr hd hon hdd hoo
 cases dd with
 | true =>
  have HX2:=Zh (HX.out.trans (if_pos (.inl rfl)))
  have HY2:=Zh (HY.out.trans (if_pos (.inl rfl)))
  go_enter Tryz.func57,Tryz.ntmps57
  go_wp2_with fail
  go_ret
  rw [HX2.out,HY2.out]
  exact ⟨rfl,HD.out⟩
 | false =>
  go_enter Tryz.func57,Tryz.ntmps57
  go_wp2_with fail
  refine HON.out.mono ?_
  rintro e w2 ⟨rfl,rfl⟩
  cases on with
  | false =>
   have HX2:=Zh (HX.out.trans (if_pos (.inr rfl)))
   have HY2:=Zh (HY.out.trans (if_pos (.inr rfl)))
   go_wp2_with fail
   go_ret
   rw [HX2.out,HY2.out]
   exact ⟨rfl,HD.out⟩
  | true =>
   have HX2:=Zh (HX.out.trans (if_neg (by simp)))
   have HY2:=Zh (HY.out.trans (if_neg (by simp)))
   go_wp2_with fail
   go_ret
   rw [HX2.out,HY2.out]
   exact ⟨rfl,H.out⟩
end
end Go.Proofs.YtpjchngjhijgmaaGreat
