import Derived.Deep.CutRange
import Derived.Test.YtpjchngjhijgmaaGreatJQ00
import Derived.Test.YtpjchngjhijgmaaGreatJQ01
import Derived.Test.YtpjchngjhijgmaaGreatJQ02
import Derived.Test.YtpjchngjhijgmaaGreatJQ03
import Derived.Test.YtpjchngjhijgmaaGreatJQ04
import Derived.Test.YtpjchngjhijgmaaGreatJQ05
import Derived.Test.YtpjchngjhijgmaaGreatJQ06
import Derived.Test.YtpjchngjhijgmaaGreatJQ07
import Derived.Test.YtpjchngjhijgmaaGreatJQ08
import Derived.Test.YtpjchngjhijgmaaGreatJQ09
import Derived.Test.YtpjchngjhijgmaaGreatJQ10
import Derived.Test.YtpjchngjhijgmaaGreatJQ11
import Derived.Test.YtpjchngjhijgmaaGreatJQ12
import Derived.Test.YtpjchngjhijgmaaGreatJQ13
import Derived.Test.YtpjchngjhijgmaaGreatJQ14
import Derived.Test.YtpjchngjhijgmaaGreatJQ15
import Derived.Test.YtpjchngjhijgmaaGreatJQ16
import Derived.Test.YtpjchngjhijgmaaGreatJQ17
import Derived.Test.YtpjchngjhijgmaaGreatJQ18
import Derived.Test.YtpjchngjhijgmaaGreatJQ19
import Derived.Test.YtpjchngjhijgmaaGreatJQ20
import Derived.Test.YtpjchngjhijgmaaGreatJQ21
import Derived.Test.YtpjchngjhijgmaaGreatJQ22
import Derived.Test.YtpjchngjhijgmaaGreatJQ23
import Derived.Test.YtpjchngjhijgmaaGreatJQ24
import Derived.Test.YtpjchngjhijgmaaGreatJQ25
import Derived.Test.YtpjchngjhijgmaaGreatJQ26
import Derived.Test.YtpjchngjhijgmaaGreatJQ27
import Derived.Test.YtpjchngjhijgmaaGreatJQ28
import Derived.Test.YtpjchngjhijgmaaGreatJQ29
import Derived.Test.YtpjchngjhijgmaaGreatJQ30
import Derived.Test.YtpjchngjhijgmaaGreatJQ31
import Derived.Test.YtpjchngjhijgmaaGreatJQ32
import Derived.Test.YtpjchngjhijgmaaGreatJQ33
import Derived.Test.YtpjchngjhijgmaaGreatJQ34
import Derived.Test.YtpjchngjhijgmaaGreatJQ35
import Derived.Test.YtpjchngjhijgmaaGreatJQ36
import Derived.Test.YtpjchngjhijgmaaGreatJQ37
import Derived.Test.YtpjchngjhijgmaaGreatJQ38
import Derived.Test.YtpjchngjhijgmaaGreatJQ39
set_option linter.all false
namespace Go.Proofs.YtpjchngjhijgmaaGreat
open Go.RowKit
section
set_option maxRecDepth 4000
set_option maxHeartbeats 4000000
variable {W w : World} {I : Hp} {l : List HP}
theorem placeC_go:∀ (l:List Cl) (id:Int) (i:Nat),(∀ j c,j<i→l[j]?=some c→c.id<id)→i≤l.length→Zq439 l id=((Zq439 (l.drop i) id).1+i,(Zq439 (l.drop i) id).2)
 | l,id,0,_,_=>by simp
 | [],id,i+1,_,h=>by simp at h
 | c::l,id,i+1,h,hl=>by
  have h0:=h 0 c (by omega) rfl
  have ih:=placeC_go l id i (fun j d hj hd=>h (j+1) d (by omega) (by simpa using hd)) (by simpa using hl)
  rw [List.drop_succ_cons]
  show (if id≤c.id then (0,decide (c.id=id)) else ((Zq439 l id).1+1,(Zq439 l id).2))=_
  rw [if_neg (by omega),ih]
  simp only [Prod.mk.injEq,and_true]
  omega
theorem client_place (v:Value) (cs:List Cl) (id:Int) (h:St W I w l) (hv:RowI I 3 v cs.length (cs.flatMap Cl.vals)) (hn:cs.length≤1000000) :
  Calls Tryz.prog 159 #[v,.int .i64 id] w fun e w'=>e=.returned (.tuple #[.int .i64 (Zq439 cs id).1,.bool (Zq439 cs id).2])∧Below w.heap.size w w':=by
 have HV:=Zh hv
 have H:=Zh h
 obtain ⟨A,c,rfl,_⟩:=hv
 clear h
 go_enter Tryz.func159,Tryz.ntmps159
 go_wp2_with fail
 go_loopw [6,7,10] (fun a6 a7 a10 wr=>∃ i:Nat,a10=.int .i64 i∧i≤cs.length∧(∀ j c,j<i→cs[j]?=some c→c.id<id)∧Below w.heap.size w wr) (fun _ _ a10 _=>cs.length - (intOf a10).toNat)
 case atStart=>exact ⟨0,rfl,Nat.zero_le _,fun j c h=>by omega,Below.refl _ _⟩
 case round =>
  obtain ⟨i,rfl,hi,hall,hb⟩:=hrel
  have HP:=Zh (placeC_go cs id i hall hi)
  by_cases hlt:i<cs.length
  ·have d0:decide ((i:Int)<(cs.length:Int))=true:=by rw [decide_eq_true_eq];omega
   obtain ⟨k,hk⟩:∃ k,cs[i]?=some k:=⟨_,List.getElem?_eq_getElem hlt⟩
   obtain ⟨b,off,e1,hc⟩:=Zq108 (i:=i) HV.out (Hp.sub.refl I) (H.out.keep hb) (fun _=>rfl) hk
   simp only [Value.slice.injEq,and_true] at e1
   subst e1
   have y0:=hc 0 (by omega)
   have y1:=hc 1 (by omega)
   have y2:=hc 2 (by omega)
   obtain ⟨kid,kpos,koff⟩:=k
   simp only [Cl.vals,Zl6,Zl7,Nat.add_zero] at y0 y1 y2
   have hin:(i:Int)<(cs.length:Int):=by omega
   have hdr:cs.drop i=⟨kid,kpos,koff⟩::cs.drop (i+1):=by
    obtain ⟨hil,he⟩:=List.getElem?_eq_some_iff.1 hk
    rw [List.drop_eq_getElem_cons hil,he]
   have HB:=Zh (hb.trans ((Zq3 wr (.cells #[.int .i64 kid,.int .i64 kpos,.bool koff] 212)).mono hb.size))
   by_cases hge:id≤kid
   ·have dg:decide (id≤kid)=true:=decide_eq_true hge
    have HV2:Hid (Zq439 cs id=(i,decide (kid=id))):=Zh (by
     rw [HP.out,hdr]
     show ((if id≤kid then (0,decide (kid=id)) else _:Nat × Bool).1+i,(if id≤kid then (0,decide (kid=id)) else _:Nat × Bool).2)=_
     rw [if_pos hge]
     simp)
    obtain ⟨q,hq⟩:∃ q,(kid==id)=q:=⟨_,rfl⟩
    have HQ:=Zh (show decide (kid=id)=q by rw [←hq];rfl)
    clear hc hk hb hdr hall hge
    go_upto_region 5 with fail
    go_quiet (fail)
    go_wp2_with fail
    go_ret2
    rw [HV2.out,HQ.out]
    exact ⟨rfl,HB.out.trans ⟨rfl,rfl,rfl,Nat.le_refl _,fun _ _=>rfl⟩⟩
   ·have dg:decide (id≤kid)=false:=decide_eq_false hge
    have HA:=Zh (show ∀ j c,j<i+1→cs[j]?=some c→c.id<id from fun j c hj hc'=>by
     by_cases e:j=i
     ·subst e
      rw [hk] at hc'
      cases hc'
      show kid<id
      omega
     ·exact hall j c (by omega) hc')
    clear hc hk hb hdr hall hge
    go_wp2_with fail
    go_roundw
    case rel=>exact ⟨i+1,by go_num,by omega,HA.out,HB.out⟩
    case measure=>first|(simp [intOf];done)|(simp [intOf];omega)|fail
  ·obtain rfl:i=cs.length:=by omega
   have d0:decide (((cs.length:Nat):Int)<(cs.length:Int))=false:=by rw [decide_eq_false_iff_not];omega
   have HV2:Hid (Zq439 cs id=(cs.length,false)):=Zh (by rw [HP.out,List.drop_length];simp [Zq439])
   have HB:=Zh hb
   clear hb hall
   go_wp2_with fail
   go_ret2
   rw [HV2.out]
   exact ⟨rfl,HB.out⟩
end
end Go.Proofs.YtpjchngjhijgmaaGreat
namespace Go.Proofs.YtpjchngjhijgmaaGreat
open Go.RowKit
section
variable {W w w' : World} {I : Hp} {l : List HP} {p q : Nat} {S : Str} {J : Jn}
set_option maxRecDepth 4000
set_option maxHeartbeats 4000000
theorem jwith_spec (vc:Value) (cs:List Cl) (why:Int) (o:Option Rc) {m:Nat} (h:St W I w (Zq8 p S::jnHP q p J::l)) (hk:Keeps S (m+2)) (hB:JB J) (hcs:why=0→Zq69 cs=true) (hI:RowI I 3 vc cs.length (cs.flatMap Cl.vals)) (hj:JRec S o) :
  Calls Tryz.prog 107 #[.pointer (some ⟨q,0,none⟩),vc,.int .i64 why] w fun e w'=>∃ I',I.sub I'∧e=.returned (.int .i64 (withJ S J cs why).1)∧St W I' w' (Zq8 p (withJ S J cs why).2.1::jnHP q p (withJ S J cs why).2.2::l):=by
 have hI0:=hI
 obtain ⟨Ac,cc,rfl,_⟩:=hI
 by_cases h0:why=0
 ·subst h0
  have e:withJ S J cs 0=keepJ S J (clsR J.r cs):=if_neg (by simp)
  rw [e]
  have hok:(clsR J.r cs).Ok:=⟨hB.ok.shape,hB.ok.first,hB.ok.set,hB.ok.tags,hcs rfl⟩
  obtain ⟨R,hR⟩:∃ R,R=keepJ S J (clsR J.r cs):=⟨_,rfl⟩
  rw [←hR]
  have HK:=Zh (fun w2 l2 (vt:Value) (h:St W I w2 (Zq8 p S::jnHP q p J::l2)) (hI2:recI I (clsR J.r cs) vt (.slice Ac cs.length cc))=>(hR ▸ Zq605 (clsR J.r cs) vt (.slice Ac cs.length cc) o h hk hok hI2 hj:_))
  obtain ⟨V,hr,h1⟩:=(h.pull 1 _ rfl).jn_open
  have k:=Zq40 h1
  have k1:=k 1
  have k2:=k 2
  have k3:=k 3
  have k4:=k 4
  have k5:=k 5
  have k6:=k 6
  have k7:=k 7
  have lq:=h1.lt
  simp [Zq104] at k1 k2 k3 k4 k5 k6 k7
  have hrI:recI I (clsR J.r cs) V.vt (.slice Ac cs.length cc):=⟨hr.1,hI0⟩
  obtain ⟨At,ct,hvt,_⟩:=hr.1
  obtain ⟨Aq,cq,hvc,_⟩:=hr.2
  rw [hvt] at k6 hrI
  rw [hvc] at k7
  have h2:=h.alloc (.cells #[.int .i64 J.r.shape.splay,.int .i64 J.r.shape.sets,.int .i64 J.r.shape.size,.int .i64 J.r.first,.int .i64 J.r.set,.slice At J.r.tags.length ct,.slice Ac cs.length cc] 105)
  have H2:=Zh h2
  have HI:=Zh hrI
  simp only [Rc.cells,clsR] at HK
  clear hI0 h h1 hr hk hB hcs hj e hok hR k hvt hvc h2 hrI
  go_enter Tryz.func107,Tryz.ntmps107
  go_wp2_with fail
  have hc:=HK.out _ _ _ ((H2.out.pull 2 _ rfl).pull 2 _ rfl) HI.out
  refine hc.mono ?_
  rintro e w4 ⟨I4,s4,rfl,h4⟩
  have H4:=Zh (h4.pull 2 _ rfl).drop
  clear hc h4 k1 k2 k3 k4 k5 k6 k7 lq H2 HK
  go_wp2_with fail
  go_ret
  exact ⟨I4,s4,rfl,H4.out⟩
 ·have e:withJ S J cs why=(why,S,J):=if_pos h0
  have hne:(why != 0)=true:=by simpa using h0
  have H:=Zh h
  rw [e]
  clear h hk hB hcs hj e hI0
  go_enter Tryz.func107,Tryz.ntmps107
  go_wp2_with fail
  go_ret
  exact ⟨I,Hp.sub.refl _,rfl,H.out⟩
theorem jupto_spec (id pos:Int) (h:St W I w (Zq8 p S::jnHP q p J::l)) (hB:JB J):Calls Tryz.prog 106 #[.pointer (some ⟨q,0,none⟩),.int .i64 id,.int .i64 pos] w fun e w'=>e=.returned (.int .i64 (uptoJ S J id pos))∧St W I w' (Zq8 p S::jnHP q p (mayJ2 S J)::l):=by
 have HM:=Zh (Zq317 h)
 have HB:=Zh hB
 have HSM:=Zh (@Zq319 S J)
 obtain ⟨e0,he0⟩:∃ x,x=mayJ S J:=⟨_,rfl⟩
 have HX:=Zh (show uptoJ S J id pos=if e0≠0 then e0 else if mayC id pos=false then 1 else if endJ J<pos then 3 else 0 by rw [he0];rfl)
 rw [←he0] at HM HSM
 clear h hB he0
 by_cases h0:e0=0
 ·subst h0
  have HX2:=Zh (HX.out.trans (if_neg (by simp)))
  have hsame:=HSM.out rfl
  rw [hsame] at HM ⊢
  clear HX HSM hsame
  by_cases hm:mayC id pos=true
  ·have HX3:=Zh (HX2.out.trans (if_neg (by simp [hm])))
   unfold mayC at hm
   rw [decide_eq_true_eq] at hm
   have d1:decide (id<1)=false:=by rw [decide_eq_false_iff_not];omega
   have d2:decide (1073741824<id)=false:=by rw [decide_eq_false_iff_not];omega
   have d3:decide (pos<0)=false:=by rw [decide_eq_false_iff_not];omega
   have d4:decide (1099511627776<pos)=false:=by rw [decide_eq_false_iff_not];omega
   obtain ⟨en,hen⟩:∃ x,x=endJ J:=⟨_,rfl⟩
   rw [←hen] at HX3
   have HEN:=Zh hen
   clear hm hen
   go_enter Tryz.func106,Tryz.ntmps106
   go_wp2_with fail
   refine HM.out.mono ?_
   rintro e w2 ⟨rfl,h2⟩
   have HE:=Zh (Zq111 (h2.pull 1 _ rfl) HB.out)
   rw [←HEN.out] at HE
   have H2:=Zh h2
   clear h2
   go_wp2_with fail
   refine HE.out.mono ?_
   rintro e w4 ⟨rfl,hb4⟩
   have H4:=Zh (H2.out.keep hb4)
   clear hb4
   by_cases hp:en<pos
   ·have HX4:=Zh (HX3.out.trans (if_pos hp))
    go_wp2_with fail
    go_ret
    rw [HX4.out]
    exact ⟨rfl,H4.out⟩
   ·have HX4:=Zh (HX3.out.trans (if_neg hp))
    go_wp2_with fail
    go_ret
    rw [HX4.out]
    exact ⟨rfl,H4.out⟩
  ·have HX3:=Zh (HX2.out.trans (if_pos (by simpa using hm)))
   unfold mayC at hm
   rw [decide_eq_true_eq] at hm
   go_enter Tryz.func106,Tryz.ntmps106
   go_wp2_with fail
   refine HM.out.mono ?_
   rintro e w2 ⟨rfl,h2⟩
   have H2:=Zh h2
   clear h2
   rcases (show id<1∨(¬ id<1∧1073741824<id)∨(¬ id<1∧¬ 1073741824<id∧pos<0)∨(¬ id<1∧¬ 1073741824<id∧¬ pos<0∧1099511627776<pos) by omega) with d1|⟨d1,d2⟩|⟨d1,d2,d3⟩|⟨d1,d2,d3,d4⟩
   all_goals
    clear hm
    go_wp2_with fail
    go_ret
    rw [HX3.out]
    exact ⟨rfl,H2.out⟩
 ·have HX2:=Zh (HX.out.trans (if_pos h0))
  have hne:(e0 != 0)=true:=by simpa using h0
  clear HX HSM
  go_enter Tryz.func106,Tryz.ntmps106
  go_wp2_with fail
  refine HM.out.mono ?_
  rintro e w2 ⟨rfl,h2⟩
  have H2:=Zh h2
  clear h2
  go_wp2_with fail
  go_ret
  rw [HX2.out]
  exact ⟨rfl,H2.out⟩
end
end Go.Proofs.YtpjchngjhijgmaaGreat
namespace Go.Proofs.YtpjchngjhijgmaaGreat
open Go.RowKit
section
variable {W w w' : World} {I : Hp} {l : List HP} {p q : Nat} {J : Jn} {S : Str}
set_option maxRecDepth 8000
set_option maxHeartbeats 8000000
theorem jread_spec (pos most:Int) (h:St W I w (Zq8 p S::jnHP q p J::l)) (hB:JB J) (hpm:pos≤4611686018427387904) (hE:∀ e ∈ J.l,e.okB=true) :
  Calls Tryz.prog 28 #[.pointer (some ⟨q,0,none⟩),.int .i64 pos,.int .i64 most] w fun e w'=>∃ I' v,I.sub I'∧e=.returned (.tuple #[v,.int .i64 (readJ S J pos most).2])∧St W I' w' (Zq26 v (readJ S J pos most).1::Zq8 p S::jnHP q p (mayJ2 S J)::l):=by
 have HM:=Zh (Zq317 h)
 have HSM:=Zh (@Zq319 S J)
 obtain ⟨⟨es,why⟩,hR⟩:∃ x,x=readJ S J pos most:=⟨_,rfl⟩
 rw [←hR]
 unfold readJ Zq731 at hR
 obtain ⟨e0,he0⟩:∃ x,x=mayJ S J:=⟨_,rfl⟩
 rw [←he0] at HM HSM hR
 simp only [Prod.mk.injEq] at hR
 obtain ⟨hes,hwhy⟩:=hR
 rw [←hwhy] at hes
 have HES:=Zh hes
 have HWHY:=Zh hwhy
 have HB:=Zh hB
 have HEE:=Zh hE
 clear h hB he0 hes hwhy hE
 by_cases h0:e0=0
 ·subst h0
  have HW2:=Zh (HWHY.out.trans (if_neg (by simp)))
  have hsame:=HSM.out rfl
  rw [hsame] at HM ⊢
  have HE:=Zh (fun w1 L (h:St W I w1 (jnHP q p J::L))=>Zq111 h HB.out)
  obtain ⟨en,hen⟩:∃ x,x=endJ J:=⟨_,rfl⟩
  rw [←hen] at HE HW2
  have HEN:=Zh hen
  obtain ⟨fi,hfi⟩:∃ x,x=J.r.first:=⟨_,rfl⟩
  rw [←hfi] at HW2
  have HFI:=Zh hfi
  have hfr:=HB.out.first
  rw [←hfi] at hfr
  have w1:IntKind.i64.wrap (fi - 1)=fi - 1:=by rw [IntKind.wrap_i64];omega
  clear HSM hsame hen hfi
  go_enter Tryz.func28,Tryz.ntmps28
  go_wp2_with fail
  refine HM.out.mono ?_
  rintro e w2 ⟨rfl,h2⟩
  have H2:=Zh h2
  clear h2 HM
  by_cases hp0:pos<0
  ·have e1:=HW2.out.trans (if_pos (.inl hp0))
   subst e1
   have e2:=HES.out.trans (if_neg (by decide))
   subst e2
   go_wp2_with fail
   go_ret2
   exact ⟨I,_,Hp.sub.refl _,rfl,H2.out.ents_nil⟩
  ·go_wp2_with fail
   refine (HE.out _ _ (H2.out.pull 1 _ rfl)).mono ?_
   rintro e w3 ⟨rfl,hb3⟩
   have H3:=Zh (H2.out.keep hb3)
   clear hb3 H2
   by_cases hpe:en<pos
   ·have e1:=HW2.out.trans (if_pos (.inr (.inl hpe)))
    subst e1
    have e2:=HES.out.trans (if_neg (by decide))
    subst e2
    go_wp2_with fail
    go_ret2
    exact ⟨I,_,Hp.sub.refl _,rfl,H3.out.ents_nil⟩
   ·by_cases hm0:most<0
    ·have e1:=HW2.out.trans (if_pos (.inr (.inr hm0)))
     subst e1
     have e2:=HES.out.trans (if_neg (by decide))
     subst e2
     go_wp2_with fail
     go_ret2
     exact ⟨I,_,Hp.sub.refl _,rfl,H3.out.ents_nil⟩
    ·have HW3:=Zh (HW2.out.trans (if_neg (by omega)))
     obtain ⟨⟨vt,vc,vl,va⟩,hrI,h4⟩:=(H3.out.pull 1 _ rfl).jn_open
     obtain ⟨Al,cl,e1,hncl,_,hnil⟩:=(h4.pull 1 _ rfl).ents_slice
     simp only at e1 hrI h4
     subst e1
     have k4:=jn_c4 h4
     rw [←HFI.out] at k4
     have k8:=jn_c8 h4
     simp only at k8
     have lq:=h4.lt
     have HRI:=Zh hrI
     have H4:=Zh h4
     clear hrI h4 H3
     by_cases hpf:pos<fi - 1
     ·have e1:=HW3.out.trans (if_pos hpf)
      subst e1
      have e2:=HES.out.trans (if_neg (by decide))
      subst e2
      have h5:=St.jn_shut (J:=J) (V:=⟨vt,vc,.slice Al J.l.length cl,va⟩) HRI.out H4.out
      have H5:=Zh (h5.pull 1 _ rfl)
      clear h5 H4
      go_wp2_with fail
      go_ret2
      exact ⟨I,_,Hp.sub.refl _,rfl,H5.out.ents_nil⟩
     ·have e1:=HW3.out.trans (if_neg hpf)
      subst e1
      have e2:=HES.out.trans (if_pos rfl)
      have HES2:=Zh e2
      obtain ⟨n,hnn⟩:∃ x,x=J.l.length:=⟨_,rfl⟩
      have HNN:=Zh hnn
      obtain ⟨k,hk⟩:∃ k:Nat,(k:Int)=pos - fi+1:=⟨(pos - fi+1).toNat,by omega⟩
      have hkn:k≤n:=by
       have:=HEN.out
       unfold endJ at this
       rw [←HFI.out,←hnn] at this
       omega
      rw [←hnn] at k8 H4 hncl
      have w2:IntKind.i64.wrap (pos - fi)=pos - fi:=by rw [IntKind.wrap_i64];omega
      have w3:IntKind.i64.wrap (pos - fi+1)=(k:Int):=by rw [IntKind.wrap_i64];omega
      clear e2 hnn
      go_upto_region 9 with fail
      go_quiet (fail)
      have hkt:(pos - fi+1).toNat=k:=by omega
      rw [hkt]
      obtain ⟨A9,hA9⟩:∃ x,x=(if cl=k then Al else Option.map (fun x=>x.add (k*3)) Al):=⟨_,rfl⟩
      rw [←hA9]
      have HA9:=Zh (show ∀ g qq,Al=some ⟨g,qq,none⟩→cl≠k→A9=some ⟨g,qq+k*3,none⟩ from fun g qq e hc=>by
       rw [hA9,if_neg hc,e,Option.map_some,add_plain])
      obtain ⟨n2,hn2⟩:∃ x,x=n - k:=⟨_,rfl⟩
      obtain ⟨c2,hc2⟩:∃ x,x=cl - k:=⟨_,rfl⟩
      rw [←hn2,←hc2]
      have hnc2:n2≤c2:=by omega
      obtain ⟨t,ht⟩:∃ t:Nat,(t:Int)=min most (n2:Int):=⟨(min most (n2:Int)).toNat,by omega⟩
      have htn:t≤n2:=by omega
      have hmin:=ht.symm
      have HLST:=Zh (show es=((J.l.drop k).take t) by
       rw [HES2.out]
       unfold readL
       rw [←HFI.out,hkt]
       have hdl:(J.l.drop k).length=n2:=by rw [List.length_drop,←HNN.out];omega
       by_cases hle:most≤(n2:Int)
       ·rw [show most.toNat=t by omega]
       ·rw [List.take_of_length_le (by omega),List.take_of_length_le (by omega)])
      have H5:=Zh ((H4.out.drewN nq).ents_nil)
      have HLE:=Zh (show k+t≤n∧n≤cl by omega)
      clear hA9 hkt ht w2 w3 hk hncl hnil H4 k4 k8 lq HES2 HES HWHY HW2 HW3 HE HEN hn2 hc2
      go_wp2_with fail
      go_loopw [9,60] (fun a9 a60 wr=>∃ (i:Nat) (I':Hp) (A8:Option Addr) (c8:Nat),a60=.int .i64 i∧a9=.slice A8 i c8∧i≤t∧I.sub I'∧St W I' wr (Zq26 (.slice A8 i c8) ((J.l.drop k).take i)::jnBlk q p J ⟨vt,vc,.slice Al n cl,va⟩::Zq26 (.slice Al n cl) J.l::Zq19 va J.at_::Zq8 p S::l)) (fun _ a60 _=>t - (intOf a60).toNat)
      case atStart=>exact ⟨0,I,none,0,rfl,rfl,Nat.zero_le _,Hp.sub.refl _,H5.out⟩
      case round =>
       obtain ⟨i,I',A8,c8,rfl,rfl,hi,hsub,hst⟩:=hrel
       have hle:=HLE.out
       have hn5:=HB.out.len
       rw [←HNN.out] at hn5
       clear H5
       by_cases hlt:i<t
       ·have hlt2:(i:Int)<(t:Int):=by omega
        have hkl:k+i<J.l.length:=by rw [←HNN.out];omega
        obtain ⟨e,he⟩:∃ e,J.l[k+i]?=some e:=⟨_,List.getElem?_eq_getElem hkl⟩
        obtain ⟨g,qq,c3,vd,e2,hg,hbd,hbb,y0,y1,y2⟩:=(hst.pull 2 _ rfl).ents_cell he
        rw [←HNN.out] at e2
        simp only [Value.slice.injEq] at e2
        obtain ⟨rfl,hnn,rfl⟩:=e2
        clear hnn
        obtain rfl:=HA9.out g qq rfl (by omega)
        have ha1:qq+(k+i)*3=qq+k*3+i*3:=by omega
        rw [ha1] at y0 y1 y2
        obtain ⟨Ad,cd,rfl⟩:=hbd.isSl
        have htk:(J.l.drop k).take (i+1)=(J.l.drop k).take i++[e]:=by
         rw [List.take_add_one,List.getElem?_drop,he];rfl
        have hil:((J.l.drop k).take i).length=i:=by rw [List.length_take,List.length_drop];omega
        have h5:=hst.alloc (.cells #[.int .i64 e.tag,.int .i64 e.seq,.slice Ad e.data.length cd] 50)
        have hcl:=fun w1 (L:List HP) (h1:St W I' w1 L)=>Zq24 (.slice Ad e.data.length cd) e.data.length (e.data.map byteV) w1 (Zq29 h1 hbd)
        have HTK:=Zh htk
        have HIL:=Zh hil
        have HBB:=Zh hbb
        have HSUB:=Zh hsub
        have HCL:=Zh hcl
        have hok:=HEE.out e (List.mem_of_getElem? he)
        obtain ⟨tg,sq,d⟩:=e
        simp only at y0 y1 y2 h5 HBB HCL
        obtain ⟨dl,hdl⟩:∃ x,x=d.length:=⟨_,rfl⟩
        have hdl9:dl≤1000000:=by have:=(En.okB_iff.1 hok).2.2;simp only at this;omega
        have HDL:=Zh hdl
        rw [←hdl] at y2 h5 HCL
        obtain ⟨g12,hg12⟩:∃ x,x=wr.heap.size:=⟨_,rfl⟩
        rw [←hg12] at h5
        have H5:=Zh h5
        clear hst h5 htk hil hbb hsub hcl he hbd hdl ha1 hkl hok
        go_upto_region 13 with fail
        rw [←hg12]
        have h5:=H5.out
        generalize (World.alloc _ _:World)=w5 at h5 ⊢
        clear y0 y1 y2 hg H5 hg12
        obtain ⟨z0,z1,z2⟩:=Zq62 h5
        have lg:=h5.lt
        have fg:=frozen_of_row h5.heap
        have HC2:=Zh (HCL.out w5 _ h5 hdl9)
        have H5:=Zh h5
        clear h5 HCL
        go_wp2_with fail
        refine HC2.out.mono ?_
        rintro e w6 ⟨v6,rfl,ho6,hb6⟩
        obtain ⟨A6,c6,rfl⟩:=Zq15 ho6
        rw [HDL.out] at ho6
        obtain ⟨I6,s6,hB6,h6⟩:=Zq31 H5.out hb6 ho6
        rw [←HDL.out] at hB6
        clear z0 z1 z2 lg fg ho6 hb6 H5 HC2
        obtain ⟨z0,z1,z2⟩:=Zq62 h6
        have lg:=h6.lt
        have fg:=frozen_of_row h6.heap
        have h7:=(h6.set3 (.int .i64 tg) (.int .i64 sq) (.slice A6 dl c6))
        have h7:St W I6 (w6.setCell ⟨g12,2,none⟩ (.slice A6 dl c6)) (HP.pt g12 (.cells #[.int .i64 tg,.int .i64 sq,.slice A6 dl c6] 50)::Zq26 (.slice A8 i c8) ((J.l.drop k).take i)::jnBlk q p J ⟨vt,vc,.slice (some ⟨g,qq,none⟩) n cl,va⟩::Zq26 (.slice (some ⟨g,qq,none⟩) n cl) J.l::Zq19 va J.at_::Zq8 p S::l):=by
         have:=h6.setCell 2 (.slice A6 dl c6)
         simp only [List.setIfInBounds_toArray,Zl4,Zl5] at this
         exact this
        obtain ⟨A9,c9,w9,hr9,h9⟩:=St.ents_append (e:=⟨tg,sq,d⟩) (g:=(w6.setCell ⟨g12,2,none⟩ (.slice A6 dl c6)).heap.size) rfl (h7.pull 1 _ rfl) (vd:=.slice A6 dl c6) hB6 HBB.out (by rw [HIL.out];have:=HB.out.len;rw [←HNN.out] at this;omega)
        rw [HIL.out] at hr9 h9
        rw [←HTK.out] at h9
        rw [World.size_setCell] at hr9
        have H9:=Zh ((h9.pull 1 _ rfl).drop)
        have HR9:=Zh hr9
        have S6:=Zh (HSUB.out.trans s6)
        clear h6 h9 hr9 s6 hB6 HTK HIL HBB
        go_wp2_with (at_builtin;refine Lib.wpList_append_run _ rfl (.tmp 68) (.tmp 70) 58 58 rfl _ _ rfl rfl _ _ HR9.out ?_)
        go_roundw
        case rel=>exact ⟨i+1,I6,A9,c9,by go_num,rfl,by omega,S6.out,H9.out⟩
        case measure=>first|(simp [intOf];done)|(simp [intOf];omega)|fail
       ·obtain rfl:i=t:=by omega
        have hlt2:¬ (i:Int)<(i:Int):=by omega
        rw [←HLST.out] at hst
        have h5:=St.jn_shut (J:=J) (V:=⟨vt,vc,.slice Al n cl,va⟩) (HRI.out.mono hsub) (hst.perm (by ((try simp only [Zl0,Zl1,Zl2,Zl3]);repeat (first|with_reducible exact List.Perm.refl _|(apply Zq6;(· repeat (first|with_reducible exact Zq5|with_reducible apply Zq2)))))):St W I' wr (jnBlk q p J ⟨vt,vc,.slice Al n cl,va⟩::Zq26 (.slice Al n cl) J.l::Zq19 va J.at_::Zq26 (.slice A8 i c8) es::Zq8 p S::l))
        have H5:=Zh h5
        have HSUB:=Zh hsub
        clear hst h5 hsub
        go_wp2_with fail
        go_ret2
        have h6:St W I' wr (Zq26 (.slice A8 i c8) es::Zq8 p S::jnHP q p J::l):=H5.out.perm (by ((try simp only [Zl0,Zl1,Zl2,Zl3]);repeat (first|with_reducible exact List.Perm.refl _|(apply Zq6;(· repeat (first|with_reducible exact Zq5|with_reducible apply Zq2))))))
        first|exact ⟨I',_,HSUB.out,rfl,h6⟩|exact ⟨I',HSUB.out,_,rfl,h6⟩|fail
 ·have e1:=HWHY.out.trans (if_pos h0)
  subst e1
  have hes:=HES.out.trans (if_neg h0)
  subst hes
  have hne:(why != 0)=true:=by simpa using h0
  go_enter Tryz.func28,Tryz.ntmps28
  go_wp2_with fail
  refine HM.out.mono ?_
  rintro e w2 ⟨rfl,h2⟩
  have H2:=Zh h2
  clear h2
  go_wp2_with fail
  go_ret2
  exact ⟨I,_,Hp.sub.refl _,rfl,H2.out.ents_nil⟩
end
end Go.Proofs.YtpjchngjhijgmaaGreat
