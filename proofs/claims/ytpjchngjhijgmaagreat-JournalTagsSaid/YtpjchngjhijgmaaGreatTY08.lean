import Derived.Test.YtpjchngjhijgmaaGreatTY07
set_option linter.all false
namespace Go.Proofs.YtpjchngjhijgmaaGreat
open Go.RowKit
section
variable {W w : World} {I : Hp} {l : List HP}
set_option maxRecDepth 4000
set_option maxHeartbeats 8000000
theorem journalTags_walk (a b c d:Int) (v:Value) (ks:List Int) (W:World) (hr:IntsI W.hp v ks) (hl:ks.length≤maxLen) :
  Calls Tryz.prog 7 #[.int .i64 a,.int .i64 b,.int .i64 c,v,.int .i64 d] W fun e w'=>e=.returned (.bool true)∧Below W.heap.size W w':=by
 obtain ⟨A3,c3,rfl,hx⟩:=id hr
 clear hx
 have HR:=Zh hr
 unfold maxLen at hl
 have hl':(ks.length:Int)≤9223372036854775807:=by omega
 clear hr hl
 go_enter Tryz.func7,Tryz.ntmps7
 by_cases hk40:40<ks.length
 ·have d1:decide ((40:Int)<(ks.length:Int))=true:=decide_eq_true (by omega)
  have d1n:decide (40<ks.length)=true:=decide_eq_true hk40
  go_wp2_with fail
  refine (Zq64 _).mono ?_
  rintro e w9 ⟨rfl,hb9⟩
  have HB9:=Zh hb9
  clear hb9
  go_wp2_with fail
  go_ret
  exact ⟨rfl,HB9.out⟩
 have d1:decide ((40:Int)<(ks.length:Int))=false:=decide_eq_false (by omega)
 have d1n:decide (40<ks.length)=false:=decide_eq_false hk40
 obtain ⟨C,hC⟩:∃ x,x=ringK a b c:=⟨_,rfl⟩
 have HCO:=Zh (show C.okB=true by rw [hC];exact Zq707 a b c)
 have hrk:=Zq556 a b c W
 rw [←hC] at hrk
 unfold Rg.val at hrk
 have HRK:=Zh hrk
 clear hrk hC
 go_wp2_with fail
 refine HRK.out.mono ?_
 rintro e w1 ⟨rfl,hb1⟩
 have HTA:=Zh (Zq240 ((St.init W).keep hb1))
 clear hb1 HRK
 go_wp2_with fail
 refine HTA.out.mono ?_
 rintro e w2 ⟨I2,g,hs2,rfl,hr2,h2⟩
 have hg:=Zq560 (at':=0) HCO.out (by omega)
 have hop:=Zq351 C 0 (.slice (some ⟨g,0,none⟩) 1 1) [tag1] h2 hr2 (by decide) hg
 unfold Rg.val at hop
 have HOP:=Zh hop
 have HG:=Zh hg
 have HS2:=Zh hs2
 clear hs2 hr2 h2 hg hop HTA
 go_wp2_with fail
 refine HOP.out.mono ?_
 rintro e w3 ⟨I3,p,q,S,hs3,rfl,h3,hj3,ha3,hk3⟩
 have HT:=Zh (TG.start HG.out hj3 ha3 hk3)
 have H3:=Zh h3
 have HI3:=Zh (RowI.mono (HS2.out.trans hs3) HR.out:IntsI I3 (.slice A3 ks.length c3) ks)
 clear hs3 h3 hj3 ha3 hk3 HOP HS2 HR HG HCO
 go_upto_region 7 with fail
 refine tags_loop1 (by assumption) (by kernel_rfl) H3.out HI3.out HT.out (by omega) ?_
 intro _ _ _ _ _ _ _ _ _ _ _ _ _ _ _ _ _ _ _ _ _ _ _ _ _ _ _ _ _ _ _ _ _ _ _ _ _ _ _ _ _ _ _ _ _ _ _ _ _ _ _ _ _ _ _ _ _ _ _ _ _ _ _ _ _ _ _ _ _ _ _ _ _ _ _ _ _ _ _ _ _ _ _ _ _ _ _ _ _ _ _ _ _ _ _ _ _ _ _ _ _ _ _ _ _ _ _ _ _ _ _ _ _ _ _ _ _ _ _ _ _ _ _ _ _ _ _ _ _ _ _ _ _ _ _ _ _ _ _ _ _ _ _ _ _ _ _ _ _ _ _ _ _ _ _ _ _ _ _ _ _ _ I4 w4 S4 J4 A4 c4 hs4 h4 ht4
 have H4:=Zh h4
 have HT4:=Zh ht4
 clear hs4 h4 ht4 H3 HI3 HT
 go_upto_region 17 with fail
 refine tags_mid (by assumption) (by kernel_rfl) H4.out HT4.out (by omega) ?_
 intro _ _ _ _ _ _ _ _ _ _ _ _ _ _ _ _ _ _ _ _ _ _ _ _ _ _ _ _ _ _ _ _ _ _ _ _ _ _ _ _ _ _ _ _ _ _ _ _ _ _ _ _ _ _ _ _ _ _ _ _ _ _ _ _ _ _ _ _ _ _ _ _ _ _ _ _ _ _ _ _ _ _ _ _ _ _ _ _ _ _ _ _ _ _ _ _ _ _ _ _ _ _ _ _ _ _ _ _ _ _ _ _ _ _ _ _ _ _ _ _ _ _ _ _ _ _ _ _ _ _ _ _ _ _ _ _ _ _ _ _ _ _ _ _ _ _ _ _ _ _ _ _ _ _ _ _ _ _ _ _ _ _ _ _ _ _ w9 hb9
 have HB9:=Zh hb9
 clear hb9
 go_ret
 exact ⟨rfl,HB9.out⟩
end
end Go.Proofs.YtpjchngjhijgmaaGreat
