import Derived.Test.YtpjchngjhijgmaaGreatJM05
set_option linter.all false
namespace Go.Proofs.YtpjchngjhijgmaaGreat
open Go.RowKit
section
variable {W w : World} {I : Hp} {l : List HP}
set_option maxRecDepth 4000
set_option maxHeartbeats 8000000
theorem Zq481 {c:Rg} {f:Fl} (h:f.okB c=true) (hc:c.okB=true):(0≤f.u0∧f.u0≤4096)∧(0≤f.u1∧f.u1≤4096)∧(0≤f.u2∧f.u2≤4096)∧(0≤f.u3∧f.u3≤4096)∧(0≤f.set∧f.set<1073741824):=by
 unfold Fl.okB at h
 unfold Rg.okB at hc
 rw [decide_eq_true_eq] at h hc
 omega
theorem Zq702 (c:Rg) (f:Fl) (seq n:Int) (w:World):Calls Tryz.prog 130 #[c.val,f.val,.int .i64 seq,.int .i64 n] w fun e w'=>e=.returned (.tuple #[(rput c f seq n).1.val,(rput c f seq n).2.1.val,.bool (rput c f seq n).2.2.1,.bool (rput c f seq n).2.2.2])∧Below w.heap.size w w':=by
 obtain ⟨a,b,sz⟩:=c
 obtain ⟨s,u0,u1,u2,u3⟩:=f
 have hr:=Zq200 ⟨a,b,sz⟩
 have hf:=Zq701 ⟨a,b,sz⟩ ⟨s,u0,u1,u2,u3⟩
 have h4:=(((((St.init w).alloc (.cells #[.int .i64 a,.int .i64 b,.int .i64 sz] 26)).alloc (.cells #[.int .i64 s,.int .i64 u0,.int .i64 u1,.int .i64 u2,.int .i64 u3] 108)).alloc (.cells #[.int .i64 0,.int .i64 0,.int .i64 0,.int .i64 0,.int .i64 0] 108)).alloc (.cells #[.int .i64 0,.int .i64 0] 41))
 simp only [World.size_alloc] at h4
 obtain ⟨ok,hok⟩:∃ ok,Rg.okB ⟨a,b,sz⟩=ok:=⟨_,rfl⟩
 obtain ⟨fk,hfk⟩:∃ fk,Fl.okB ⟨a,b,sz⟩ ⟨s,u0,u1,u2,u3⟩=fk:=⟨_,rfl⟩
 rw [hok] at hr
 rw [hfk] at hf
 have HOK:=Zh hok
 have HFK:=Zh hfk
 unfold Rg.val at hr
 unfold Fl.val Rg.val at hf
 have HR:=Zh hr
 have HF:=Zh hf
 have H4:=Zh h4
 clear hr hf hok hfk h4
 obtain ⟨r,hrr⟩:∃ r,rput ⟨a,b,sz⟩ ⟨s,u0,u1,u2,u3⟩ seq n=r:=⟨_,rfl⟩
 have HRR:=Zh hrr
 rw [hrr]
 clear hrr
 unfold Rg.val Fl.val
 go_enter Tryz.func130,Tryz.ntmps130
 go_upto_region 1 with fail
 have h4:=H4.out
 have HB4:=Zh h4.below
 generalize (World.alloc _ _:World)=w4 at h4 HB4 ⊢
 obtain ⟨x0,x1,x2⟩:=Zq40 (h4.pull 3 _ rfl)
 obtain ⟨y0,y1,y2,y3,y4⟩:=Zq22 (h4.pull 2 _ rfl)
 have H5:=Zh h4
 clear h4 H4
 go_wp2_with fail
 refine (HR.out w4).mono ?_
 rintro e w5 ⟨rfl,hb5⟩
 have h5:=H5.out.keep hb5
 clear x0 x1 x2 y0 y1 y2 y3 y4 hb5
 obtain ⟨x0,x1,x2⟩:=Zq40 (h5.pull 3 _ rfl)
 obtain ⟨y0,y1,y2,y3,y4⟩:=Zq22 (h5.pull 2 _ rfl)
 have H6:=Zh h5
 clear h5 HB4 H5
 cases ok with
 | false =>
  obtain rfl:(Fl.zero,⟨0,0⟩,false,false)=r:=by rw [←HRR.out];unfold rput;rw [if_pos (.inl HOK.out)]
  go_upto_region 2 with fail
  refine Zq295 (by assumption) (by kernel_rfl) (H6.out.pull 1 _ rfl) ?_
  intro _ _ _ _ _ _ _ _ _ _ _ _ _ _ _ _ _ _ _ _ _ _ _ _ _ _ _ _ _ _ _ _ _ _ _ _ _ _ _ _ _ _ _ _ _ _ _ _ _ _ _ _ _ _ _ _ _ _ _ _ _ _ _ _ _ _ _ _ _ _ w7 h7
  simp only [Zl1,Zl0] at h7
  go_wp2_with fail
  obtain ⟨z0,z1,z2,z3,z4⟩:=Zq22 h7
  obtain ⟨q0,q1⟩:=Zq47 (h7.pull 1 _ rfl)
  refine bodyPost_ret (v:=.tuple #[.agg #[.int .i64 0,.int .i64 0,.int .i64 0,.int .i64 0,.int .i64 0],.agg #[.int .i64 0,.int .i64 0],.bool false,.bool false]) (by simp [results,Tryz.results130,go_sem,z0,z1,z2,z3,z4,q0,q1]) rfl ?_
  exact ⟨rfl,h7.below⟩
 | true =>
  have hf5:=HF.out w5
  cases fk with
  | false =>
   obtain rfl:(Fl.zero,⟨0,0⟩,false,false)=r:=by rw [←HRR.out];unfold rput;rw [if_pos (.inr (.inl HFK.out))]
   go_wp2_with fail
   refine hf5.mono ?_
   clear hf5
   rintro e w6 ⟨rfl,hb6⟩
   have h6:=H6.out.keep hb6
   clear x0 x1 x2 y0 y1 y2 y3 y4 hb6 H6
   have H6:=Zh h6
   clear h6
   go_upto_region 2 with fail
   refine Zq295 (by assumption) (by kernel_rfl) (H6.out.pull 1 _ rfl) ?_
   intro _ _ _ _ _ _ _ _ _ _ _ _ _ _ _ _ _ _ _ _ _ _ _ _ _ _ _ _ _ _ _ _ _ _ _ _ _ _ _ _ _ _ _ _ _ _ _ _ _ _ _ _ _ _ _ _ _ _ _ _ _ _ _ _ _ _ _ _ _ _ w7 h7
   simp only [Zl1,Zl0] at h7
   go_wp2_with fail
   obtain ⟨z0,z1,z2,z3,z4⟩:=Zq22 h7
   obtain ⟨q0,q1⟩:=Zq47 (h7.pull 1 _ rfl)
   refine bodyPost_ret (v:=.tuple #[.agg #[.int .i64 0,.int .i64 0,.int .i64 0,.int .i64 0,.int .i64 0],.agg #[.int .i64 0,.int .i64 0],.bool false,.bool false]) (by simp [results,Tryz.results130,go_sem,z0,z1,z2,z3,z4,q0,q1]) rfl ?_
   exact ⟨rfl,h7.below⟩
  | true =>
   have hg:=Zq481 HFK.out HOK.out
   have ha:(1≤a∧a≤4)∧(4≤b∧b≤8)∧(512≤sz∧sz≤4096):=by
    have hk:=HOK.out
    unfold Rg.okB at hk
    rw [decide_eq_true_eq] at hk
    exact hk
   have HG:=Zh hg
   have HA:=Zh ha
   clear hg ha
   by_cases b1:seq<1
   ·obtain rfl:(Fl.zero,⟨0,0⟩,false,false)=r:=by rw [←HRR.out];unfold rput;rw [if_pos (.inr (.inr (.inl b1)))]
    have d1:decide (seq<1)=true:=decide_eq_true b1
    go_wp2_with fail
    refine hf5.mono ?_
    clear hf5
    rintro e w6 ⟨rfl,hb6⟩
    have h6:=H6.out.keep hb6
    clear x0 x1 x2 y0 y1 y2 y3 y4 hb6 H6
    have H6:=Zh h6
    clear h6
    go_upto_region 2 with fail
    refine Zq295 (by assumption) (by kernel_rfl) (H6.out.pull 1 _ rfl) ?_
    intro _ _ _ _ _ _ _ _ _ _ _ _ _ _ _ _ _ _ _ _ _ _ _ _ _ _ _ _ _ _ _ _ _ _ _ _ _ _ _ _ _ _ _ _ _ _ _ _ _ _ _ _ _ _ _ _ _ _ _ _ _ _ _ _ _ _ _ _ _ _ w7 h7
    simp only [Zl1,Zl0] at h7
    go_wp2_with fail
    obtain ⟨z0,z1,z2,z3,z4⟩:=Zq22 h7
    obtain ⟨q0,q1⟩:=Zq47 (h7.pull 1 _ rfl)
    refine bodyPost_ret (v:=.tuple #[.agg #[.int .i64 0,.int .i64 0,.int .i64 0,.int .i64 0,.int .i64 0],.agg #[.int .i64 0,.int .i64 0],.bool false,.bool false]) (by simp [results,Tryz.results130,go_sem,z0,z1,z2,z3,z4,q0,q1]) rfl ?_
    exact ⟨rfl,h7.below⟩
   have d1:decide (seq<1)=false:=decide_eq_false b1
   by_cases b2:1099511627776<seq
   ·obtain rfl:(Fl.zero,⟨0,0⟩,false,false)=r:=by rw [←HRR.out];unfold rput;rw [if_pos (.inr (.inr (.inr (.inl b2))))]
    have d2:decide (1099511627776<seq)=true:=decide_eq_true b2
    go_wp2_with fail
    refine hf5.mono ?_
    clear hf5
    rintro e w6 ⟨rfl,hb6⟩
    have h6:=H6.out.keep hb6
    clear x0 x1 x2 y0 y1 y2 y3 y4 hb6 H6
    have H6:=Zh h6
    clear h6
    go_upto_region 2 with fail
    refine Zq295 (by assumption) (by kernel_rfl) (H6.out.pull 1 _ rfl) ?_
    intro _ _ _ _ _ _ _ _ _ _ _ _ _ _ _ _ _ _ _ _ _ _ _ _ _ _ _ _ _ _ _ _ _ _ _ _ _ _ _ _ _ _ _ _ _ _ _ _ _ _ _ _ _ _ _ _ _ _ _ _ _ _ _ _ _ _ _ _ _ _ w7 h7
    simp only [Zl1,Zl0] at h7
    go_wp2_with fail
    obtain ⟨z0,z1,z2,z3,z4⟩:=Zq22 h7
    obtain ⟨q0,q1⟩:=Zq47 (h7.pull 1 _ rfl)
    refine bodyPost_ret (v:=.tuple #[.agg #[.int .i64 0,.int .i64 0,.int .i64 0,.int .i64 0,.int .i64 0],.agg #[.int .i64 0,.int .i64 0],.bool false,.bool false]) (by simp [results,Tryz.results130,go_sem,z0,z1,z2,z3,z4,q0,q1]) rfl ?_
    exact ⟨rfl,h7.below⟩
   have d2:decide (1099511627776<seq)=false:=decide_eq_false b2
   by_cases b3:n<1
   ·obtain rfl:(Fl.zero,⟨0,0⟩,false,false)=r:=by rw [←HRR.out];unfold rput;rw [if_pos (.inr (.inr (.inr (.inr (.inl b3)))))]
    have d3:decide (n<1)=true:=decide_eq_true b3
    go_wp2_with fail
    refine hf5.mono ?_
    clear hf5
    rintro e w6 ⟨rfl,hb6⟩
    have h6:=H6.out.keep hb6
    clear x0 x1 x2 y0 y1 y2 y3 y4 hb6 H6
    have H6:=Zh h6
    clear h6
    go_upto_region 2 with fail
    refine Zq295 (by assumption) (by kernel_rfl) (H6.out.pull 1 _ rfl) ?_
    intro _ _ _ _ _ _ _ _ _ _ _ _ _ _ _ _ _ _ _ _ _ _ _ _ _ _ _ _ _ _ _ _ _ _ _ _ _ _ _ _ _ _ _ _ _ _ _ _ _ _ _ _ _ _ _ _ _ _ _ _ _ _ _ _ _ _ _ _ _ _ w7 h7
    simp only [Zl1,Zl0] at h7
    go_wp2_with fail
    obtain ⟨z0,z1,z2,z3,z4⟩:=Zq22 h7
    obtain ⟨q0,q1⟩:=Zq47 (h7.pull 1 _ rfl)
    refine bodyPost_ret (v:=.tuple #[.agg #[.int .i64 0,.int .i64 0,.int .i64 0,.int .i64 0,.int .i64 0],.agg #[.int .i64 0,.int .i64 0],.bool false,.bool false]) (by simp [results,Tryz.results130,go_sem,z0,z1,z2,z3,z4,q0,q1]) rfl ?_
    exact ⟨rfl,h7.below⟩
   have d3:decide (n<1)=false:=decide_eq_false b3
   by_cases b4:90<n
   ·obtain rfl:(Fl.zero,⟨0,0⟩,false,false)=r:=by rw [←HRR.out];unfold rput;rw [if_pos (.inr (.inr (.inr (.inr (.inr b4)))))]
    have d4:decide (90<n)=true:=decide_eq_true b4
    go_wp2_with fail
    refine hf5.mono ?_
    clear hf5
    rintro e w6 ⟨rfl,hb6⟩
    have h6:=H6.out.keep hb6
    clear x0 x1 x2 y0 y1 y2 y3 y4 hb6 H6
    have H6:=Zh h6
    clear h6
    go_upto_region 2 with fail
    refine Zq295 (by assumption) (by kernel_rfl) (H6.out.pull 1 _ rfl) ?_
    intro _ _ _ _ _ _ _ _ _ _ _ _ _ _ _ _ _ _ _ _ _ _ _ _ _ _ _ _ _ _ _ _ _ _ _ _ _ _ _ _ _ _ _ _ _ _ _ _ _ _ _ _ _ _ _ _ _ _ _ _ _ _ _ _ _ _ _ _ _ _ w7 h7
    simp only [Zl1,Zl0] at h7
    go_wp2_with fail
    obtain ⟨z0,z1,z2,z3,z4⟩:=Zq22 h7
    obtain ⟨q0,q1⟩:=Zq47 (h7.pull 1 _ rfl)
    refine bodyPost_ret (v:=.tuple #[.agg #[.int .i64 0,.int .i64 0,.int .i64 0,.int .i64 0,.int .i64 0],.agg #[.int .i64 0,.int .i64 0],.bool false,.bool false]) (by simp [results,Tryz.results130,go_sem,z0,z1,z2,z3,z4,q0,q1]) rfl ?_
    exact ⟨rfl,h7.below⟩
   have d4:decide (90<n)=false:=decide_eq_false b4
   have hz:∃ z,Zq131 n=z∧0≤z∧z≤112:=⟨_,rfl,by unfold Zq131;omega,by unfold Zq131;omega⟩
   obtain ⟨z,hz,hz1,hz2⟩:=hz
   have hm:Int.tmod seq a=seq % a:=Int.tmod_eq_emod_of_nonneg (by omega)
   have ha:=HA.out
   have hm0:0≤seq % a:=Int.emod_nonneg _ (by omega)
   have hm1:seq % a<a:=Int.emod_lt_of_pos _ (by omega)
   have hR:=HRR.out
   unfold rput at hR
   rw [if_neg (by rw [HOK.out,HFK.out];simp only [Bool.true_eq_false,false_or];omega)] at hR
   simp only [hz] at hR
   have HM:Hid (Int.tmod seq a=seq % a):=Zh hm
   have HZ:=Zh hz
   have HZ1:=Zh (And.intro hz1 hz2)
   clear hm ha hz hz1 hz2 HRR
   rcases (show seq % a=0∨seq % a=1∨seq % a=2∨seq % a=3 by have:=HA.out;omega) with ho|ho|ho|ho
   ·rw [ho] at hR
    simp only [Fl.get,Fl.put,if_true,if_false] at hR
    by_cases hc:sz<u0+z
    ·obtain rfl:=hR.symm.trans (if_pos hc)
     clear hR
     have HO:=Zh ho
     have HC:=Zh hc
     clear ho hc hm0 hm1 b1 b2 b3 b4
     go_wp2_with fail
     refine hf5.mono ?_
     clear hf5
     rintro e w6 ⟨rfl,hb6⟩
     have h6:=H6.out.keep hb6
     clear x0 x1 x2 y0 y1 y2 y3 y4 hb6 H6
     have H6:=Zh h6
     clear h6
     go_upto_region 3 with fail
     refine Zq593 (by assumption) (by kernel_rfl) (H6.out.perm (by ((try simp only [Zl0,Zl1,Zl2,Zl3]);repeat (first|with_reducible exact List.Perm.refl _|(apply Zq4;(· repeat (first|with_reducible exact Zq3|with_reducible apply Zq2))))))) HA.out.1 (HM.out.trans HO.out) HZ.out HZ1.out HG.out.2.2.2.2 HG.out.1 HC.out ?_
     intro _ _ _ _ _ _ _ _ _ _ _ _ _ _ _ _ _ _ _ _ _ _ _ _ _ _ _ _ _ _ _ _ _ _ _ _ _ _ _ _ _ _ _ _ _ _ _ _ _ _ _ _ _ _ _ _ _ _ _ _ _ _ _ _ _ _ _ _ _ _ w7 h7
     try simp only [Zl1,Zl0] at h7
     go_wp2_with fail
     obtain ⟨z0,z1,z2,z3,z4⟩:=Zq22 h7
     obtain ⟨q0,q1⟩:=Zq47 (h7.pull 1 _ rfl)
     refine bodyPost_ret (v:=.tuple #[.agg #[.int .i64 (s+1),.int .i64 z,.int .i64 0,.int .i64 0,.int .i64 0],.agg #[.int .i64 (s+1),.int .i64 0],.bool true,.bool true]) (by simp [results,Tryz.results130,go_sem,z0,z1,z2,z3,z4,q0,q1]) rfl ?_
     exact ⟨rfl,h7.below⟩
    ·obtain rfl:=hR.symm.trans (if_neg hc)
     clear hR
     have HO:=Zh ho
     have HC:Hid (¬ sz<u0+z):=Zh hc
     clear ho hc hm0 hm1 b1 b2 b3 b4
     go_wp2_with fail
     refine hf5.mono ?_
     clear hf5
     rintro e w6 ⟨rfl,hb6⟩
     have h6:=H6.out.keep hb6
     clear x0 x1 x2 y0 y1 y2 y3 y4 hb6 H6
     have H6:=Zh h6
     clear h6
     go_upto_region 3 with fail
     refine Zq592 (by assumption) (by kernel_rfl) (H6.out.perm (by ((try simp only [Zl0,Zl1,Zl2,Zl3]);repeat (first|with_reducible exact List.Perm.refl _|(apply Zq4;(· repeat (first|with_reducible exact Zq3|with_reducible apply Zq2))))))) HA.out.1 (HM.out.trans HO.out) HZ.out HZ1.out HG.out.2.2.2.2 HG.out.1 (Int.not_lt.2 HC.out) ?_
     intro _ _ _ _ _ _ _ _ _ _ _ _ _ _ _ _ _ _ _ _ _ _ _ _ _ _ _ _ _ _ _ _ _ _ _ _ _ _ _ _ _ _ _ _ _ _ _ _ _ _ _ _ _ _ _ _ _ _ _ _ _ _ _ _ _ _ _ _ _ _ w7 h7
     try simp only [Zl1,Zl0] at h7
     go_wp2_with fail
     obtain ⟨z0,z1,z2,z3,z4⟩:=Zq22 h7
     obtain ⟨q0,q1⟩:=Zq47 (h7.pull 1 _ rfl)
     refine bodyPost_ret (v:=.tuple #[.agg #[.int .i64 s,.int .i64 (u0+z),.int .i64 u1,.int .i64 u2,.int .i64 u3],.agg #[.int .i64 s,.int .i64 0],.bool false,.bool true]) (by simp [results,Tryz.results130,go_sem,z0,z1,z2,z3,z4,q0,q1]) rfl ?_
     exact ⟨rfl,h7.below⟩
   ·rw [ho] at hR
    simp only [Fl.get,Fl.put,if_true,if_false] at hR
    by_cases hc:sz<u1+z
    ·obtain rfl:=hR.symm.trans (if_pos hc)
     clear hR
     have HO:=Zh ho
     have HC:=Zh hc
     clear ho hc hm0 hm1 b1 b2 b3 b4
     go_wp2_with fail
     refine hf5.mono ?_
     clear hf5
     rintro e w6 ⟨rfl,hb6⟩
     have h6:=H6.out.keep hb6
     clear x0 x1 x2 y0 y1 y2 y3 y4 hb6 H6
     have H6:=Zh h6
     clear h6
     go_upto_region 3 with fail
     refine Zq595 (by assumption) (by kernel_rfl) (H6.out.perm (by ((try simp only [Zl0,Zl1,Zl2,Zl3]);repeat (first|with_reducible exact List.Perm.refl _|(apply Zq4;(· repeat (first|with_reducible exact Zq3|with_reducible apply Zq2))))))) HA.out.1 (HM.out.trans HO.out) HZ.out HZ1.out HG.out.2.2.2.2 HG.out.2.1 HC.out ?_
     intro _ _ _ _ _ _ _ _ _ _ _ _ _ _ _ _ _ _ _ _ _ _ _ _ _ _ _ _ _ _ _ _ _ _ _ _ _ _ _ _ _ _ _ _ _ _ _ _ _ _ _ _ _ _ _ _ _ _ _ _ _ _ _ _ _ _ _ _ _ _ w7 h7
     try simp only [Zl1,Zl0] at h7
     go_wp2_with fail
     obtain ⟨z0,z1,z2,z3,z4⟩:=Zq22 h7
     obtain ⟨q0,q1⟩:=Zq47 (h7.pull 1 _ rfl)
     refine bodyPost_ret (v:=.tuple #[.agg #[.int .i64 (s+1),.int .i64 0,.int .i64 z,.int .i64 0,.int .i64 0],.agg #[.int .i64 (s+1),.int .i64 1],.bool true,.bool true]) (by simp [results,Tryz.results130,go_sem,z0,z1,z2,z3,z4,q0,q1]) rfl ?_
     exact ⟨rfl,h7.below⟩
    ·obtain rfl:=hR.symm.trans (if_neg hc)
     clear hR
     have HO:=Zh ho
     have HC:Hid (¬ sz<u1+z):=Zh hc
     clear ho hc hm0 hm1 b1 b2 b3 b4
     go_wp2_with fail
     refine hf5.mono ?_
     clear hf5
     rintro e w6 ⟨rfl,hb6⟩
     have h6:=H6.out.keep hb6
     clear x0 x1 x2 y0 y1 y2 y3 y4 hb6 H6
     have H6:=Zh h6
     clear h6
     go_upto_region 3 with fail
     refine Zq594 (by assumption) (by kernel_rfl) (H6.out.perm (by ((try simp only [Zl0,Zl1,Zl2,Zl3]);repeat (first|with_reducible exact List.Perm.refl _|(apply Zq4;(· repeat (first|with_reducible exact Zq3|with_reducible apply Zq2))))))) HA.out.1 (HM.out.trans HO.out) HZ.out HZ1.out HG.out.2.2.2.2 HG.out.2.1 (Int.not_lt.2 HC.out) ?_
     intro _ _ _ _ _ _ _ _ _ _ _ _ _ _ _ _ _ _ _ _ _ _ _ _ _ _ _ _ _ _ _ _ _ _ _ _ _ _ _ _ _ _ _ _ _ _ _ _ _ _ _ _ _ _ _ _ _ _ _ _ _ _ _ _ _ _ _ _ _ _ w7 h7
     try simp only [Zl1,Zl0] at h7
     go_wp2_with fail
     obtain ⟨z0,z1,z2,z3,z4⟩:=Zq22 h7
     obtain ⟨q0,q1⟩:=Zq47 (h7.pull 1 _ rfl)
     refine bodyPost_ret (v:=.tuple #[.agg #[.int .i64 s,.int .i64 u0,.int .i64 (u1+z),.int .i64 u2,.int .i64 u3],.agg #[.int .i64 s,.int .i64 1],.bool false,.bool true]) (by simp [results,Tryz.results130,go_sem,z0,z1,z2,z3,z4,q0,q1]) rfl ?_
     exact ⟨rfl,h7.below⟩
   ·rw [ho] at hR
    simp only [Fl.get,Fl.put,if_true,if_false] at hR
    by_cases hc:sz<u2+z
    ·obtain rfl:=hR.symm.trans (if_pos hc)
     clear hR
     have HO:=Zh ho
     have HC:=Zh hc
     clear ho hc hm0 hm1 b1 b2 b3 b4
     go_wp2_with fail
     refine hf5.mono ?_
     clear hf5
     rintro e w6 ⟨rfl,hb6⟩
     have h6:=H6.out.keep hb6
     clear x0 x1 x2 y0 y1 y2 y3 y4 hb6 H6
     have H6:=Zh h6
     clear h6
     go_upto_region 3 with fail
     refine Zq597 (by assumption) (by kernel_rfl) (H6.out.perm (by ((try simp only [Zl0,Zl1,Zl2,Zl3]);repeat (first|with_reducible exact List.Perm.refl _|(apply Zq4;(· repeat (first|with_reducible exact Zq3|with_reducible apply Zq2))))))) HA.out.1 (HM.out.trans HO.out) HZ.out HZ1.out HG.out.2.2.2.2 HG.out.2.2.1 HC.out ?_
     intro _ _ _ _ _ _ _ _ _ _ _ _ _ _ _ _ _ _ _ _ _ _ _ _ _ _ _ _ _ _ _ _ _ _ _ _ _ _ _ _ _ _ _ _ _ _ _ _ _ _ _ _ _ _ _ _ _ _ _ _ _ _ _ _ _ _ _ _ _ _ w7 h7
     try simp only [Zl1,Zl0] at h7
     go_wp2_with fail
     obtain ⟨z0,z1,z2,z3,z4⟩:=Zq22 h7
     obtain ⟨q0,q1⟩:=Zq47 (h7.pull 1 _ rfl)
     refine bodyPost_ret (v:=.tuple #[.agg #[.int .i64 (s+1),.int .i64 0,.int .i64 0,.int .i64 z,.int .i64 0],.agg #[.int .i64 (s+1),.int .i64 2],.bool true,.bool true]) (by simp [results,Tryz.results130,go_sem,z0,z1,z2,z3,z4,q0,q1]) rfl ?_
     exact ⟨rfl,h7.below⟩
    ·obtain rfl:=hR.symm.trans (if_neg hc)
     clear hR
     have HO:=Zh ho
     have HC:Hid (¬ sz<u2+z):=Zh hc
     clear ho hc hm0 hm1 b1 b2 b3 b4
     go_wp2_with fail
     refine hf5.mono ?_
     clear hf5
     rintro e w6 ⟨rfl,hb6⟩
     have h6:=H6.out.keep hb6
     clear x0 x1 x2 y0 y1 y2 y3 y4 hb6 H6
     have H6:=Zh h6
     clear h6
     go_upto_region 3 with fail
     refine Zq596 (by assumption) (by kernel_rfl) (H6.out.perm (by ((try simp only [Zl0,Zl1,Zl2,Zl3]);repeat (first|with_reducible exact List.Perm.refl _|(apply Zq4;(· repeat (first|with_reducible exact Zq3|with_reducible apply Zq2))))))) HA.out.1 (HM.out.trans HO.out) HZ.out HZ1.out HG.out.2.2.2.2 HG.out.2.2.1 (Int.not_lt.2 HC.out) ?_
     intro _ _ _ _ _ _ _ _ _ _ _ _ _ _ _ _ _ _ _ _ _ _ _ _ _ _ _ _ _ _ _ _ _ _ _ _ _ _ _ _ _ _ _ _ _ _ _ _ _ _ _ _ _ _ _ _ _ _ _ _ _ _ _ _ _ _ _ _ _ _ w7 h7
     try simp only [Zl1,Zl0] at h7
     go_wp2_with fail
     obtain ⟨z0,z1,z2,z3,z4⟩:=Zq22 h7
     obtain ⟨q0,q1⟩:=Zq47 (h7.pull 1 _ rfl)
     refine bodyPost_ret (v:=.tuple #[.agg #[.int .i64 s,.int .i64 u0,.int .i64 u1,.int .i64 (u2+z),.int .i64 u3],.agg #[.int .i64 s,.int .i64 2],.bool false,.bool true]) (by simp [results,Tryz.results130,go_sem,z0,z1,z2,z3,z4,q0,q1]) rfl ?_
     exact ⟨rfl,h7.below⟩
   ·rw [ho] at hR
    simp only [Fl.get,Fl.put,if_true,if_false] at hR
    by_cases hc:sz<u3+z
    ·obtain rfl:=hR.symm.trans (if_pos hc)
     clear hR
     have HO:=Zh ho
     have HC:=Zh hc
     clear ho hc hm0 hm1 b1 b2 b3 b4
     go_wp2_with fail
     refine hf5.mono ?_
     clear hf5
     rintro e w6 ⟨rfl,hb6⟩
     have h6:=H6.out.keep hb6
     clear x0 x1 x2 y0 y1 y2 y3 y4 hb6 H6
     have H6:=Zh h6
     clear h6
     go_upto_region 3 with fail
     refine Zq599 (by assumption) (by kernel_rfl) (H6.out.perm (by ((try simp only [Zl0,Zl1,Zl2,Zl3]);repeat (first|with_reducible exact List.Perm.refl _|(apply Zq4;(· repeat (first|with_reducible exact Zq3|with_reducible apply Zq2))))))) HA.out.1 (HM.out.trans HO.out) HZ.out HZ1.out HG.out.2.2.2.2 HG.out.2.2.2.1 HC.out ?_
     intro _ _ _ _ _ _ _ _ _ _ _ _ _ _ _ _ _ _ _ _ _ _ _ _ _ _ _ _ _ _ _ _ _ _ _ _ _ _ _ _ _ _ _ _ _ _ _ _ _ _ _ _ _ _ _ _ _ _ _ _ _ _ _ _ _ _ _ _ _ _ w7 h7
     try simp only [Zl1,Zl0] at h7
     go_wp2_with fail
     obtain ⟨z0,z1,z2,z3,z4⟩:=Zq22 h7
     obtain ⟨q0,q1⟩:=Zq47 (h7.pull 1 _ rfl)
     refine bodyPost_ret (v:=.tuple #[.agg #[.int .i64 (s+1),.int .i64 0,.int .i64 0,.int .i64 0,.int .i64 z],.agg #[.int .i64 (s+1),.int .i64 3],.bool true,.bool true]) (by simp [results,Tryz.results130,go_sem,z0,z1,z2,z3,z4,q0,q1]) rfl ?_
     exact ⟨rfl,h7.below⟩
    ·obtain rfl:=hR.symm.trans (if_neg hc)
     clear hR
     have HO:=Zh ho
     have HC:Hid (¬ sz<u3+z):=Zh hc
     clear ho hc hm0 hm1 b1 b2 b3 b4
     go_wp2_with fail
     refine hf5.mono ?_
     clear hf5
     rintro e w6 ⟨rfl,hb6⟩
     have h6:=H6.out.keep hb6
     clear x0 x1 x2 y0 y1 y2 y3 y4 hb6 H6
     have H6:=Zh h6
     clear h6
     go_upto_region 3 with fail
     refine Zq598 (by assumption) (by kernel_rfl) (H6.out.perm (by ((try simp only [Zl0,Zl1,Zl2,Zl3]);repeat (first|with_reducible exact List.Perm.refl _|(apply Zq4;(· repeat (first|with_reducible exact Zq3|with_reducible apply Zq2))))))) HA.out.1 (HM.out.trans HO.out) HZ.out HZ1.out HG.out.2.2.2.2 HG.out.2.2.2.1 (Int.not_lt.2 HC.out) ?_
     intro _ _ _ _ _ _ _ _ _ _ _ _ _ _ _ _ _ _ _ _ _ _ _ _ _ _ _ _ _ _ _ _ _ _ _ _ _ _ _ _ _ _ _ _ _ _ _ _ _ _ _ _ _ _ _ _ _ _ _ _ _ _ _ _ _ _ _ _ _ _ w7 h7
     try simp only [Zl1,Zl0] at h7
     go_wp2_with fail
     obtain ⟨z0,z1,z2,z3,z4⟩:=Zq22 h7
     obtain ⟨q0,q1⟩:=Zq47 (h7.pull 1 _ rfl)
     refine bodyPost_ret (v:=.tuple #[.agg #[.int .i64 s,.int .i64 u0,.int .i64 u1,.int .i64 u2,.int .i64 (u3+z)],.agg #[.int .i64 s,.int .i64 3],.bool false,.bool true]) (by simp [results,Tryz.results130,go_sem,z0,z1,z2,z3,z4,q0,q1]) rfl ?_
     exact ⟨rfl,h7.below⟩
theorem Zq440 (c:Rg) (f:Fl) (seq n:Int) (w:World):Calls Tryz.prog 69 #[c.val,f.val,.int .i64 seq,.int .i64 n] w fun e w'=>e=.returned (.tuple #[(rput c f seq n).1.val,(rput c f seq n).2.1.val,.bool (rput c f seq n).2.2.1])∧Below w.heap.size w w':=by
 have hp:=Zq702 c f seq n
 obtain ⟨⟨⟨s1,v0,v1,v2,v3⟩,⟨ps,po⟩,nx,ok⟩,hr⟩:∃ r,rput c f seq n=r:=⟨_,rfl⟩
 rw [hr] at hp ⊢
 obtain ⟨a,b,sz⟩:=c
 obtain ⟨s,u0,u1,u2,u3⟩:=f
 have h4:=(((((St.init w).alloc (.cells #[.int .i64 a,.int .i64 b,.int .i64 sz] 26)).alloc (.cells #[.int .i64 s,.int .i64 u0,.int .i64 u1,.int .i64 u2,.int .i64 u3] 108)).alloc (.cells #[.int .i64 0,.int .i64 0,.int .i64 0,.int .i64 0,.int .i64 0] 108)).alloc (.cells #[.int .i64 0,.int .i64 0] 41))
 simp only [World.size_alloc] at h4
 unfold Rg.val Fl.val at hp ⊢
 simp only [Pl.val] at hp ⊢
 have HP:=Zh hp
 have H4:=Zh h4
 clear hp h4 hr
 go_enter Tryz.func69,Tryz.ntmps69
 go_upto_region 1 with fail
 have h4:=H4.out
 generalize (World.alloc _ _:World)=w4 at h4 ⊢
 obtain ⟨x0,x1,x2⟩:=Zq40 (h4.pull 3 _ rfl)
 obtain ⟨y0,y1,y2,y3,y4⟩:=Zq22 (h4.pull 2 _ rfl)
 have H5:=Zh h4
 clear h4 H4
 go_wp2_with fail
 refine (HP.out w4).mono ?_
 rintro e w5 ⟨rfl,hb5⟩
 have h5:=H5.out.keep hb5
 clear x0 x1 x2 y0 y1 y2 y3 y4 hb5
 have h6:=(h5.alloc (.cells #[.int .i64 s1,.int .i64 v0,.int .i64 v1,.int .i64 v2,.int .i64 v3] 108)).alloc (.cells #[.int .i64 ps,.int .i64 po] 41)
 simp only [World.size_alloc] at h6
 have H6:=Zh h6
 have H5:=Zh h5
 clear h5 h6
 go_upto_region 2 with fail
 have h6:=H6.out
 generalize (World.alloc _ _:World)=w6 at h6 ⊢
 obtain ⟨x0,x1,x2,x3,x4⟩:=Zq22 (h6.pull 1 _ rfl)
 obtain ⟨y0,y1⟩:=Zq47 h6
 have f2:=frozen_of_row (h6.pull 3 _ rfl).heap
 obtain ⟨z0,z1,z2,z3,z4⟩:=Zq22 (h6.pull 3 _ rfl)
 have H7:=Zh h6
 clear h6 H6
 refine Zq8 (fun w'=>(w'.cell? ⟨w5.heap.size,0,none⟩=some (.int .i64 s1)∧w'.cell? ⟨w5.heap.size,1,none⟩=some (.int .i64 v0)∧w'.cell? ⟨w5.heap.size,2,none⟩=some (.int .i64 v1)∧w'.cell? ⟨w5.heap.size,3,none⟩=some (.int .i64 v2)∧w'.cell? ⟨w5.heap.size,4,none⟩=some (.int .i64 v3))∧w'.cell? ⟨w5.heap.size+1,0,none⟩=some (.int .i64 ps)∧w'.cell? ⟨w5.heap.size+1,1,none⟩=some (.int .i64 po)) [0,1,2] [3,4] [5] (by kernel_rfl) (by kernel_rfl) (by (exact ⟨⟨x0,x1,x2,x3,x4⟩,y0,y1⟩)) ?_
 simp only [pickL,Zl6,Zl7]
 repeat (refine Zq5 _ (Or.inl ⟨by rfl,by (intro w hSw;(try dsimp only at hSw);go_simp;try with_reducible rfl)⟩) ?_;(try simp only [Act.put,List.setIfInBounds_toArray,Zl4,Zl5]))
 refine Zq9 ?_
 unfold Zq16
 go_wp2_with fail
 have h8:=((H7.out.pull 3 _ rfl).set5 (.int .i64 s1) (.int .i64 v0) (.int .i64 v1) (.int .i64 v2) (.int .i64 v3)).drew
 generalize (World.drew _:World)=w8 at h8 ⊢
 clear x0 x1 x2 x3 x4 y0 y1 f2 z0 z1 z2 z3 z4
 obtain ⟨x0,x1,x2,x3,x4⟩:=Zq22 (h8.pull 2 _ rfl)
 obtain ⟨y0,y1⟩:=Zq47 (h8.pull 1 _ rfl)
 have f3:=frozen_of_row (h8.pull 3 _ rfl).heap
 obtain ⟨z0,z1⟩:=Zq47 (h8.pull 3 _ rfl)
 have H8:=Zh h8
 clear h8
 refine Zq0 ⟨⟨x0,x1,x2,x3,x4⟩,y0,y1⟩ ?_
 unfold Zq16
 go_wp2_with fail
 have h9:=((H8.out.pull 3 _ rfl).set2 (.int .i64 ps) (.int .i64 po))
 generalize (World.setCell _ _ _:World)=w9 at h9 ⊢
 clear x0 x1 x2 x3 x4 y0 y1 f3 z0 z1
 obtain ⟨x0,x1,x2,x3,x4⟩:=Zq22 (h9.pull 3 _ rfl)
 obtain ⟨y0,y1⟩:=Zq47 (h9.pull 2 _ rfl)
 refine Zq0 ⟨⟨x0,x1,x2,x3,x4⟩,y0,y1⟩ ?_
 unfold Zq16
 obtain ⟨q0,q1⟩:=Zq47 h9
 obtain ⟨z0,z1,z2,z3,z4⟩:=Zq22 (h9.pull 1 _ rfl)
 have H9:=Zh h9.below
 clear h9
 go_wp2_with fail
 refine NoPanic.normal ?_
 go_wp2_with fail
 refine bodyPost_ret (v:=.tuple #[.agg #[.int .i64 s1,.int .i64 v0,.int .i64 v1,.int .i64 v2,.int .i64 v3],.agg #[.int .i64 ps,.int .i64 po],.bool nx]) (by simp [results,Tryz.results69,go_sem,z0,z1,z2,z3,z4,q0,q1]) rfl ?_
 exact ⟨rfl,H9.out⟩
end
end Go.Proofs.YtpjchngjhijgmaaGreat
namespace Go.Proofs.YtpjchngjhijgmaaGreat
open Go.RowKit
section
variable {W w : World} {I : Hp} {l : List HP}
set_option maxRecDepth 4000
set_option maxHeartbeats 8000000
theorem Zq531 (c:Rg) (w:World):Calls Tryz.prog 95 #[c.val] w fun e w'=>e=.returned (.bool c.okB)∧Below w.heap.size w w':=by
 obtain ⟨a,b,c⟩:=c
 unfold Rg.val
 go_enter Tryz.func95,Tryz.ntmps95
 go_wp2
 all_goals
  go_ret
  refine ⟨ret_bool (Zq591 ?_),Zq7 _ _⟩
  simp only [decide_eq_true_eq,Bool.false_eq_true,false_iff]
  omega
def Fl.cells (f:Fl):Array Value:=#[.int .i64 f.set,.int .i64 f.u0,.int .i64 f.u1,.int .i64 f.u2,.int .i64 f.u3]
end
end Go.Proofs.YtpjchngjhijgmaaGreat
