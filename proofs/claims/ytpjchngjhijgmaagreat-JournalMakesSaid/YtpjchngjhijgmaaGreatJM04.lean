import Derived.Test.YtpjchngjhijgmaaGreatJM01
import Derived.Test.YtpjchngjhijgmaaGreatJM02
import Derived.Test.YtpjchngjhijgmaaGreatJM03
import Derived.Deep.CutRange
set_option linter.all false
namespace Go.Proofs.YtpjchngjhijgmaaGreat
open Go.RowKit
def Rg.val (c:Rg):Value:=.agg #[.int .i64 c.splay,.int .i64 c.sets,.int .i64 c.size]
def Fl.val (f:Fl):Value:=.agg #[.int .i64 f.set,.int .i64 f.u0,.int .i64 f.u1,.int .i64 f.u2,.int .i64 f.u3]
def Pl.val (p:Pl):Value:=.agg #[.int .i64 p.set,.int .i64 p.obj]
section
set_option maxRecDepth 4000
set_option maxHeartbeats 4000000
theorem Zq591 {c:Rg} {b:Bool} (h:b=true↔((1≤c.splay∧c.splay≤4)∧(4≤c.sets∧c.sets≤8)∧(512≤c.size∧c.size≤4096))):b=c.okB:=by
 rw [Bool.eq_iff_iff,h,Rg.okB,decide_eq_true_eq]
theorem Zq200 (c:Rg) (w:World):Calls Tryz.prog 88 #[c.val] w fun e w'=>e=.returned (.bool c.okB)∧Below w.heap.size w w':=by
 obtain ⟨a,b,c⟩:=c
 unfold Rg.val
 go_enter Tryz.func88,Tryz.ntmps88
 go_wp2
 all_goals
  go_ret
  refine ⟨ret_bool (Zq591 ?_),Zq7 _ _⟩
  simp only [decide_eq_true_eq,Bool.false_eq_true,false_iff]
  omega
theorem Zq75 (n:Int) (w:World):Calls Tryz.prog 173 #[.int .i64 n] w fun e w'=>e=.returned (.int .i64 (Zq131 n))∧w=w':=by
 have h1:IntKind.i64.wrap (22+max 0 (min n 90))=22+max 0 (min n 90):=by rw [IntKind.wrap_i64];omega
 go_enter Tryz.func173,Tryz.ntmps173
 go_wp2_with fail
 all_goals
  go_ret
  refine ⟨ret_int ?_,rfl⟩
  unfold Zq131
  first|omega|simp
theorem Zq701 (c:Rg) (f:Fl) (w:World):Calls Tryz.prog 172 #[c.val,f.val] w fun e w'=>e=.returned (.bool (f.okB c))∧Below w.heap.size w w':=by
 obtain ⟨a,b,sz⟩:=c
 obtain ⟨s,u0,u1,u2,u3⟩:=f
 unfold Rg.val Fl.val
 have i0:∀ w:World,(Instr.index 106 (.agg #[.int .i64 u0,.int .i64 u1,.int .i64 u2,.int .i64 u3]) (.int .i64 0)).run Tryz.prog w=.ok (.int .i64 u0) w:=fun _=>by kernel_rfl
 have i1:∀ w:World,(Instr.index 106 (.agg #[.int .i64 u0,.int .i64 u1,.int .i64 u2,.int .i64 u3]) (.int .i64 1)).run Tryz.prog w=.ok (.int .i64 u1) w:=fun _=>by kernel_rfl
 have i2:∀ w:World,(Instr.index 106 (.agg #[.int .i64 u0,.int .i64 u1,.int .i64 u2,.int .i64 u3]) (.int .i64 2)).run Tryz.prog w=.ok (.int .i64 u2) w:=fun _=>by kernel_rfl
 have i3:∀ w:World,(Instr.index 106 (.agg #[.int .i64 u0,.int .i64 u1,.int .i64 u2,.int .i64 u3]) (.int .i64 3)).run Tryz.prog w=.ok (.int .i64 u3) w:=fun _=>by kernel_rfl
 go_enter Tryz.func172,Tryz.ntmps172
 go_wp2_with fail
 go_loopw [9] (fun a9 wr=>∃ i:Nat,a9=.int .i64 i∧i≤4∧(0<i→0≤u0∧u0≤sz)∧(1<i→0≤u1∧u1≤sz)∧(2<i→0≤u2∧u2≤sz)∧(3<i→0≤u3∧u3≤sz)∧wr=((w.alloc (.cells #[.int .i64 a,.int .i64 b,.int .i64 sz] 26)).alloc (.cells #[.int .i64 s,.int .i64 u0,.int .i64 u1,.int .i64 u2,.int .i64 u3] 108))) (fun a9 _=>4 - (intOf a9).toNat)
 case atStart=>exact ⟨0,rfl,by omega,by omega,by omega,by omega,by omega,rfl⟩
 case round =>
  obtain ⟨i,rfl,hi,g0,g1,g2,g3,rfl⟩:=hrel
  have HG:=Zh (And.intro g0 (And.intro g1 (And.intro g2 g3)))
  clear g0 g1 g2 g3
  have HB:=Zh (show Below w.heap.size w ((w.alloc (.cells #[.int .i64 a,.int .i64 b,.int .i64 sz] 26)).alloc (.cells #[.int .i64 s,.int .i64 u0,.int .i64 u1,.int .i64 u2,.int .i64 u3] 108)) from (Zq7 _ _).trans ((Zq7 _ _).mono (by simp)))
  rcases (show i=0∨i=1∨i=2∨i=3∨i=4 by omega) with rfl|rfl|rfl|rfl|rfl
  ·by_cases b1:u0<0
   ·have d1:decide (u0<0)=true:=decide_eq_true b1
    go_wp2_with fail
    go_ret
    refine ⟨ret_bool ?_,HB.out⟩
    symm
    unfold Fl.okB
    rw [decide_eq_false_iff_not]
    simp only
    omega
   ·have d1:decide (u0<0)=false:=decide_eq_false b1
    by_cases b2:sz<u0
    ·have d2:decide (sz<u0)=true:=decide_eq_true b2
     go_wp2_with fail
     go_ret
     refine ⟨ret_bool ?_,HB.out⟩
     symm
     unfold Fl.okB
     rw [decide_eq_false_iff_not]
     simp only
     omega
    ·have d2:decide (sz<u0)=false:=decide_eq_false b2
     have HN:=Zh (show 0≤u0∧u0≤sz by omega)
     clear b1 b2
     go_wp2_with fail
     go_roundw
     case rel=>exact ⟨1,by go_num,by omega,fun _=>HN.out,by omega,by omega,by omega,trivial⟩
     case measure=>first|(simp [intOf];done)|(simp [intOf];omega)|fail
  ·by_cases b1:u1<0
   ·have d1:decide (u1<0)=true:=decide_eq_true b1
    go_wp2_with fail
    go_ret
    refine ⟨ret_bool ?_,HB.out⟩
    symm
    unfold Fl.okB
    rw [decide_eq_false_iff_not]
    simp only
    omega
   ·have d1:decide (u1<0)=false:=decide_eq_false b1
    by_cases b2:sz<u1
    ·have d2:decide (sz<u1)=true:=decide_eq_true b2
     go_wp2_with fail
     go_ret
     refine ⟨ret_bool ?_,HB.out⟩
     symm
     unfold Fl.okB
     rw [decide_eq_false_iff_not]
     simp only
     omega
    ·have d2:decide (sz<u1)=false:=decide_eq_false b2
     have HN:=Zh (show 0≤u1∧u1≤sz by omega)
     clear b1 b2
     go_wp2_with fail
     go_roundw
     case rel=>exact ⟨2,by go_num,by omega,fun _=>HG.out.1 (by omega),fun _=>HN.out,by omega,by omega,trivial⟩
     case measure=>first|(simp [intOf];done)|(simp [intOf];omega)|fail
  ·by_cases b1:u2<0
   ·have d1:decide (u2<0)=true:=decide_eq_true b1
    go_wp2_with fail
    go_ret
    refine ⟨ret_bool ?_,HB.out⟩
    symm
    unfold Fl.okB
    rw [decide_eq_false_iff_not]
    simp only
    omega
   ·have d1:decide (u2<0)=false:=decide_eq_false b1
    by_cases b2:sz<u2
    ·have d2:decide (sz<u2)=true:=decide_eq_true b2
     go_wp2_with fail
     go_ret
     refine ⟨ret_bool ?_,HB.out⟩
     symm
     unfold Fl.okB
     rw [decide_eq_false_iff_not]
     simp only
     omega
    ·have d2:decide (sz<u2)=false:=decide_eq_false b2
     have HN:=Zh (show 0≤u2∧u2≤sz by omega)
     clear b1 b2
     go_wp2_with fail
     go_roundw
     case rel=>exact ⟨3,by go_num,by omega,fun _=>HG.out.1 (by omega),fun _=>HG.out.2.1 (by omega),fun _=>HN.out,by omega,trivial⟩
     case measure=>first|(simp [intOf];done)|(simp [intOf];omega)|fail
  ·by_cases b1:u3<0
   ·have d1:decide (u3<0)=true:=decide_eq_true b1
    go_wp2_with fail
    go_ret
    refine ⟨ret_bool ?_,HB.out⟩
    symm
    unfold Fl.okB
    rw [decide_eq_false_iff_not]
    simp only
    omega
   ·have d1:decide (u3<0)=false:=decide_eq_false b1
    by_cases b2:sz<u3
    ·have d2:decide (sz<u3)=true:=decide_eq_true b2
     go_wp2_with fail
     go_ret
     refine ⟨ret_bool ?_,HB.out⟩
     symm
     unfold Fl.okB
     rw [decide_eq_false_iff_not]
     simp only
     omega
    ·have d2:decide (sz<u3)=false:=decide_eq_false b2
     have HN:=Zh (show 0≤u3∧u3≤sz by omega)
     clear b1 b2
     go_wp2_with fail
     go_roundw
     case rel=>exact ⟨4,by go_num,by omega,fun _=>HG.out.1 (by omega),fun _=>HG.out.2.1 (by omega),fun _=>HG.out.2.2.1 (by omega),fun _=>HN.out,trivial⟩
     case measure=>first|(simp [intOf];done)|(simp [intOf];omega)|fail
  ·obtain ⟨g0,g1,g2,g3⟩:=HG.out
   have q0:=g0 (by omega)
   have q1:=g1 (by omega)
   have q2:=g2 (by omega)
   have q3:=g3 (by omega)
   have HQ:=Zh (And.intro q0 (And.intro q1 (And.intro q2 q3)))
   clear g0 g1 g2 g3 q0 q1 q2 q3
   by_cases b1:0≤s
   ·have d1:decide (0≤s)=true:=decide_eq_true b1
    by_cases b2:s<1073741824
    ·have d2:decide (s<1073741824)=true:=decide_eq_true b2
     go_wp2_with fail
     go_ret
     refine ⟨ret_bool ?_,HB.out⟩
     symm
     unfold Fl.okB
     rw [decide_eq_true_eq]
     have:=HQ.out
     simp only
     omega
    ·have d2:decide (s<1073741824)=false:=decide_eq_false b2
     go_wp2_with fail
     go_ret
     refine ⟨ret_bool ?_,HB.out⟩
     symm
     unfold Fl.okB
     rw [decide_eq_false_iff_not]
     simp only
     omega
   ·have d1:decide (0≤s)=false:=decide_eq_false b1
    go_wp2_with fail
    go_ret
    refine ⟨ret_bool ?_,HB.out⟩
    symm
    unfold Fl.okB
    rw [decide_eq_false_iff_not]
    simp only
    omega
end
end Go.Proofs.YtpjchngjhijgmaaGreat
namespace Go.Proofs.YtpjchngjhijgmaaGreat
open Go.RowKit
section
set_option maxRecDepth 4000
set_option maxHeartbeats 4000000
theorem Zq800 (c:Rg) (p:Pl) (w:World):Calls Tryz.prog 131 #[c.val,p.val] w fun e w'=>e=.returned (.int .i64 (rnum c p))∧Below w.heap.size w w':=by
 obtain ⟨a,b,sz⟩:=c
 obtain ⟨s,o⟩:=p
 have hr:=Zq200 ⟨a,b,sz⟩
 obtain ⟨ok,hok⟩:∃ ok,Rg.okB ⟨a,b,sz⟩=ok:=⟨_,rfl⟩
 rw [hok] at hr
 have HOK:=Zh hok
 unfold Rg.val at hr ⊢
 unfold Pl.val
 have HR:=Zh hr
 clear hr hok
 have HB0:=Zh (show Below w.heap.size w ((w.alloc (.cells #[.int .i64 a,.int .i64 b,.int .i64 sz] 26)).alloc (.cells #[.int .i64 s,.int .i64 o] 41)) from (Zq7 _ _).trans ((Zq7 _ _).mono (by simp)))
 obtain ⟨w2,hw2⟩:∃ x,x=(w.alloc (.cells #[.int .i64 a,.int .i64 b,.int .i64 sz] 26)).alloc (.cells #[.int .i64 s,.int .i64 o] 41):=⟨_,rfl⟩
 have e0:w2.cell? ⟨w.heap.size,0,none⟩=some (.int .i64 a):=by rw [hw2];simp
 have e1:w2.cell? ⟨w.heap.size,1,none⟩=some (.int .i64 b):=by rw [hw2];simp
 have e2:w2.cell? ⟨w.heap.size,2,none⟩=some (.int .i64 sz):=by rw [hw2];simp
 have f0:w2.cell? ⟨w.heap.size+1,0,none⟩=some (.int .i64 s):=by rw [hw2];simp
 have f1:w2.cell? ⟨w.heap.size+1,1,none⟩=some (.int .i64 o):=by rw [hw2];simp
 have hsz:w.heap.size+1<w2.heap.size:=by rw [hw2];simp
 have HW:=Zh hw2
 clear hw2
 go_enter Tryz.func131,Tryz.ntmps131
 go_upto_region 1 with fail
 rw [←HW.out]
 rw [←HW.out] at HB0
 go_wp2_with fail
 refine (HR.out w2).mono ?_
 rintro e w3 ⟨rfl,hb3⟩
 have g0:w3.cell? ⟨w.heap.size,0,none⟩=some (.int .i64 a):=(hb3.cell (by simp;omega)).trans e0
 have g1:w3.cell? ⟨w.heap.size,1,none⟩=some (.int .i64 b):=(hb3.cell (by simp;omega)).trans e1
 have h0:w3.cell? ⟨w.heap.size+1,0,none⟩=some (.int .i64 s):=(hb3.cell (by simp;omega)).trans f0
 have h1:w3.cell? ⟨w.heap.size+1,1,none⟩=some (.int .i64 o):=(hb3.cell (by simp;omega)).trans f1
 have HB:=Zh (HB0.out.trans (hb3.mono (by omega)))
 have HLT:=Zh (Nat.lt_of_lt_of_le hsz hb3.size)
 clear e0 e1 e2 f0 f1 hb3
 have hlt3:w.heap.size+1<w3.heap.size:=HLT.out
 cases ok with
 | false =>
  have HV:Hid (rnum ⟨a,b,sz⟩ ⟨s,o⟩=0):=Zh (by unfold rnum;rw [if_pos (.inl HOK.out)])
  go_wp2_with fail
  go_ret
  rw [HV.out]
  exact ⟨rfl,HB.out⟩
 | true =>
  by_cases hbad:s<0∨1073741824<s∨o<0∨a≤o
  ·have HV:Hid (rnum ⟨a,b,sz⟩ ⟨s,o⟩=0):=Zh (by unfold rnum;rw [if_pos (.inr hbad)])
   by_cases b1:s<0
   ·have d1:decide (s<0)=true:=decide_eq_true b1
    go_wp2_with fail
    go_ret
    rw [HV.out]
    exact ⟨rfl,HB.out⟩
   ·have d1:decide (s<0)=false:=decide_eq_false b1
    by_cases b2:1073741824<s
    ·have d2:decide (1073741824<s)=true:=decide_eq_true b2
     go_wp2_with fail
     go_ret
     rw [HV.out]
     exact ⟨rfl,HB.out⟩
    ·have d2:decide (1073741824<s)=false:=decide_eq_false b2
     by_cases b3:o<0
     ·have d3:decide (o<0)=true:=decide_eq_true b3
      go_wp2_with fail
      go_ret
      rw [HV.out]
      exact ⟨rfl,HB.out⟩
     ·have d3:decide (o<0)=false:=decide_eq_false b3
      have d4:decide (a≤o)=true:=decide_eq_true (by omega)
      go_wp2_with fail
      go_ret
      rw [HV.out]
      exact ⟨rfl,HB.out⟩
  ·have d1:decide (s<0)=false:=decide_eq_false (by omega)
   have d2:decide (1073741824<s)=false:=decide_eq_false (by omega)
   have d3:decide (o<0)=false:=decide_eq_false (by omega)
   have d4:decide (a≤o)=false:=decide_eq_false (by omega)
   have hk:=HOK.out
   unfold Rg.okB at hk
   rw [decide_eq_true_eq] at hk
   simp only at hk
   have hb0:¬ b=0:=by omega
   have HV:Hid (rnum ⟨a,b,sz⟩ ⟨s,o⟩=s % b*a+o):=Zh (by unfold rnum;rw [if_neg (fun q=>q.elim (fun q=>by rw [HOK.out] at q;cases q) hbad)])
   have m0:0≤s % b:=Int.emod_nonneg _ hb0
   have m1:s % b<b:=Int.emod_lt_of_pos _ (by omega)
   have hr:Int.tmod s b=s % b:=Int.tmod_eq_emod_of_nonneg (by omega)
   have m2:0≤s % b*a:=Int.mul_nonneg m0 (by omega)
   have m3:s % b*a≤8*4:=Int.mul_le_mul (by omega) (by omega) (by omega) (by omega)
   have hw1:IntKind.i64.wrap (s % b)=s % b:=by rw [IntKind.wrap_i64];omega
   have hw2:IntKind.i64.wrap (s % b*a)=s % b*a:=by rw [IntKind.wrap_i64];omega
   have hw3:IntKind.i64.wrap (s % b*a+o)=s % b*a+o:=by rw [IntKind.wrap_i64];omega
   clear hbad hk
   go_upto_region 3 with fail
   go_quiet (fail)
   go_wp2_with fail
   go_ret
   rw [HV.out]
   exact ⟨rfl,HB.out.trans ⟨rfl,rfl,rfl,Nat.le_refl _,fun _ _=>rfl⟩⟩
end
end Go.Proofs.YtpjchngjhijgmaaGreat
