import Derived.Test.YtpjchngjhijgmaaGreatTR03
set_option linter.all false
namespace Go.Proofs.YtpjchngjhijgmaaGreat
open Go.RowKit
section
variable {W w : World} {I : Hp} {l : List HP}
set_option maxRecDepth 4000
set_option maxHeartbeats 8000000
theorem ref10_right (c:Rg) (w:World):Calls Tryz.prog 95 #[c.val] w fun e w'=>e=.returned (.bool c.okB)∧Below w.heap.size w w':=by
 obtain ⟨a,b,c⟩:=c
 unfold Rg.val
 go_enter Tryz.func95,Tryz.ntmps95
 go_wp2
 all_goals
  go_ret
  refine ⟨ret_bool (Zq756 ?_),Zq3 _ _⟩
  simp only [decide_eq_true_eq,Bool.false_eq_true,false_iff]
  omega
theorem ref10_num (c:Rg) (p:Pl) (w:World):Calls Tryz.prog 61 #[c.val,p.val] w fun e w'=>e=.returned (.int .i64 (rnum c p))∧Below w.heap.size w w':=by
 obtain ⟨a,b,sz⟩:=c
 obtain ⟨s,o⟩:=p
 have hr:=ref10_right ⟨a,b,sz⟩
 obtain ⟨ok,hok⟩:∃ ok,Rg.okB ⟨a,b,sz⟩=ok:=⟨_,rfl⟩
 rw [hok] at hr
 have HOK:=Zh hok
 unfold Rg.val at hr ⊢
 unfold Pl.val
 have HR:=Zh hr
 clear hr hok
 have HB0:=Zh (show Below w.heap.size w ((w.alloc (.cells #[.int .i64 a,.int .i64 b,.int .i64 sz] 26)).alloc (.cells #[.int .i64 s,.int .i64 o] 41)) from (Zq3 _ _).trans ((Zq3 _ _).mono (by simp)))
 obtain ⟨w2,hw2⟩:∃ x,x=(w.alloc (.cells #[.int .i64 a,.int .i64 b,.int .i64 sz] 26)).alloc (.cells #[.int .i64 s,.int .i64 o] 41):=⟨_,rfl⟩
 have e0:w2.cell? ⟨w.heap.size,0,none⟩=some (.int .i64 a):=by rw [hw2];simp
 have e1:w2.cell? ⟨w.heap.size,1,none⟩=some (.int .i64 b):=by rw [hw2];simp
 have e2:w2.cell? ⟨w.heap.size,2,none⟩=some (.int .i64 sz):=by rw [hw2];simp
 have f0:w2.cell? ⟨w.heap.size+1,0,none⟩=some (.int .i64 s):=by rw [hw2];simp
 have f1:w2.cell? ⟨w.heap.size+1,1,none⟩=some (.int .i64 o):=by rw [hw2];simp
 have hsz:w.heap.size+1<w2.heap.size:=by rw [hw2];simp
 have HW:=Zh hw2
 clear hw2
 go_enter Tryz.func61,Tryz.ntmps61
 go_upto_region 1 with fail
 rw [←HW.out]
 rw [←HW.out] at HB0
 go_wp2_with fail
 refine (HR.out w2).mono ?_
 rintro e w3 ⟨rfl,hb3⟩
 have g0:w3.cell? ⟨w.heap.size,0,none⟩=some (.int .i64 a):=(hb3.cell (by simp;omega)).trans e0
 have g1:w3.cell? ⟨w.heap.size,1,none⟩=some (.int .i64 b):=(hb3.cell (by simp;omega)).trans e1
 have h0:w3.cell? ⟨w.heap.size+1,0,none⟩=some (.int .i64 s):=(hb3.cell (by simp;omega)).trans f0
 have h1:w3.cell? ⟨w.heap.size+1,1,none⟩=some (.int .i64 o):=(hb3.cell (by simp;omega)).trans f1
 have HB:=Zh (HB0.out.trans (hb3.mono (by omega)))
 have HLT:=Zh (Nat.lt_of_lt_of_le hsz hb3.size)
 clear e0 e1 e2 f0 f1 hb3
 have hlt3:w.heap.size+1<w3.heap.size:=HLT.out
 cases ok with
 | false =>
  have HV:Hid (rnum ⟨a,b,sz⟩ ⟨s,o⟩=0):=Zh (by unfold rnum;rw [if_pos (.inl HOK.out)])
  go_wp2_with fail
  go_ret
  rw [HV.out]
  exact ⟨rfl,HB.out⟩
 | true =>
  by_cases hbad:s<0∨1073741824<s∨o<0∨a≤o
  ·have HV:Hid (rnum ⟨a,b,sz⟩ ⟨s,o⟩=0):=Zh (by unfold rnum;rw [if_pos (.inr hbad)])
   by_cases b1:s<0
   ·have d1:decide (s<0)=true:=decide_eq_true b1
    go_wp2_with fail
    go_ret
    rw [HV.out]
    exact ⟨rfl,HB.out⟩
   ·have d1:decide (s<0)=false:=decide_eq_false b1
    by_cases b2:1073741824<s
    ·have d2:decide (1073741824<s)=true:=decide_eq_true b2
     go_wp2_with fail
     go_ret
     rw [HV.out]
     exact ⟨rfl,HB.out⟩
    ·have d2:decide (1073741824<s)=false:=decide_eq_false b2
     by_cases b3:o<0
     ·have d3:decide (o<0)=true:=decide_eq_true b3
      go_wp2_with fail
      go_ret
      rw [HV.out]
      exact ⟨rfl,HB.out⟩
     ·have d3:decide (o<0)=false:=decide_eq_false b3
      have d4:decide (a≤o)=true:=decide_eq_true (by omega)
      go_wp2_with fail
      go_ret
      rw [HV.out]
      exact ⟨rfl,HB.out⟩
  ·have d1:decide (s<0)=false:=decide_eq_false (by omega)
   have d2:decide (1073741824<s)=false:=decide_eq_false (by omega)
   have d3:decide (o<0)=false:=decide_eq_false (by omega)
   have d4:decide (a≤o)=false:=decide_eq_false (by omega)
   have hk:=HOK.out
   unfold Rg.okB at hk
   rw [decide_eq_true_eq] at hk
   simp only at hk
   have hb0:¬ b=0:=by omega
   have HV:Hid (rnum ⟨a,b,sz⟩ ⟨s,o⟩=s % b*a+o):=Zh (by unfold rnum;rw [if_neg (fun q=>q.elim (fun q=>by rw [HOK.out] at q;cases q) hbad)])
   have m0:0≤s % b:=Int.emod_nonneg _ hb0
   have m1:s % b<b:=Int.emod_lt_of_pos _ (by omega)
   have hr:Int.tmod s b=s % b:=Int.tmod_eq_emod_of_nonneg (by omega)
   have m2:0≤s % b*a:=Int.mul_nonneg m0 (by omega)
   have m3:s % b*a≤8*4:=Int.mul_le_mul (by omega) (by omega) (by omega) (by omega)
   have hw1:IntKind.i64.wrap (s % b)=s % b:=by rw [IntKind.wrap_i64];omega
   have hw2:IntKind.i64.wrap (s % b*a)=s % b*a:=by rw [IntKind.wrap_i64];omega
   have hw3:IntKind.i64.wrap (s % b*a+o)=s % b*a+o:=by rw [IntKind.wrap_i64];omega
   clear hbad hk
   go_upto_region 3 with fail
   go_quiet (fail)
   go_wp2_with fail
   go_ret
   rw [HV.out]
   exact ⟨rfl,HB.out.trans ⟨rfl,rfl,rfl,Nat.le_refl _,fun _ _=>rfl⟩⟩
def Fl.cells (f:Fl):Array Value:=#[.int .i64 f.set,.int .i64 f.u0,.int .i64 f.u1,.int .i64 f.u2,.int .i64 f.u3]
theorem fl_cell {g:Nat} {s u0 u1 u2 u3:Int} {ty:TypeId} {f:Nat × Nat} (h:St W I w (HP.pt g (.cells #[.int .i64 s,.int .i64 u0,.int .i64 u1,.int .i64 u2,.int .i64 u3] ty f)::l)) {k:Nat} (hk:k<4):w.cell? ⟨g,1+k,none⟩=some (.int .i64 ((⟨s,u0,u1,u2,u3⟩:Fl).get k)):=by
 obtain ⟨y0,y1,y2,y3,y4⟩:=Zq22 h
 rcases (show k=0∨k=1∨k=2∨k=3 by omega) with rfl|rfl|rfl|rfl
 ·exact y1
 ·exact y2
 ·exact y3
 ·exact y4
theorem fl_set {g:Nat} {s u0 u1 u2 u3 x:Int} {ty:TypeId} {f:Nat × Nat} (h:St W I w (HP.pt g (.cells #[.int .i64 s,.int .i64 u0,.int .i64 u1,.int .i64 u2,.int .i64 u3] ty f)::l)) {k:Nat} (hk:k<4):St W I (w.setCell ⟨g,1+k,none⟩ (.int .i64 x)) (HP.pt g (.cells ((⟨s,u0,u1,u2,u3⟩:Fl).put k x).cells ty f)::l):=by
 rcases (show k=0∨k=1∨k=2∨k=3 by omega) with rfl|rfl|rfl|rfl
 ·exact h.setCell 1 (.int .i64 x)
 ·exact h.setCell 2 (.int .i64 x)
 ·exact h.setCell 3 (.int .i64 x)
 ·exact h.setCell 4 (.int .i64 x)
theorem put10_fit {ca cb:Code} {Q:Exit→Act→World→Prop} {K:Act→World→Prop} (hK:∀ x y,cb.wp Tryz.prog Q x y→K x y) (hC:(Tryz.f60).body.bind (fromR 9)=some (.seq ca cb)) {x0 x1 x6 x7 x10 x11 x12 x13 x14 x15 x16 x17 x18 x19 x20 x21 x22 x23 x24 x25 x26 x27 x28 x29 x30 x31 x32 x33 x34 x35 x36 x37 x38 x39 x40 x41 x42 x43 x44 x45 x46 x47 x48 x49 x50 x51 x52 x53 x54 x55 x56 x57 x58 x59 x60 x61 x62 x63 x64 x65 x66 x67 x68 x69 x70 x71 x72 x73 x74 x75 x76 x77 x78 x79 x80 x81 x82 x83 x84 x85 x86 x87 x88 x89 x90 x91 x92 x93 x94 x95 x96 x97 x98 x99 x100 x101 x102 x103 x104 x105 x106 x107 x108 x109:Value} {g4 g5 g8 g9:Nat} {a b sz s u0 u1 u2 u3 seq n:Int} {k:Nat}
  (h:St W I w (HP.pt g4 (.cells #[.int .i64 a,.int .i64 b,.int .i64 sz] 26)::HP.pt g5 (.cells #[.int .i64 s,.int .i64 u0,.int .i64 u1,.int .i64 u2,.int .i64 u3] 108)::HP.pt g8 (.cells #[.int .i64 0,.int .i64 0,.int .i64 0,.int .i64 0,.int .i64 0] 108)::HP.pt g9 (.cells #[.int .i64 0,.int .i64 0] 41)::l))
  (ha:1≤a∧a≤4) (ho:Int.tmod seq a=k) (hk:k<4) (hn:1≤n∧n≤90) (hu:0≤(⟨s,u0,u1,u2,u3⟩:Fl).get k∧(⟨s,u0,u1,u2,u3⟩:Fl).get k≤4096) (hc:(⟨s,u0,u1,u2,u3⟩:Fl).get k+(n+22)≤sz)
  (hQ:∀ (y0 y1 y2 y3 y4 y5 y6 y7 y12 y13 y14 y15 y16 y17 y18 y19 y20 y21 y22 y23 y24 y25 y26 y27 y28 y29 y30 y31 y32 y33 y34 y35 y36 y37 y38 y39 y40 y41 y42 y43 y44 y45 y46 y47 y48 y49 y50 y51 y52 y53 y54 y55 y56 y57 y58 y59 y60 y61 y62 y63 y64 y65 y66 y67 y68 y69 y70 y71 y72 y73 y74 y75 y76 y77 y78 y79 y80 y81 y82 y83 y84 y85 y86 y87 y88 y89 y90 y91 y92 y93 y94 y95 y96 y97 y98 y99 y100 y101 y102 y103 y104 y105 y106 y107 y108 y109:Value) (w':World),St W I w' (HP.pt g8 (.cells ((⟨s,u0,u1,u2,u3⟩:Fl).put k ((⟨s,u0,u1,u2,u3⟩:Fl).get k+(n+22))).cells 108)::HP.pt g9 (.cells #[.int .i64 s,.int .i64 k] 41)::l)→Q .ret ⟨#[y0,y1,y2,y3,y4,y5,y6,y7,.pointer (some ⟨g8,0,none⟩),.pointer (some ⟨g9,0,none⟩),.bool false,.bool true,y12,y13,y14,y15,y16,y17,y18,y19,y20,y21,y22,y23,y24,y25,y26,y27,y28,y29,y30,y31,y32,y33,y34,y35,y36,y37,y38,y39,y40,y41,y42,y43,y44,y45,y46,y47,y48,y49,y50,y51,y52,y53,y54,y55,y56,y57,y58,y59,y60,y61,y62,y63,y64,y65,y66,y67,y68,y69,y70,y71,y72,y73,y74,y75,y76,y77,y78,y79,y80,y81,y82,y83,y84,y85,y86,y87,y88,y89,y90,y91,y92,y93,y94,y95,y96,y97,y98,y99,y100,y101,y102,y103,y104,y105,y106,y107,y108,y109],[]⟩ w') :
  ca.wp Tryz.prog (Exit.then K Q) ⟨#[x0,x1,.int .i64 seq,.int .i64 n,.pointer (some ⟨g4,0,none⟩),.pointer (some ⟨g5,0,none⟩),x6,x7,.pointer (some ⟨g8,0,none⟩),.pointer (some ⟨g9,0,none⟩),x10,x11,x12,x13,x14,x15,x16,x17,x18,x19,x20,x21,x22,x23,x24,x25,x26,x27,x28,x29,x30,x31,x32,x33,x34,x35,x36,x37,x38,x39,x40,x41,x42,x43,x44,x45,x46,x47,x48,x49,x50,x51,x52,x53,x54,x55,x56,x57,x58,x59,x60,x61,x62,x63,x64,x65,x66,x67,x68,x69,x70,x71,x72,x73,x74,x75,x76,x77,x78,x79,x80,x81,x82,x83,x84,x85,x86,x87,x88,x89,x90,x91,x92,x93,x94,x95,x96,x97,x98,x99,x100,x101,x102,x103,x104,x105,x106,x107,x108,x109],[]⟩ w:=by
 injection hC with hC
 injection hC with hC1 hC2
 subst hC1 hC2
 obtain ⟨x0,x1,x2⟩:=Zq62 h
 obtain ⟨f,hf⟩:∃ f:Fl,f=⟨s,u0,u1,u2,u3⟩:=⟨_,rfl⟩
 have h1:=h.pull 1 _ rfl
 have y:=fl_cell h1 hk
 rw [←hf] at y hu hc hQ
 obtain ⟨u,hu0⟩:∃ u,u=f.get k:=⟨_,rfl⟩
 rw [←hu0] at y hu hc hQ
 have f5:=frozen_of_row h1.heap
 have ha0:¬ a=0:=by omega
 have hd:decide (u+(n+22)≤sz)=true:=decide_eq_true hc
 have hw0:IntKind.i64.wrap (k:Int)=k:=by rw [IntKind.wrap_i64];omega
 have hw1:IntKind.i64.wrap (n+22)=n+22:=by rw [IntKind.wrap_i64];omega
 have hw2:IntKind.i64.wrap (u+(n+22))=u+(n+22):=by rw [IntKind.wrap_i64];omega
 have HF:=Zh hf
 have HU:=Zh hu0
 have HQ:=Zh hQ
 have H1:=Zh h1
 clear h h1 hQ hf hc ha hu hu0 hn
 go_upto_region 11 with fail
 go_quiet (fail)
 have h2:=H1.out.drewN nq
 generalize (World.drewN _ _:World)=w3 at h2 ⊢
 clear x0 x1 x2 y f5
 have y:=fl_cell h2 hk
 rw [←HF.out,←HU.out] at y
 have f5:=frozen_of_row h2.heap
 have H2:=Zh h2
 clear h2
 go_upto_region 13 with fail
 have h3:=fl_set (x:=u+(n+22)) H2.out hk
 rw [←HF.out] at h3
 generalize (World.setCell _ _ _:World)=w4 at h3 ⊢
 obtain ⟨fq,hfq⟩:∃ q,q=f.put k (u+(n+22)):=⟨_,rfl⟩
 have hqs:fq.set=s:=by rw [hfq,HF.out];unfold Fl.put;(repeat' split) <;> rfl
 rw [←hfq] at h3
 have HFQ:=Zh hfq
 obtain ⟨q,q0,q1,q2,q3⟩:=fq
 obtain rfl:q=s:=hqs
 simp only [Fl.cells] at h3
 clear hfq y f5
 obtain ⟨x0,x1,x2,x3,x4⟩:=Zq22 h3
 have h4:=h3.pull 2 _ rfl
 obtain ⟨y0,y1,y2,y3,y4⟩:=Zq22 h4
 obtain ⟨z0,z1⟩:=Zq48 (h3.pull 3 _ rfl)
 have f8:=frozen_of_row h4.heap
 have f9:=frozen_of_row (h3.pull 3 _ rfl).heap
 have H3:=Zh h3
 clear h3 h4
 refine Zq7 (fun w'=>w'.cell? ⟨g5,0,none⟩=some (.int .i64 q)∧w'.cell? ⟨g5,1,none⟩=some (.int .i64 q0)∧w'.cell? ⟨g5,2,none⟩=some (.int .i64 q1)∧w'.cell? ⟨g5,3,none⟩=some (.int .i64 q2)∧w'.cell? ⟨g5,4,none⟩=some (.int .i64 q3)) [0,1,2,3,4] [5] [6,7,8] (by kernel_rfl) (by kernel_rfl) (by (exact ⟨x0,x1,x2,x3,x4⟩)) ?_
 simp only [pickL,Zl6,Zl7]
 repeat (refine Zq4 _ (Or.inl ⟨by rfl,by (intro w hSw;(try dsimp only at hSw);go_simp;try with_reducible rfl)⟩) ?_;(try simp only [Act.put,List.setIfInBounds_toArray,Zl4,Zl5]))
 refine Zq10 ?_
 unfold Zq13
 go_wp2_with fail
 have h5:=((H3.out.pull 2 _ rfl).set5 (.int .i64 q) (.int .i64 q0) (.int .i64 q1) (.int .i64 q2) (.int .i64 q3)).drew
 generalize (World.drew _:World)=w5 at h5 ⊢
 clear x0 x1 x2 x3 x4 y0 y1 y2 y3 y4 z0 z1 f8 f9
 obtain ⟨x0,x1,x2,x3,x4⟩:=Zq22 (h5.pull 1 _ rfl)
 obtain ⟨z0,z1⟩:=Zq48 (h5.pull 3 _ rfl)
 have f9:=frozen_of_row (h5.pull 3 _ rfl).heap
 have H5:=Zh h5
 clear h5
 refine Zq0 ⟨x0,x1,x2,x3,x4⟩ ?_
 unfold Zq13
 go_wp2_with fail
 have h6:=(H5.out.pull 3 _ rfl).set2 (.int .i64 q) (.int .i64 k)
 generalize (World.setCell _ _ _:World)=w6 at h6 ⊢
 have H6:=Zh h6
 clear h6
 refine NoPanic.normal ?_
 go_wp2_with fail
 have h7:=(((H6.out.pull 2 _ rfl).drop).pull 2 _ rfl).drop
 simp only [Zl0,Zl1] at h7
 refine HQ.out _ _ _ _ _ _ _ _ _ _ _ _ _ _ _ _ _ _ _ _ _ _ _ _ _ _ _ _ _ _ _ _ _ _ _ _ _ _ _ _ _ _ _ _ _ _ _ _ _ _ _ _ _ _ _ _ _ _ _ _ _ _ _ _ _ _ _ _ _ _ _ _ _ _ _ _ _ _ _ _ _ _ _ _ _ _ _ _ _ _ _ _ _ _ _ _ _ _ _ _ _ _ _ _ _ _ _ ?_
 rw [←HFQ.out]
 simp only [Fl.cells]
 exact h7.perm (by ((try simp only [Zl0,Zl1,Zl2,Zl3]);repeat (first|with_reducible exact List.Perm.refl _|(apply Zq6;(· repeat (first|with_reducible exact Zq5|with_reducible apply Zq2))))))
theorem put10_next {ca cb:Code} {Q:Exit→Act→World→Prop} {K:Act→World→Prop} (hK:∀ x y,cb.wp Tryz.prog Q x y→K x y) (hC:(Tryz.f60).body.bind (fromR 9)=some (.seq ca cb)) {x0 x1 x6 x7 x10 x11 x12 x13 x14 x15 x16 x17 x18 x19 x20 x21 x22 x23 x24 x25 x26 x27 x28 x29 x30 x31 x32 x33 x34 x35 x36 x37 x38 x39 x40 x41 x42 x43 x44 x45 x46 x47 x48 x49 x50 x51 x52 x53 x54 x55 x56 x57 x58 x59 x60 x61 x62 x63 x64 x65 x66 x67 x68 x69 x70 x71 x72 x73 x74 x75 x76 x77 x78 x79 x80 x81 x82 x83 x84 x85 x86 x87 x88 x89 x90 x91 x92 x93 x94 x95 x96 x97 x98 x99 x100 x101 x102 x103 x104 x105 x106 x107 x108 x109:Value} {g4 g5 g8 g9:Nat} {a b sz s u0 u1 u2 u3 seq n:Int} {k:Nat}
  (h:St W I w (HP.pt g4 (.cells #[.int .i64 a,.int .i64 b,.int .i64 sz] 26)::HP.pt g5 (.cells #[.int .i64 s,.int .i64 u0,.int .i64 u1,.int .i64 u2,.int .i64 u3] 108)::HP.pt g8 (.cells #[.int .i64 0,.int .i64 0,.int .i64 0,.int .i64 0,.int .i64 0] 108)::HP.pt g9 (.cells #[.int .i64 0,.int .i64 0] 41)::l))
  (ha:1≤a∧a≤4) (ho:Int.tmod seq a=k) (hk:k<4) (hn:1≤n∧n≤90) (hu:0≤(⟨s,u0,u1,u2,u3⟩:Fl).get k∧(⟨s,u0,u1,u2,u3⟩:Fl).get k≤4096) (hs:0≤s∧s<1073741824) (hc:¬ (⟨s,u0,u1,u2,u3⟩:Fl).get k+(n+22)≤sz)
  (hQ:∀ (y0 y1 y2 y3 y4 y5 y6 y7 y12 y13 y14 y15 y16 y17 y18 y19 y20 y21 y22 y23 y24 y25 y26 y27 y28 y29 y30 y31 y32 y33 y34 y35 y36 y37 y38 y39 y40 y41 y42 y43 y44 y45 y46 y47 y48 y49 y50 y51 y52 y53 y54 y55 y56 y57 y58 y59 y60 y61 y62 y63 y64 y65 y66 y67 y68 y69 y70 y71 y72 y73 y74 y75 y76 y77 y78 y79 y80 y81 y82 y83 y84 y85 y86 y87 y88 y89 y90 y91 y92 y93 y94 y95 y96 y97 y98 y99 y100 y101 y102 y103 y104 y105 y106 y107 y108 y109:Value) (w':World),St W I w' (HP.pt g8 (.cells ((⟨s+1,0,0,0,0⟩:Fl).put k (n+22)).cells 108)::HP.pt g9 (.cells #[.int .i64 (s+1),.int .i64 k] 41)::l)→Q .ret ⟨#[y0,y1,y2,y3,y4,y5,y6,y7,.pointer (some ⟨g8,0,none⟩),.pointer (some ⟨g9,0,none⟩),.bool true,.bool true,y12,y13,y14,y15,y16,y17,y18,y19,y20,y21,y22,y23,y24,y25,y26,y27,y28,y29,y30,y31,y32,y33,y34,y35,y36,y37,y38,y39,y40,y41,y42,y43,y44,y45,y46,y47,y48,y49,y50,y51,y52,y53,y54,y55,y56,y57,y58,y59,y60,y61,y62,y63,y64,y65,y66,y67,y68,y69,y70,y71,y72,y73,y74,y75,y76,y77,y78,y79,y80,y81,y82,y83,y84,y85,y86,y87,y88,y89,y90,y91,y92,y93,y94,y95,y96,y97,y98,y99,y100,y101,y102,y103,y104,y105,y106,y107,y108,y109],[]⟩ w') :
  ca.wp Tryz.prog (Exit.then K Q) ⟨#[x0,x1,.int .i64 seq,.int .i64 n,.pointer (some ⟨g4,0,none⟩),.pointer (some ⟨g5,0,none⟩),x6,x7,.pointer (some ⟨g8,0,none⟩),.pointer (some ⟨g9,0,none⟩),x10,x11,x12,x13,x14,x15,x16,x17,x18,x19,x20,x21,x22,x23,x24,x25,x26,x27,x28,x29,x30,x31,x32,x33,x34,x35,x36,x37,x38,x39,x40,x41,x42,x43,x44,x45,x46,x47,x48,x49,x50,x51,x52,x53,x54,x55,x56,x57,x58,x59,x60,x61,x62,x63,x64,x65,x66,x67,x68,x69,x70,x71,x72,x73,x74,x75,x76,x77,x78,x79,x80,x81,x82,x83,x84,x85,x86,x87,x88,x89,x90,x91,x92,x93,x94,x95,x96,x97,x98,x99,x100,x101,x102,x103,x104,x105,x106,x107,x108,x109],[]⟩ w:=by
 injection hC with hC
 injection hC with hC1 hC2
 subst hC1 hC2
 obtain ⟨x0,x1,x2⟩:=Zq62 h
 obtain ⟨f,hf⟩:∃ f:Fl,f=⟨s,u0,u1,u2,u3⟩:=⟨_,rfl⟩
 have h1:=h.pull 1 _ rfl
 have y:=fl_cell h1 hk
 rw [←hf] at y hu hc
 obtain ⟨u,hu0⟩:∃ u,u=f.get k:=⟨_,rfl⟩
 rw [←hu0] at y hu hc
 have f5:=frozen_of_row h1.heap
 have ha0:¬ a=0:=by omega
 have hd:decide (u+(n+22)≤sz)=false:=decide_eq_false hc
 have hw3:IntKind.i64.wrap (s+1)=s+1:=by rw [IntKind.wrap_i64];omega
 have hw0:IntKind.i64.wrap (k:Int)=k:=by rw [IntKind.wrap_i64];omega
 have hw1:IntKind.i64.wrap (n+22)=n+22:=by rw [IntKind.wrap_i64];omega
 have hw2:IntKind.i64.wrap (u+(n+22))=u+(n+22):=by rw [IntKind.wrap_i64];omega
 have HF:=Zh hf
 have HU:=Zh hu0
 have HQ:=Zh hQ
 have H1:=Zh h1
 clear h h1 hQ hf hc ha hu hu0 hn
 go_upto_region 11 with fail
 go_quiet (fail)
 have h2:=H1.out.drewN nq
 generalize (World.drewN _ _:World)=w3 at h2 ⊢
 clear x0 x1 x2 y f5
 obtain ⟨y0,_⟩:=Zq22 h2
 have H2:=Zh h2
 clear h2 hs
 go_upto_region 15 with fail
 have h3:=H2.out.alloc (.cells #[.int .i64 (s+1),.int .i64 0,.int .i64 0,.int .i64 0,.int .i64 0] 108)
 obtain ⟨g16,hg16⟩:∃ g,g=w3.heap.size:=⟨_,rfl⟩
 rw [←hg16] at h3 ⊢
 generalize (World.alloc _ _:World)=w4 at h3 ⊢
 have f16:=frozen_of_row h3.heap
 have y16:=fl_cell h3 hk
 have hl16:=h3.lt
 have H3:=Zh h3
 clear h3 y0 hg16 H2
 go_upto_region 16 with fail
 have h4:=fl_set (x:=n+22) H3.out hk
 generalize (World.setCell _ _ _:World)=w5 at h4 ⊢
 obtain ⟨fq,hfq⟩:∃ q,q=(⟨s+1,0,0,0,0⟩:Fl).put k (n+22):=⟨_,rfl⟩
 have hqs:fq.set=s+1:=by rw [hfq];unfold Fl.put;(repeat' split) <;> rfl
 rw [←hfq] at h4
 have HFQ:=Zh hfq
 obtain ⟨q,q0,q1,q2,q3⟩:=fq
 simp only at hqs
 rw [←hqs] at hw3 HQ HFQ
 have HQS:=Zh hqs
 simp only [Fl.cells] at h4
 clear hqs hfq f16 hl16 y16
 obtain ⟨x0,x1,x2,x3,x4⟩:=Zq22 h4
 have h5:=h4.pull 3 _ rfl
 obtain ⟨y0,y1,y2,y3,y4⟩:=Zq22 h5
 obtain ⟨z0,z1⟩:=Zq48 (h4.pull 4 _ rfl)
 have f8:=frozen_of_row h5.heap
 have f9:=frozen_of_row (h4.pull 4 _ rfl).heap
 have H4:=Zh h4
 clear h4 h5
 refine Zq7 (fun w'=>w'.cell? ⟨g16,0,none⟩=some (.int .i64 q)∧w'.cell? ⟨g16,1,none⟩=some (.int .i64 q0)∧w'.cell? ⟨g16,2,none⟩=some (.int .i64 q1)∧w'.cell? ⟨g16,3,none⟩=some (.int .i64 q2)∧w'.cell? ⟨g16,4,none⟩=some (.int .i64 q3)) [0,1,2,3,4] [5] [6,7,8] (by kernel_rfl) (by kernel_rfl) (by (exact ⟨x0,x1,x2,x3,x4⟩)) ?_
 simp only [pickL,Zl6,Zl7]
 repeat (refine Zq4 _ (Or.inl ⟨by rfl,by (intro w hSw;(try dsimp only at hSw);go_simp;try with_reducible rfl)⟩) ?_;(try simp only [Act.put,List.setIfInBounds_toArray,Zl4,Zl5]))
 refine Zq10 ?_
 unfold Zq13
 go_wp2_with fail
 have h5:=((H4.out.pull 3 _ rfl).set5 (.int .i64 q) (.int .i64 q0) (.int .i64 q1) (.int .i64 q2) (.int .i64 q3)).drew
 generalize (World.drew _:World)=w6 at h5 ⊢
 clear x0 x1 x2 x3 x4 y0 y1 y2 y3 y4 z0 z1 f8 f9
 obtain ⟨x0,x1,x2,x3,x4⟩:=Zq22 (h5.pull 1 _ rfl)
 obtain ⟨z0,z1⟩:=Zq48 (h5.pull 4 _ rfl)
 have f9:=frozen_of_row (h5.pull 4 _ rfl).heap
 have H5:=Zh h5
 clear h5
 refine Zq0 ⟨x0,x1,x2,x3,x4⟩ ?_
 unfold Zq13
 go_wp2_with fail
 have h6:=(H5.out.pull 4 _ rfl).set2 (.int .i64 q) (.int .i64 k)
 generalize (World.setCell _ _ _:World)=w7 at h6 ⊢
 have H6:=Zh h6
 clear h6
 refine NoPanic.normal ?_
 go_wp2_with fail
 have h7:=((((H6.out.pull 2 _ rfl).drop).pull 2 _ rfl).drop.pull 2 _ rfl).drop
 simp only [Zl0,Zl1] at h7
 refine HQ.out _ _ _ _ _ _ _ _ _ _ _ _ _ _ _ _ _ _ _ _ _ _ _ _ _ _ _ _ _ _ _ _ _ _ _ _ _ _ _ _ _ _ _ _ _ _ _ _ _ _ _ _ _ _ _ _ _ _ _ _ _ _ _ _ _ _ _ _ _ _ _ _ _ _ _ _ _ _ _ _ _ _ _ _ _ _ _ _ _ _ _ _ _ _ _ _ _ _ _ _ _ _ _ _ _ _ _ ?_
 rw [←HFQ.out]
 simp only [Fl.cells]
 exact h7.perm (by ((try simp only [Zl0,Zl1,Zl2,Zl3]);repeat (first|with_reducible exact List.Perm.refl _|(apply Zq6;(· repeat (first|with_reducible exact Zq5|with_reducible apply Zq2))))))
theorem rput_bad {c:Rg} {f:Fl} {seq n:Int} (h:c.okB=false∨f.okB c=false∨seq<1∨1099511627776<seq∨n<1∨90<n):rput c f seq n=(Fl.zero,⟨0,0⟩,false,false):=by
 unfold rput
 rw [if_pos h]
theorem rput_good {c:Rg} {f:Fl} {seq n:Int} (h1:c.okB=true) (h2:f.okB c=true) (h3:1≤seq∧seq≤1099511627776) (h4:1≤n∧n≤90):rput c f seq n=if f.get (seq % c.splay)+(n+22)≤c.size then (f.put (seq % c.splay) (f.get (seq % c.splay)+(n+22)),⟨f.set,seq % c.splay⟩,false,true)
  else (Fl.put ⟨f.set+1,0,0,0,0⟩ (seq % c.splay) (n+22),⟨f.set+1,seq % c.splay⟩,true,true):=by
 have hn:Zq93 n=n+22:=by unfold Zq93;omega
 unfold rput
 rw [if_neg (by rw [h1,h2];simp;omega),hn]
 by_cases q:f.get (seq % c.splay)+(n+22)≤c.size
 ·rw [if_neg (by omega),if_pos q]
 ·rw [if_pos (by omega),if_neg q]
theorem ref10_put (c:Rg) (f:Fl) (seq n:Int) (w:World):Calls Tryz.prog 60 #[c.val,f.val,.int .i64 seq,.int .i64 n] w fun e w'=>e=.returned (.tuple #[(rput c f seq n).1.val,(rput c f seq n).2.1.val,.bool (rput c f seq n).2.2.1,.bool (rput c f seq n).2.2.2])∧Below w.heap.size w w':=by
 obtain ⟨a,b,sz⟩:=c
 obtain ⟨s,u0,u1,u2,u3⟩:=f
 have hr:=ref10_right ⟨a,b,sz⟩
 have h4:=((((((St.init w).alloc (.cells #[.int .i64 a,.int .i64 b,.int .i64 sz] 26)).alloc (.cells #[.int .i64 s,.int .i64 u0,.int .i64 u1,.int .i64 u2,.int .i64 u3] 108)).alloc (.cells #[.int .i64 0,.int .i64 0,.int .i64 0,.int .i64 0,.int .i64 0] 108)).alloc (.cells #[.int .i64 0,.int .i64 0] 41)).alloc (.cells #[.int .i64 0,.int .i64 0,.int .i64 0,.int .i64 0,.int .i64 0] 108))
 simp only [World.size_alloc] at h4
 obtain ⟨ok,hok⟩:∃ ok,Rg.okB ⟨a,b,sz⟩=ok:=⟨_,rfl⟩
 rw [hok] at hr
 have HOK:=Zh hok
 unfold Rg.val at hr
 have HR:=Zh hr
 have H4:=Zh h4
 have HBAD:=Zh (@rput_bad ⟨a,b,sz⟩ ⟨s,u0,u1,u2,u3⟩ seq n)
 have HGOOD:=Zh (@rput_good ⟨a,b,sz⟩ ⟨s,u0,u1,u2,u3⟩ seq n)
 clear hr hok h4
 obtain ⟨r,hrr⟩:∃ r,rput ⟨a,b,sz⟩ ⟨s,u0,u1,u2,u3⟩ seq n=r:=⟨_,rfl⟩
 rw [hrr] at HBAD HGOOD ⊢
 unfold Rg.val Fl.val
 obtain ⟨g12,hg12⟩:∃ g,g=w.heap.size+1+1+1+1:=⟨_,rfl⟩
 obtain ⟨g9,hg9⟩:∃ g,g=w.heap.size+1+1+1:=⟨_,rfl⟩
 obtain ⟨g8,hg8⟩:∃ g,g=w.heap.size+1+1:=⟨_,rfl⟩
 obtain ⟨g5,hg5⟩:∃ g,g=w.heap.size+1:=⟨_,rfl⟩
 obtain ⟨g4,hg4⟩:∃ g,g=w.heap.size:=⟨_,rfl⟩
 go_enter Tryz.func60,Tryz.ntmps60
 go_upto_region 2 with fail
 have h4:=H4.out
 generalize (World.alloc _ _:World)=w4 at h4 ⊢
 rw [←hg12,←hg9,←hg8,←hg5,←hg4] at h4
 rw [←hg12,←hg9,←hg8,←hg5,←hg4]
 have h4':St w w.hp w4 (HP.pt g12 (.cells #[.int .i64 0,.int .i64 0,.int .i64 0,.int .i64 0,.int .i64 0] 108)::HP.pt g9 (.cells #[.int .i64 0,.int .i64 0] 41)::HP.pt g8 (.cells #[.int .i64 0,.int .i64 0,.int .i64 0,.int .i64 0,.int .i64 0] 108)::HP.pt g5 (.cells #[.int .i64 s,.int .i64 u0,.int .i64 u1,.int .i64 u2,.int .i64 u3] 108)::HP.pt g4 (.cells #[.int .i64 a,.int .i64 b,.int .i64 sz] 26)::[]):=h4
 clear h4 H4 hg12 hg9 hg8 hg5 hg4 hrr
 have H5:=Zh h4'
 obtain ⟨x0,x1,x2⟩:=Zq62 (h4'.pull 4 _ rfl)
 clear h4'
 go_wp2_with fail
 refine (HR.out w4).mono ?_
 rintro e w5 ⟨rfl,hb5⟩
 have h5:=H5.out.keep hb5
 clear x0 x1 x2 hb5 H5 HR
 obtain ⟨x0,x1,x2⟩:=Zq62 (h5.pull 4 _ rfl)
 obtain ⟨y0,y1,y2,y3,y4⟩:=Zq22 (h5.pull 3 _ rfl)
 obtain ⟨z0,z1,z2,z3,z4⟩:=Zq22 (h5.pull 2 _ rfl)
 obtain ⟨p0,p1⟩:=Zq48 (h5.pull 1 _ rfl)
 obtain ⟨q0,q1,q2,q3,q4⟩:=Zq22 h5
 have f8:=frozen_of_row (h5.pull 2 _ rfl).heap
 have f9:=frozen_of_row (h5.pull 1 _ rfl).heap
 have H5:=Zh h5
 clear h5
 cases ok with
 | false =>
  obtain rfl:=HBAD.out (.inl HOK.out)
  go_upto_region 3 with fail
  go_step
  go_step
  go_step
  go_step
  go_step
  go_step
  go_step
  go_step
  go_step
  have h6:=(H5.out.pull 2 _ rfl).set5 (.int .i64 0) (.int .i64 0) (.int .i64 0) (.int .i64 0) (.int .i64 0)
  generalize (World.setCell _ _ _:World)=w6 at h6 ⊢
  clear x0 x1 x2 y0 y1 y2 y3 y4 z0 z1 z2 z3 z4 p0 p1 q0 q1 q2 q3 q4 f8 f9
  have h7:=h6.pull 2 _ rfl
  obtain ⟨p0,p1⟩:=Zq48 h7
  have f9:=frozen_of_row h7.heap
  have H7:=Zh (h7.set2 (.int .i64 0) (.int .i64 0))
  clear h6 h7
  go_wp2_with fail
  have h7:=H7.out
  simp only [Zl1,Zl0] at h7
  generalize (World.setCell _ _ _:World)=w7 at h7 ⊢
  obtain ⟨z0,z1,z2,z3,z4⟩:=Zq22 (h7.pull 1 _ rfl)
  obtain ⟨q0,q1⟩:=Zq48 h7
  refine bodyPost_ret (v:=.tuple #[.agg #[.int .i64 0,.int .i64 0,.int .i64 0,.int .i64 0,.int .i64 0],.agg #[.int .i64 0,.int .i64 0],.bool false,.bool false]) (by simp [results,Tryz.results60,go_sem,z0,z1,z2,z3,z4,q0,q1]) rfl ?_
  exact ⟨rfl,h7.below⟩
 | true =>
  have HF0:=Zh (show ∀ P:Prop,(P→¬ (0≤s∧s<1073741824∧(0≤u0∧u0≤sz)∧(0≤u1∧u1≤sz)∧(0≤u2∧u2≤sz)∧(0≤u3∧u3≤sz)))→P→Fl.okB ⟨a,b,sz⟩ ⟨s,u0,u1,u2,u3⟩=false from fun P h1 h2=>by
   unfold Fl.okB
   rw [decide_eq_false_iff_not]
   have:=h1 h2
   simp only
   omega)
  by_cases b1:s<0
  ·have d1:decide (s<0)=true:=decide_eq_true b1
   obtain rfl:=HBAD.out (.inr (.inl (HF0.out _ (by omega) b1)))
   go_upto_region 3 with fail
   go_step
   go_step
   go_step
   go_step
   go_step
   go_step
   go_step
   go_step
   go_step
   have h6:=(H5.out.pull 2 _ rfl).set5 (.int .i64 0) (.int .i64 0) (.int .i64 0) (.int .i64 0) (.int .i64 0)
   generalize (World.setCell _ _ _:World)=w6 at h6 ⊢
   clear x0 x1 x2 y0 y1 y2 y3 y4 z0 z1 z2 z3 z4 p0 p1 q0 q1 q2 q3 q4 f8 f9
   have h7:=h6.pull 2 _ rfl
   obtain ⟨p0,p1⟩:=Zq48 h7
   have f9:=frozen_of_row h7.heap
   have H7:=Zh (h7.set2 (.int .i64 0) (.int .i64 0))
   clear h6 h7
   go_wp2_with fail
   have h7:=H7.out
   simp only [Zl1,Zl0] at h7
   generalize (World.setCell _ _ _:World)=w7 at h7 ⊢
   obtain ⟨z0,z1,z2,z3,z4⟩:=Zq22 (h7.pull 1 _ rfl)
   obtain ⟨q0,q1⟩:=Zq48 h7
   refine bodyPost_ret (v:=.tuple #[.agg #[.int .i64 0,.int .i64 0,.int .i64 0,.int .i64 0,.int .i64 0],.agg #[.int .i64 0,.int .i64 0],.bool false,.bool false]) (by simp [results,Tryz.results60,go_sem,z0,z1,z2,z3,z4,q0,q1]) rfl ?_
   exact ⟨rfl,h7.below⟩
  have d1:decide (s<0)=false:=decide_eq_false b1
  by_cases b2:1073741824≤s
  ·have d2:decide (1073741824≤s)=true:=decide_eq_true b2
   obtain rfl:=HBAD.out (.inr (.inl (HF0.out _ (by omega) b2)))
   go_upto_region 3 with fail
   go_step
   go_step
   go_step
   go_step
   go_step
   go_step
   go_step
   go_step
   go_step
   have h6:=(H5.out.pull 2 _ rfl).set5 (.int .i64 0) (.int .i64 0) (.int .i64 0) (.int .i64 0) (.int .i64 0)
   generalize (World.setCell _ _ _:World)=w6 at h6 ⊢
   clear x0 x1 x2 y0 y1 y2 y3 y4 z0 z1 z2 z3 z4 p0 p1 q0 q1 q2 q3 q4 f8 f9
   have h7:=h6.pull 2 _ rfl
   obtain ⟨p0,p1⟩:=Zq48 h7
   have f9:=frozen_of_row h7.heap
   have H7:=Zh (h7.set2 (.int .i64 0) (.int .i64 0))
   clear h6 h7
   go_wp2_with fail
   have h7:=H7.out
   simp only [Zl1,Zl0] at h7
   generalize (World.setCell _ _ _:World)=w7 at h7 ⊢
   obtain ⟨z0,z1,z2,z3,z4⟩:=Zq22 (h7.pull 1 _ rfl)
   obtain ⟨q0,q1⟩:=Zq48 h7
   refine bodyPost_ret (v:=.tuple #[.agg #[.int .i64 0,.int .i64 0,.int .i64 0,.int .i64 0,.int .i64 0],.agg #[.int .i64 0,.int .i64 0],.bool false,.bool false]) (by simp [results,Tryz.results60,go_sem,z0,z1,z2,z3,z4,q0,q1]) rfl ?_
   exact ⟨rfl,h7.below⟩
  have d2:decide (1073741824≤s)=false:=decide_eq_false b2
  by_cases b3:seq<1
  ·have d3:decide (seq<1)=true:=decide_eq_true b3
   obtain rfl:=HBAD.out (.inr (.inr (.inl b3)))
   go_upto_region 3 with fail
   go_step
   go_step
   go_step
   go_step
   go_step
   go_step
   go_step
   go_step
   go_step
   have h6:=(H5.out.pull 2 _ rfl).set5 (.int .i64 0) (.int .i64 0) (.int .i64 0) (.int .i64 0) (.int .i64 0)
   generalize (World.setCell _ _ _:World)=w6 at h6 ⊢
   clear x0 x1 x2 y0 y1 y2 y3 y4 z0 z1 z2 z3 z4 p0 p1 q0 q1 q2 q3 q4 f8 f9
   have h7:=h6.pull 2 _ rfl
   obtain ⟨p0,p1⟩:=Zq48 h7
   have f9:=frozen_of_row h7.heap
   have H7:=Zh (h7.set2 (.int .i64 0) (.int .i64 0))
   clear h6 h7
   go_wp2_with fail
   have h7:=H7.out
   simp only [Zl1,Zl0] at h7
   generalize (World.setCell _ _ _:World)=w7 at h7 ⊢
   obtain ⟨z0,z1,z2,z3,z4⟩:=Zq22 (h7.pull 1 _ rfl)
   obtain ⟨q0,q1⟩:=Zq48 h7
   refine bodyPost_ret (v:=.tuple #[.agg #[.int .i64 0,.int .i64 0,.int .i64 0,.int .i64 0,.int .i64 0],.agg #[.int .i64 0,.int .i64 0],.bool false,.bool false]) (by simp [results,Tryz.results60,go_sem,z0,z1,z2,z3,z4,q0,q1]) rfl ?_
   exact ⟨rfl,h7.below⟩
  have d3:decide (seq<1)=false:=decide_eq_false b3
  by_cases b4:1099511627776<seq
  ·have d4:decide (1099511627776<seq)=true:=decide_eq_true b4
   obtain rfl:=HBAD.out (.inr (.inr (.inr (.inl b4))))
   go_upto_region 3 with fail
   go_step
   go_step
   go_step
   go_step
   go_step
   go_step
   go_step
   go_step
   go_step
   have h6:=(H5.out.pull 2 _ rfl).set5 (.int .i64 0) (.int .i64 0) (.int .i64 0) (.int .i64 0) (.int .i64 0)
   generalize (World.setCell _ _ _:World)=w6 at h6 ⊢
   clear x0 x1 x2 y0 y1 y2 y3 y4 z0 z1 z2 z3 z4 p0 p1 q0 q1 q2 q3 q4 f8 f9
   have h7:=h6.pull 2 _ rfl
   obtain ⟨p0,p1⟩:=Zq48 h7
   have f9:=frozen_of_row h7.heap
   have H7:=Zh (h7.set2 (.int .i64 0) (.int .i64 0))
   clear h6 h7
   go_wp2_with fail
   have h7:=H7.out
   simp only [Zl1,Zl0] at h7
   generalize (World.setCell _ _ _:World)=w7 at h7 ⊢
   obtain ⟨z0,z1,z2,z3,z4⟩:=Zq22 (h7.pull 1 _ rfl)
   obtain ⟨q0,q1⟩:=Zq48 h7
   refine bodyPost_ret (v:=.tuple #[.agg #[.int .i64 0,.int .i64 0,.int .i64 0,.int .i64 0,.int .i64 0],.agg #[.int .i64 0,.int .i64 0],.bool false,.bool false]) (by simp [results,Tryz.results60,go_sem,z0,z1,z2,z3,z4,q0,q1]) rfl ?_
   exact ⟨rfl,h7.below⟩
  have d4:decide (1099511627776<seq)=false:=decide_eq_false b4
  by_cases b5:n<1
  ·have d5:decide (n<1)=true:=decide_eq_true b5
   obtain rfl:=HBAD.out (.inr (.inr (.inr (.inr (.inl b5)))))
   go_upto_region 3 with fail
   go_step
   go_step
   go_step
   go_step
   go_step
   go_step
   go_step
   go_step
   go_step
   have h6:=(H5.out.pull 2 _ rfl).set5 (.int .i64 0) (.int .i64 0) (.int .i64 0) (.int .i64 0) (.int .i64 0)
   generalize (World.setCell _ _ _:World)=w6 at h6 ⊢
   clear x0 x1 x2 y0 y1 y2 y3 y4 z0 z1 z2 z3 z4 p0 p1 q0 q1 q2 q3 q4 f8 f9
   have h7:=h6.pull 2 _ rfl
   obtain ⟨p0,p1⟩:=Zq48 h7
   have f9:=frozen_of_row h7.heap
   have H7:=Zh (h7.set2 (.int .i64 0) (.int .i64 0))
   clear h6 h7
   go_wp2_with fail
   have h7:=H7.out
   simp only [Zl1,Zl0] at h7
   generalize (World.setCell _ _ _:World)=w7 at h7 ⊢
   obtain ⟨z0,z1,z2,z3,z4⟩:=Zq22 (h7.pull 1 _ rfl)
   obtain ⟨q0,q1⟩:=Zq48 h7
   refine bodyPost_ret (v:=.tuple #[.agg #[.int .i64 0,.int .i64 0,.int .i64 0,.int .i64 0,.int .i64 0],.agg #[.int .i64 0,.int .i64 0],.bool false,.bool false]) (by simp [results,Tryz.results60,go_sem,z0,z1,z2,z3,z4,q0,q1]) rfl ?_
   exact ⟨rfl,h7.below⟩
  have d5:decide (n<1)=false:=decide_eq_false b5
  by_cases b6:90<n
  ·have d6:decide (90<n)=true:=decide_eq_true b6
   obtain rfl:=HBAD.out (.inr (.inr (.inr (.inr (.inr b6)))))
   go_upto_region 3 with fail
   go_step
   go_step
   go_step
   go_step
   go_step
   go_step
   go_step
   go_step
   go_step
   have h6:=(H5.out.pull 2 _ rfl).set5 (.int .i64 0) (.int .i64 0) (.int .i64 0) (.int .i64 0) (.int .i64 0)
   generalize (World.setCell _ _ _:World)=w6 at h6 ⊢
   clear x0 x1 x2 y0 y1 y2 y3 y4 z0 z1 z2 z3 z4 p0 p1 q0 q1 q2 q3 q4 f8 f9
   have h7:=h6.pull 2 _ rfl
   obtain ⟨p0,p1⟩:=Zq48 h7
   have f9:=frozen_of_row h7.heap
   have H7:=Zh (h7.set2 (.int .i64 0) (.int .i64 0))
   clear h6 h7
   go_wp2_with fail
   have h7:=H7.out
   simp only [Zl1,Zl0] at h7
   generalize (World.setCell _ _ _:World)=w7 at h7 ⊢
   obtain ⟨z0,z1,z2,z3,z4⟩:=Zq22 (h7.pull 1 _ rfl)
   obtain ⟨q0,q1⟩:=Zq48 h7
   refine bodyPost_ret (v:=.tuple #[.agg #[.int .i64 0,.int .i64 0,.int .i64 0,.int .i64 0,.int .i64 0],.agg #[.int .i64 0,.int .i64 0],.bool false,.bool false]) (by simp [results,Tryz.results60,go_sem,z0,z1,z2,z3,z4,q0,q1]) rfl ?_
   exact ⟨rfl,h7.below⟩
  have d6:decide (90<n)=false:=decide_eq_false b6
  have HB:=Zh (show 0≤s∧s<1073741824∧1≤seq∧seq≤1099511627776∧1≤n∧n≤90 by omega)
  clear b1 b2 b3 b4 b5 b6
  go_wp2_with fail
  clear x0 x1 x2 y0 y1 y2 y3 y4 z0 z1 z2 z3 z4 p0 p1 q0 q1 q2 q3 q4 f8 f9 d1 d2 d3 d4 d5 d6
  go_loopw [13] (fun a13 wr=>∃ i:Nat,a13=.int .i64 i∧i≤4∧(0<i→0≤u0∧u0≤sz)∧(1<i→0≤u1∧u1≤sz)∧(2<i→0≤u2∧u2≤sz)∧(3<i→0≤u3∧u3≤sz)∧St w w.hp wr (HP.pt g12 (.cells #[.int .i64 0,.int .i64 0,.int .i64 0,.int .i64 0,.int .i64 0] 108)::HP.pt g9 (.cells #[.int .i64 0,.int .i64 0] 41)::HP.pt g8 (.cells #[.int .i64 0,.int .i64 0,.int .i64 0,.int .i64 0,.int .i64 0] 108)::HP.pt g5 (.cells #[.int .i64 s,.int .i64 u0,.int .i64 u1,.int .i64 u2,.int .i64 u3] 108)::HP.pt g4 (.cells #[.int .i64 a,.int .i64 b,.int .i64 sz] 26)::[])) (fun a13 _=>4 - (intOf a13).toNat)
  case atStart=>exact ⟨0,rfl,by omega,by omega,by omega,by omega,by omega,H5.out⟩
  case round =>
   obtain ⟨i,rfl,hi,g0,g1,g2,g3,h5⟩:=hrel
   have HG:=Zh (And.intro g0 (And.intro g1 (And.intro g2 g3)))
   clear g0 g1 g2 g3 H5
   obtain ⟨x0,x1,x2⟩:=Zq62 (h5.pull 4 _ rfl)
   obtain ⟨y0,y1,y2,y3,y4⟩:=Zq22 (h5.pull 3 _ rfl)
   obtain ⟨z0,z1,z2,z3,z4⟩:=Zq22 (h5.pull 2 _ rfl)
   obtain ⟨p0,p1⟩:=Zq48 (h5.pull 1 _ rfl)
   obtain ⟨q0,q1,q2,q3,q4⟩:=Zq22 h5
   have f8:=frozen_of_row (h5.pull 2 _ rfl).heap
   have f9:=frozen_of_row (h5.pull 1 _ rfl).heap
   have H5:=Zh h5
   clear h5
   rcases (show i=0∨i=1∨i=2∨i=3∨i=4 by omega) with rfl|rfl|rfl|rfl|rfl
   ·by_cases b1:u0<0
    ·have d1:decide (u0<0)=true:=decide_eq_true b1
     obtain rfl:=HBAD.out (.inr (.inl (HF0.out _ (by omega) b1)))
     go_upto_region 7 with fail
     go_quiet (fail)
     have h6:=H5.out.drewN nq
     generalize (World.drewN _ _:World)=w6 at h6 ⊢
     clear x0 x1 x2 y0 y1 y2 y3 y4 z0 z1 z2 z3 z4 p0 p1 q0 q1 q2 q3 q4 f8 f9 H5
     obtain ⟨x0,x1,x2⟩:=Zq62 (h6.pull 4 _ rfl)
     obtain ⟨y0,y1,y2,y3,y4⟩:=Zq22 (h6.pull 3 _ rfl)
     obtain ⟨z0,z1,z2,z3,z4⟩:=Zq22 (h6.pull 2 _ rfl)
     obtain ⟨p0,p1⟩:=Zq48 (h6.pull 1 _ rfl)
     obtain ⟨q0,q1,q2,q3,q4⟩:=Zq22 h6
     have f8:=frozen_of_row (h6.pull 2 _ rfl).heap
     have f9:=frozen_of_row (h6.pull 1 _ rfl).heap
     have H5:=Zh h6
     clear h6
     go_upto_region 8 with fail
     go_step
     go_step
     go_step
     go_step
     go_step
     go_step
     go_step
     go_step
     go_step
     have h6:=(H5.out.pull 2 _ rfl).set5 (.int .i64 0) (.int .i64 0) (.int .i64 0) (.int .i64 0) (.int .i64 0)
     generalize (World.setCell _ _ _:World)=w6 at h6 ⊢
     clear x0 x1 x2 y0 y1 y2 y3 y4 z0 z1 z2 z3 z4 p0 p1 q0 q1 q2 q3 q4 f8 f9
     have h7:=h6.pull 2 _ rfl
     obtain ⟨p0,p1⟩:=Zq48 h7
     have f9:=frozen_of_row h7.heap
     have H7:=Zh (h7.set2 (.int .i64 0) (.int .i64 0))
     clear h6 h7
     go_wp2_with fail
     have h7:=H7.out
     simp only [Zl1,Zl0] at h7
     generalize (World.setCell _ _ _:World)=w7 at h7 ⊢
     obtain ⟨z0,z1,z2,z3,z4⟩:=Zq22 (h7.pull 1 _ rfl)
     obtain ⟨q0,q1⟩:=Zq48 h7
     refine bodyPost_ret (v:=.tuple #[.agg #[.int .i64 0,.int .i64 0,.int .i64 0,.int .i64 0,.int .i64 0],.agg #[.int .i64 0,.int .i64 0],.bool false,.bool false]) (by simp [results,Tryz.results60,go_sem,z0,z1,z2,z3,z4,q0,q1]) rfl ?_
     exact ⟨rfl,h7.below⟩
    ·have d1:decide (u0<0)=false:=decide_eq_false b1
     by_cases b2:sz<u0
     ·have d2:decide (sz<u0)=true:=decide_eq_true b2
      obtain rfl:=HBAD.out (.inr (.inl (HF0.out _ (by omega) b2)))
      go_upto_region 7 with fail
      go_quiet (fail)
      have h6:=H5.out.drewN nq
      generalize (World.drewN _ _:World)=w6 at h6 ⊢
      clear x0 x1 x2 y0 y1 y2 y3 y4 z0 z1 z2 z3 z4 p0 p1 q0 q1 q2 q3 q4 f8 f9 H5
      obtain ⟨x0,x1,x2⟩:=Zq62 (h6.pull 4 _ rfl)
      obtain ⟨y0,y1,y2,y3,y4⟩:=Zq22 (h6.pull 3 _ rfl)
      obtain ⟨z0,z1,z2,z3,z4⟩:=Zq22 (h6.pull 2 _ rfl)
      obtain ⟨p0,p1⟩:=Zq48 (h6.pull 1 _ rfl)
      obtain ⟨q0,q1,q2,q3,q4⟩:=Zq22 h6
      have f8:=frozen_of_row (h6.pull 2 _ rfl).heap
      have f9:=frozen_of_row (h6.pull 1 _ rfl).heap
      have H5:=Zh h6
      clear h6
      go_upto_region 8 with fail
      go_step
      go_step
      go_step
      go_step
      go_step
      go_step
      go_step
      go_step
      go_step
      have h6:=(H5.out.pull 2 _ rfl).set5 (.int .i64 0) (.int .i64 0) (.int .i64 0) (.int .i64 0) (.int .i64 0)
      generalize (World.setCell _ _ _:World)=w6 at h6 ⊢
      clear x0 x1 x2 y0 y1 y2 y3 y4 z0 z1 z2 z3 z4 p0 p1 q0 q1 q2 q3 q4 f8 f9
      have h7:=h6.pull 2 _ rfl
      obtain ⟨p0,p1⟩:=Zq48 h7
      have f9:=frozen_of_row h7.heap
      have H7:=Zh (h7.set2 (.int .i64 0) (.int .i64 0))
      clear h6 h7
      go_wp2_with fail
      have h7:=H7.out
      simp only [Zl1,Zl0] at h7
      generalize (World.setCell _ _ _:World)=w7 at h7 ⊢
      obtain ⟨z0,z1,z2,z3,z4⟩:=Zq22 (h7.pull 1 _ rfl)
      obtain ⟨q0,q1⟩:=Zq48 h7
      refine bodyPost_ret (v:=.tuple #[.agg #[.int .i64 0,.int .i64 0,.int .i64 0,.int .i64 0,.int .i64 0],.agg #[.int .i64 0,.int .i64 0],.bool false,.bool false]) (by simp [results,Tryz.results60,go_sem,z0,z1,z2,z3,z4,q0,q1]) rfl ?_
      exact ⟨rfl,h7.below⟩
     ·have d2:decide (sz<u0)=false:=decide_eq_false b2
      have HN:=Zh (show 0≤u0∧u0≤sz by omega)
      clear b1 b2
      go_upto_region 7 with fail
      go_quiet (fail)
      have h6:=H5.out.drewN nq
      generalize (World.drewN _ _:World)=w6 at h6 ⊢
      have H6:=Zh h6
      clear h6 H5
      go_wp2_with fail
      go_roundw
      case rel=>exact ⟨1,by go_num,by omega,fun _=>HN.out,by omega,by omega,by omega,H6.out⟩
      case measure=>first|(simp [intOf];done)|(simp [intOf];omega)|fail
   ·by_cases b1:u1<0
    ·have d1:decide (u1<0)=true:=decide_eq_true b1
     obtain rfl:=HBAD.out (.inr (.inl (HF0.out _ (by omega) b1)))
     go_upto_region 7 with fail
     go_quiet (fail)
     have h6:=H5.out.drewN nq
     generalize (World.drewN _ _:World)=w6 at h6 ⊢
     clear x0 x1 x2 y0 y1 y2 y3 y4 z0 z1 z2 z3 z4 p0 p1 q0 q1 q2 q3 q4 f8 f9 H5
     obtain ⟨x0,x1,x2⟩:=Zq62 (h6.pull 4 _ rfl)
     obtain ⟨y0,y1,y2,y3,y4⟩:=Zq22 (h6.pull 3 _ rfl)
     obtain ⟨z0,z1,z2,z3,z4⟩:=Zq22 (h6.pull 2 _ rfl)
     obtain ⟨p0,p1⟩:=Zq48 (h6.pull 1 _ rfl)
     obtain ⟨q0,q1,q2,q3,q4⟩:=Zq22 h6
     have f8:=frozen_of_row (h6.pull 2 _ rfl).heap
     have f9:=frozen_of_row (h6.pull 1 _ rfl).heap
     have H5:=Zh h6
     clear h6
     go_upto_region 8 with fail
     go_step
     go_step
     go_step
     go_step
     go_step
     go_step
     go_step
     go_step
     go_step
     have h6:=(H5.out.pull 2 _ rfl).set5 (.int .i64 0) (.int .i64 0) (.int .i64 0) (.int .i64 0) (.int .i64 0)
     generalize (World.setCell _ _ _:World)=w6 at h6 ⊢
     clear x0 x1 x2 y0 y1 y2 y3 y4 z0 z1 z2 z3 z4 p0 p1 q0 q1 q2 q3 q4 f8 f9
     have h7:=h6.pull 2 _ rfl
     obtain ⟨p0,p1⟩:=Zq48 h7
     have f9:=frozen_of_row h7.heap
     have H7:=Zh (h7.set2 (.int .i64 0) (.int .i64 0))
     clear h6 h7
     go_wp2_with fail
     have h7:=H7.out
     simp only [Zl1,Zl0] at h7
     generalize (World.setCell _ _ _:World)=w7 at h7 ⊢
     obtain ⟨z0,z1,z2,z3,z4⟩:=Zq22 (h7.pull 1 _ rfl)
     obtain ⟨q0,q1⟩:=Zq48 h7
     refine bodyPost_ret (v:=.tuple #[.agg #[.int .i64 0,.int .i64 0,.int .i64 0,.int .i64 0,.int .i64 0],.agg #[.int .i64 0,.int .i64 0],.bool false,.bool false]) (by simp [results,Tryz.results60,go_sem,z0,z1,z2,z3,z4,q0,q1]) rfl ?_
     exact ⟨rfl,h7.below⟩
    ·have d1:decide (u1<0)=false:=decide_eq_false b1
     by_cases b2:sz<u1
     ·have d2:decide (sz<u1)=true:=decide_eq_true b2
      obtain rfl:=HBAD.out (.inr (.inl (HF0.out _ (by omega) b2)))
      go_upto_region 7 with fail
      go_quiet (fail)
      have h6:=H5.out.drewN nq
      generalize (World.drewN _ _:World)=w6 at h6 ⊢
      clear x0 x1 x2 y0 y1 y2 y3 y4 z0 z1 z2 z3 z4 p0 p1 q0 q1 q2 q3 q4 f8 f9 H5
      obtain ⟨x0,x1,x2⟩:=Zq62 (h6.pull 4 _ rfl)
      obtain ⟨y0,y1,y2,y3,y4⟩:=Zq22 (h6.pull 3 _ rfl)
      obtain ⟨z0,z1,z2,z3,z4⟩:=Zq22 (h6.pull 2 _ rfl)
      obtain ⟨p0,p1⟩:=Zq48 (h6.pull 1 _ rfl)
      obtain ⟨q0,q1,q2,q3,q4⟩:=Zq22 h6
      have f8:=frozen_of_row (h6.pull 2 _ rfl).heap
      have f9:=frozen_of_row (h6.pull 1 _ rfl).heap
      have H5:=Zh h6
      clear h6
      go_upto_region 8 with fail
      go_step
      go_step
      go_step
      go_step
      go_step
      go_step
      go_step
      go_step
      go_step
      have h6:=(H5.out.pull 2 _ rfl).set5 (.int .i64 0) (.int .i64 0) (.int .i64 0) (.int .i64 0) (.int .i64 0)
      generalize (World.setCell _ _ _:World)=w6 at h6 ⊢
      clear x0 x1 x2 y0 y1 y2 y3 y4 z0 z1 z2 z3 z4 p0 p1 q0 q1 q2 q3 q4 f8 f9
      have h7:=h6.pull 2 _ rfl
      obtain ⟨p0,p1⟩:=Zq48 h7
      have f9:=frozen_of_row h7.heap
      have H7:=Zh (h7.set2 (.int .i64 0) (.int .i64 0))
      clear h6 h7
      go_wp2_with fail
      have h7:=H7.out
      simp only [Zl1,Zl0] at h7
      generalize (World.setCell _ _ _:World)=w7 at h7 ⊢
      obtain ⟨z0,z1,z2,z3,z4⟩:=Zq22 (h7.pull 1 _ rfl)
      obtain ⟨q0,q1⟩:=Zq48 h7
      refine bodyPost_ret (v:=.tuple #[.agg #[.int .i64 0,.int .i64 0,.int .i64 0,.int .i64 0,.int .i64 0],.agg #[.int .i64 0,.int .i64 0],.bool false,.bool false]) (by simp [results,Tryz.results60,go_sem,z0,z1,z2,z3,z4,q0,q1]) rfl ?_
      exact ⟨rfl,h7.below⟩
     ·have d2:decide (sz<u1)=false:=decide_eq_false b2
      have HN:=Zh (show 0≤u1∧u1≤sz by omega)
      clear b1 b2
      go_upto_region 7 with fail
      go_quiet (fail)
      have h6:=H5.out.drewN nq
      generalize (World.drewN _ _:World)=w6 at h6 ⊢
      have H6:=Zh h6
      clear h6 H5
      go_wp2_with fail
      go_roundw
      case rel=>exact ⟨2,by go_num,by omega,fun _=>HG.out.1 (by omega),fun _=>HN.out,by omega,by omega,H6.out⟩
      case measure=>first|(simp [intOf];done)|(simp [intOf];omega)|fail
   ·by_cases b1:u2<0
    ·have d1:decide (u2<0)=true:=decide_eq_true b1
     obtain rfl:=HBAD.out (.inr (.inl (HF0.out _ (by omega) b1)))
     go_upto_region 7 with fail
     go_quiet (fail)
     have h6:=H5.out.drewN nq
     generalize (World.drewN _ _:World)=w6 at h6 ⊢
     clear x0 x1 x2 y0 y1 y2 y3 y4 z0 z1 z2 z3 z4 p0 p1 q0 q1 q2 q3 q4 f8 f9 H5
     obtain ⟨x0,x1,x2⟩:=Zq62 (h6.pull 4 _ rfl)
     obtain ⟨y0,y1,y2,y3,y4⟩:=Zq22 (h6.pull 3 _ rfl)
     obtain ⟨z0,z1,z2,z3,z4⟩:=Zq22 (h6.pull 2 _ rfl)
     obtain ⟨p0,p1⟩:=Zq48 (h6.pull 1 _ rfl)
     obtain ⟨q0,q1,q2,q3,q4⟩:=Zq22 h6
     have f8:=frozen_of_row (h6.pull 2 _ rfl).heap
     have f9:=frozen_of_row (h6.pull 1 _ rfl).heap
     have H5:=Zh h6
     clear h6
     go_upto_region 8 with fail
     go_step
     go_step
     go_step
     go_step
     go_step
     go_step
     go_step
     go_step
     go_step
     have h6:=(H5.out.pull 2 _ rfl).set5 (.int .i64 0) (.int .i64 0) (.int .i64 0) (.int .i64 0) (.int .i64 0)
     generalize (World.setCell _ _ _:World)=w6 at h6 ⊢
     clear x0 x1 x2 y0 y1 y2 y3 y4 z0 z1 z2 z3 z4 p0 p1 q0 q1 q2 q3 q4 f8 f9
     have h7:=h6.pull 2 _ rfl
     obtain ⟨p0,p1⟩:=Zq48 h7
     have f9:=frozen_of_row h7.heap
     have H7:=Zh (h7.set2 (.int .i64 0) (.int .i64 0))
     clear h6 h7
     go_wp2_with fail
     have h7:=H7.out
     simp only [Zl1,Zl0] at h7
     generalize (World.setCell _ _ _:World)=w7 at h7 ⊢
     obtain ⟨z0,z1,z2,z3,z4⟩:=Zq22 (h7.pull 1 _ rfl)
     obtain ⟨q0,q1⟩:=Zq48 h7
     refine bodyPost_ret (v:=.tuple #[.agg #[.int .i64 0,.int .i64 0,.int .i64 0,.int .i64 0,.int .i64 0],.agg #[.int .i64 0,.int .i64 0],.bool false,.bool false]) (by simp [results,Tryz.results60,go_sem,z0,z1,z2,z3,z4,q0,q1]) rfl ?_
     exact ⟨rfl,h7.below⟩
    ·have d1:decide (u2<0)=false:=decide_eq_false b1
     by_cases b2:sz<u2
     ·have d2:decide (sz<u2)=true:=decide_eq_true b2
      obtain rfl:=HBAD.out (.inr (.inl (HF0.out _ (by omega) b2)))
      go_upto_region 7 with fail
      go_quiet (fail)
      have h6:=H5.out.drewN nq
      generalize (World.drewN _ _:World)=w6 at h6 ⊢
      clear x0 x1 x2 y0 y1 y2 y3 y4 z0 z1 z2 z3 z4 p0 p1 q0 q1 q2 q3 q4 f8 f9 H5
      obtain ⟨x0,x1,x2⟩:=Zq62 (h6.pull 4 _ rfl)
      obtain ⟨y0,y1,y2,y3,y4⟩:=Zq22 (h6.pull 3 _ rfl)
      obtain ⟨z0,z1,z2,z3,z4⟩:=Zq22 (h6.pull 2 _ rfl)
      obtain ⟨p0,p1⟩:=Zq48 (h6.pull 1 _ rfl)
      obtain ⟨q0,q1,q2,q3,q4⟩:=Zq22 h6
      have f8:=frozen_of_row (h6.pull 2 _ rfl).heap
      have f9:=frozen_of_row (h6.pull 1 _ rfl).heap
      have H5:=Zh h6
      clear h6
      go_upto_region 8 with fail
      go_step
      go_step
      go_step
      go_step
      go_step
      go_step
      go_step
      go_step
      go_step
      have h6:=(H5.out.pull 2 _ rfl).set5 (.int .i64 0) (.int .i64 0) (.int .i64 0) (.int .i64 0) (.int .i64 0)
      generalize (World.setCell _ _ _:World)=w6 at h6 ⊢
      clear x0 x1 x2 y0 y1 y2 y3 y4 z0 z1 z2 z3 z4 p0 p1 q0 q1 q2 q3 q4 f8 f9
      have h7:=h6.pull 2 _ rfl
      obtain ⟨p0,p1⟩:=Zq48 h7
      have f9:=frozen_of_row h7.heap
      have H7:=Zh (h7.set2 (.int .i64 0) (.int .i64 0))
      clear h6 h7
      go_wp2_with fail
      have h7:=H7.out
      simp only [Zl1,Zl0] at h7
      generalize (World.setCell _ _ _:World)=w7 at h7 ⊢
      obtain ⟨z0,z1,z2,z3,z4⟩:=Zq22 (h7.pull 1 _ rfl)
      obtain ⟨q0,q1⟩:=Zq48 h7
      refine bodyPost_ret (v:=.tuple #[.agg #[.int .i64 0,.int .i64 0,.int .i64 0,.int .i64 0,.int .i64 0],.agg #[.int .i64 0,.int .i64 0],.bool false,.bool false]) (by simp [results,Tryz.results60,go_sem,z0,z1,z2,z3,z4,q0,q1]) rfl ?_
      exact ⟨rfl,h7.below⟩
     ·have d2:decide (sz<u2)=false:=decide_eq_false b2
      have HN:=Zh (show 0≤u2∧u2≤sz by omega)
      clear b1 b2
      go_upto_region 7 with fail
      go_quiet (fail)
      have h6:=H5.out.drewN nq
      generalize (World.drewN _ _:World)=w6 at h6 ⊢
      have H6:=Zh h6
      clear h6 H5
      go_wp2_with fail
      go_roundw
      case rel=>exact ⟨3,by go_num,by omega,fun _=>HG.out.1 (by omega),fun _=>HG.out.2.1 (by omega),fun _=>HN.out,by omega,H6.out⟩
      case measure=>first|(simp [intOf];done)|(simp [intOf];omega)|fail
   ·by_cases b1:u3<0
    ·have d1:decide (u3<0)=true:=decide_eq_true b1
     obtain rfl:=HBAD.out (.inr (.inl (HF0.out _ (by omega) b1)))
     go_upto_region 7 with fail
     go_quiet (fail)
     have h6:=H5.out.drewN nq
     generalize (World.drewN _ _:World)=w6 at h6 ⊢
     clear x0 x1 x2 y0 y1 y2 y3 y4 z0 z1 z2 z3 z4 p0 p1 q0 q1 q2 q3 q4 f8 f9 H5
     obtain ⟨x0,x1,x2⟩:=Zq62 (h6.pull 4 _ rfl)
     obtain ⟨y0,y1,y2,y3,y4⟩:=Zq22 (h6.pull 3 _ rfl)
     obtain ⟨z0,z1,z2,z3,z4⟩:=Zq22 (h6.pull 2 _ rfl)
     obtain ⟨p0,p1⟩:=Zq48 (h6.pull 1 _ rfl)
     obtain ⟨q0,q1,q2,q3,q4⟩:=Zq22 h6
     have f8:=frozen_of_row (h6.pull 2 _ rfl).heap
     have f9:=frozen_of_row (h6.pull 1 _ rfl).heap
     have H5:=Zh h6
     clear h6
     go_upto_region 8 with fail
     go_step
     go_step
     go_step
     go_step
     go_step
     go_step
     go_step
     go_step
     go_step
     have h6:=(H5.out.pull 2 _ rfl).set5 (.int .i64 0) (.int .i64 0) (.int .i64 0) (.int .i64 0) (.int .i64 0)
     generalize (World.setCell _ _ _:World)=w6 at h6 ⊢
     clear x0 x1 x2 y0 y1 y2 y3 y4 z0 z1 z2 z3 z4 p0 p1 q0 q1 q2 q3 q4 f8 f9
     have h7:=h6.pull 2 _ rfl
     obtain ⟨p0,p1⟩:=Zq48 h7
     have f9:=frozen_of_row h7.heap
     have H7:=Zh (h7.set2 (.int .i64 0) (.int .i64 0))
     clear h6 h7
     go_wp2_with fail
     have h7:=H7.out
     simp only [Zl1,Zl0] at h7
     generalize (World.setCell _ _ _:World)=w7 at h7 ⊢
     obtain ⟨z0,z1,z2,z3,z4⟩:=Zq22 (h7.pull 1 _ rfl)
     obtain ⟨q0,q1⟩:=Zq48 h7
     refine bodyPost_ret (v:=.tuple #[.agg #[.int .i64 0,.int .i64 0,.int .i64 0,.int .i64 0,.int .i64 0],.agg #[.int .i64 0,.int .i64 0],.bool false,.bool false]) (by simp [results,Tryz.results60,go_sem,z0,z1,z2,z3,z4,q0,q1]) rfl ?_
     exact ⟨rfl,h7.below⟩
    ·have d1:decide (u3<0)=false:=decide_eq_false b1
     by_cases b2:sz<u3
     ·have d2:decide (sz<u3)=true:=decide_eq_true b2
      obtain rfl:=HBAD.out (.inr (.inl (HF0.out _ (by omega) b2)))
      go_upto_region 7 with fail
      go_quiet (fail)
      have h6:=H5.out.drewN nq
      generalize (World.drewN _ _:World)=w6 at h6 ⊢
      clear x0 x1 x2 y0 y1 y2 y3 y4 z0 z1 z2 z3 z4 p0 p1 q0 q1 q2 q3 q4 f8 f9 H5
      obtain ⟨x0,x1,x2⟩:=Zq62 (h6.pull 4 _ rfl)
      obtain ⟨y0,y1,y2,y3,y4⟩:=Zq22 (h6.pull 3 _ rfl)
      obtain ⟨z0,z1,z2,z3,z4⟩:=Zq22 (h6.pull 2 _ rfl)
      obtain ⟨p0,p1⟩:=Zq48 (h6.pull 1 _ rfl)
      obtain ⟨q0,q1,q2,q3,q4⟩:=Zq22 h6
      have f8:=frozen_of_row (h6.pull 2 _ rfl).heap
      have f9:=frozen_of_row (h6.pull 1 _ rfl).heap
      have H5:=Zh h6
      clear h6
      go_upto_region 8 with fail
      go_step
      go_step
      go_step
      go_step
      go_step
      go_step
      go_step
      go_step
      go_step
      have h6:=(H5.out.pull 2 _ rfl).set5 (.int .i64 0) (.int .i64 0) (.int .i64 0) (.int .i64 0) (.int .i64 0)
      generalize (World.setCell _ _ _:World)=w6 at h6 ⊢
      clear x0 x1 x2 y0 y1 y2 y3 y4 z0 z1 z2 z3 z4 p0 p1 q0 q1 q2 q3 q4 f8 f9
      have h7:=h6.pull 2 _ rfl
      obtain ⟨p0,p1⟩:=Zq48 h7
      have f9:=frozen_of_row h7.heap
      have H7:=Zh (h7.set2 (.int .i64 0) (.int .i64 0))
      clear h6 h7
      go_wp2_with fail
      have h7:=H7.out
      simp only [Zl1,Zl0] at h7
      generalize (World.setCell _ _ _:World)=w7 at h7 ⊢
      obtain ⟨z0,z1,z2,z3,z4⟩:=Zq22 (h7.pull 1 _ rfl)
      obtain ⟨q0,q1⟩:=Zq48 h7
      refine bodyPost_ret (v:=.tuple #[.agg #[.int .i64 0,.int .i64 0,.int .i64 0,.int .i64 0,.int .i64 0],.agg #[.int .i64 0,.int .i64 0],.bool false,.bool false]) (by simp [results,Tryz.results60,go_sem,z0,z1,z2,z3,z4,q0,q1]) rfl ?_
      exact ⟨rfl,h7.below⟩
     ·have d2:decide (sz<u3)=false:=decide_eq_false b2
      have HN:=Zh (show 0≤u3∧u3≤sz by omega)
      clear b1 b2
      go_upto_region 7 with fail
      go_quiet (fail)
      have h6:=H5.out.drewN nq
      generalize (World.drewN _ _:World)=w6 at h6 ⊢
      have H6:=Zh h6
      clear h6 H5
      go_wp2_with fail
      go_roundw
      case rel=>exact ⟨4,by go_num,by omega,fun _=>HG.out.1 (by omega),fun _=>HG.out.2.1 (by omega),fun _=>HG.out.2.2.1 (by omega),fun _=>HN.out,H6.out⟩
      case measure=>first|(simp [intOf];done)|(simp [intOf];omega)|fail
   ·obtain ⟨g0,g1,g2,g3⟩:=HG.out
    have hbb:=HB.out
    have hfk:Fl.okB ⟨a,b,sz⟩ ⟨s,u0,u1,u2,u3⟩=true:=by
     unfold Fl.okB
     rw [decide_eq_true_eq]
     have:=g0 (by omega);have:=g1 (by omega);have:=g2 (by omega);have:=g3 (by omega)
     simp only;omega
    have hgood:=HGOOD.out HOK.out hfk (by omega) (by omega)
    have ha:(1≤a∧a≤4)∧(4≤b∧b≤8)∧(512≤sz∧sz≤4096):=by
     have hk:=HOK.out
     unfold Rg.okB at hk
     rw [decide_eq_true_eq] at hk
     exact hk
    obtain ⟨k,hk⟩:∃ k:Nat,seq % a=k:=⟨(seq % a).toNat,by have:=Int.emod_nonneg seq (show a≠0 by omega);omega⟩
    have hk4:k<4:=by have:=Int.emod_lt_of_pos seq (show 0<a by omega);omega
    have hmod:Int.tmod seq a=k:=(Int.tmod_eq_emod_of_nonneg (by omega)).trans hk
    have hgl:0≤(⟨s,u0,u1,u2,u3⟩:Fl).get k∧(⟨s,u0,u1,u2,u3⟩:Fl).get k≤4096:=by
     have:=g0 (by omega);have:=g1 (by omega);have:=g2 (by omega);have:=g3 (by omega)
     unfold Fl.get
     simp only
     (repeat' split) <;> omega
    simp only [hk] at hgood
    have hperm:=(H5.out.drop).perm (show List.Perm _ (HP.pt g4 (.cells #[.int .i64 a,.int .i64 b,.int .i64 sz] 26)::HP.pt g5 (.cells #[.int .i64 s,.int .i64 u0,.int .i64 u1,.int .i64 u2,.int .i64 u3] 108)::HP.pt g8 (.cells #[.int .i64 0,.int .i64 0,.int .i64 0,.int .i64 0,.int .i64 0] 108)::HP.pt g9 (.cells #[.int .i64 0,.int .i64 0] 41)::[]) by ((try simp only [Zl0,Zl1,Zl2,Zl3]);repeat (first|with_reducible exact List.Perm.refl _|(apply Zq6;(· repeat (first|with_reducible exact Zq5|with_reducible apply Zq2))))))
    go_upto_region 9 with fail
    by_cases hfit:(⟨s,u0,u1,u2,u3⟩:Fl).get k+(n+22)≤sz
    ·rw [if_pos hfit] at hgood
     subst hgood
     refine put10_fit (by assumption) (by kernel_rfl) hperm ha.1 hmod hk4 (by omega) hgl hfit ?_
     intro _ _ _ _ _ _ _ _ _ _ _ _ _ _ _ _ _ _ _ _ _ _ _ _ _ _ _ _ _ _ _ _ _ _ _ _ _ _ _ _ _ _ _ _ _ _ _ _ _ _ _ _ _ _ _ _ _ _ _ _ _ _ _ _ _ _ _ _ _ _ _ _ _ _ _ _ _ _ _ _ _ _ _ _ _ _ _ _ _ _ _ _ _ _ _ _ _ _ _ _ _ _ _ _ _ _ w7 h7
     go_wp2_with fail
     obtain ⟨fq,hfq⟩:∃ q:Fl,q=(⟨s,u0,u1,u2,u3⟩:Fl).put k ((⟨s,u0,u1,u2,u3⟩:Fl).get k+(n+22)):=⟨_,rfl⟩
     rw [←hfq] at h7 ⊢
     obtain ⟨v,v0,v1,v2,v3⟩:=fq
     simp only [Fl.cells] at h7
     obtain ⟨z0,z1,z2,z3,z4⟩:=Zq22 h7
     obtain ⟨q0,q1⟩:=Zq48 (h7.pull 1 _ rfl)
     refine bodyPost_ret (v:=.tuple #[.agg #[.int .i64 v,.int .i64 v0,.int .i64 v1,.int .i64 v2,.int .i64 v3],.agg #[.int .i64 s,.int .i64 k],.bool false,.bool true]) (by simp [results,Tryz.results60,go_sem,z0,z1,z2,z3,z4,q0,q1]) rfl ?_
     exact ⟨rfl,h7.below⟩
    ·rw [if_neg hfit] at hgood
     subst hgood
     refine put10_next (by assumption) (by kernel_rfl) hperm ha.1 hmod hk4 (by omega) hgl (by omega) hfit ?_
     intro _ _ _ _ _ _ _ _ _ _ _ _ _ _ _ _ _ _ _ _ _ _ _ _ _ _ _ _ _ _ _ _ _ _ _ _ _ _ _ _ _ _ _ _ _ _ _ _ _ _ _ _ _ _ _ _ _ _ _ _ _ _ _ _ _ _ _ _ _ _ _ _ _ _ _ _ _ _ _ _ _ _ _ _ _ _ _ _ _ _ _ _ _ _ _ _ _ _ _ _ _ _ _ _ _ _ w7 h7
     go_wp2_with fail
     obtain ⟨fq,hfq⟩:∃ q:Fl,q=(⟨s+1,0,0,0,0⟩:Fl).put k (n+22):=⟨_,rfl⟩
     rw [←hfq] at h7 ⊢
     obtain ⟨v,v0,v1,v2,v3⟩:=fq
     simp only [Fl.cells] at h7
     obtain ⟨z0,z1,z2,z3,z4⟩:=Zq22 h7
     obtain ⟨q0,q1⟩:=Zq48 (h7.pull 1 _ rfl)
     refine bodyPost_ret (v:=.tuple #[.agg #[.int .i64 v,.int .i64 v0,.int .i64 v1,.int .i64 v2,.int .i64 v3],.agg #[.int .i64 (s+1),.int .i64 k],.bool true,.bool true]) (by simp [results,Tryz.results60,go_sem,z0,z1,z2,z3,z4,q0,q1]) rfl ?_
     exact ⟨rfl,h7.below⟩
end
end Go.Proofs.YtpjchngjhijgmaaGreat
