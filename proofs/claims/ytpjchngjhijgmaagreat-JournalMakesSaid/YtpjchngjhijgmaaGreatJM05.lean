import Derived.Test.YtpjchngjhijgmaaGreatJM04
set_option linter.all false
namespace Go.Proofs.YtpjchngjhijgmaaGreat
open Go.RowKit
section
variable {W w : World} {I : Hp} {l : List HP}
set_option maxRecDepth 4000
set_option maxHeartbeats 8000000
theorem St.set5 {b:Nat} {c0 c1 c2 c3 c4:Value} {t:TypeId} {f:Nat × Nat} (h:St W I w (HP.pt b (.cells #[c0,c1,c2,c3,c4] t f)::l)) (v0 v1 v2 v3 v4:Value) :
  St W I (((((w.setCell ⟨b,0,none⟩ v0).setCell ⟨b,1,none⟩ v1).setCell ⟨b,2,none⟩ v2).setCell ⟨b,3,none⟩ v3).setCell ⟨b,4,none⟩ v4) (HP.pt b (.cells #[v0,v1,v2,v3,v4] t f)::l):=by
 have h5:=((((h.setCell 0 v0).setCell 1 v1).setCell 2 v2).setCell 3 v3).setCell 4 v4
 simp only [List.setIfInBounds_toArray,Zl4,Zl5] at h5
 exact h5
theorem St.set2 {b:Nat} {c0 c1:Value} {t:TypeId} {f:Nat × Nat} (h:St W I w (HP.pt b (.cells #[c0,c1] t f)::l)) (v0 v1:Value) :
  St W I ((w.setCell ⟨b,0,none⟩ v0).setCell ⟨b,1,none⟩ v1) (HP.pt b (.cells #[v0,v1] t f)::l):=by
 have h5:=(h.setCell 0 v0).setCell 1 v1
 simp only [List.setIfInBounds_toArray,Zl4,Zl5] at h5
 exact h5
theorem Zq22 {b:Nat} {c0 c1 c2 c3 c4:Value} {t:TypeId} {f:Nat × Nat} (h:St W I w (HP.pt b (.cells #[c0,c1,c2,c3,c4] t f)::l)):w.cell? ⟨b,0,none⟩=some c0∧w.cell? ⟨b,1,none⟩=some c1∧w.cell? ⟨b,2,none⟩=some c2∧w.cell? ⟨b,3,none⟩=some c3∧w.cell? ⟨b,4,none⟩=some c4:=by
 have y:=Zq1 h.heap
 have y0:=y 0
 have y1:=y 1
 have y2:=y 2
 have y3:=y 3
 have y4:=y 4
 simp at y0 y1 y2 y3 y4
 exact ⟨y0,y1,y2,y3,y4⟩
theorem Zq40 {b:Nat} {c0 c1 c2:Value} {t:TypeId} {f:Nat × Nat} (h:St W I w (HP.pt b (.cells #[c0,c1,c2] t f)::l)):w.cell? ⟨b,0,none⟩=some c0∧w.cell? ⟨b,1,none⟩=some c1∧w.cell? ⟨b,2,none⟩=some c2:=by
 have y:=Zq1 h.heap
 have y0:=y 0
 have y1:=y 1
 have y2:=y 2
 simp at y0 y1 y2
 exact ⟨y0,y1,y2⟩
theorem Zq47 {b:Nat} {c0 c1:Value} {t:TypeId} {f:Nat × Nat} (h:St W I w (HP.pt b (.cells #[c0,c1] t f)::l)):w.cell? ⟨b,0,none⟩=some c0∧w.cell? ⟨b,1,none⟩=some c1:=by
 have y:=Zq1 h.heap
 have y0:=y 0
 have y1:=y 1
 simp at y0 y1
 exact ⟨y0,y1⟩
def c5 (x0 x1 x2 x3 x4:Int):Array Value:=#[.int .i64 x0,.int .i64 x1,.int .i64 x2,.int .i64 x3,.int .i64 x4]
theorem Zq295 {a b:Code} {Q:Exit→Act→World→Prop} {K:Act→World→Prop} (hK:∀ x y,b.wp Tryz.prog Q x y→K x y) (hC:(Tryz.f130).body.bind (fromR 2)=some (.seq a b)) {x0 x1 x2 x3 x4 x5 x6 x7 x10 x11 x12 x13 x14 x15 x16 x17 x18 x19 x20 x21 x22 x23 x24 x25 x26 x27 x28 x29 x30 x31 x32 x33 x34 x35 x36 x37 x38 x39 x40 x41 x42 x43 x44 x45 x46 x47 x48 x49 x50 x51 x52 x53 x54 x55 x56 x57 x58 x59 x60 x61 x62 x63 x64 x65 x66 x67 x68 x69 x70 x71 x72 x73:Value} {g8 g9:Nat}
  (h:St W I w (HP.pt g8 (.cells #[.int .i64 0,.int .i64 0,.int .i64 0,.int .i64 0,.int .i64 0] 108)::HP.pt g9 (.cells #[.int .i64 0,.int .i64 0] 41)::l))
  (hQ:∀ (y0 y1 y2 y3 y4 y5 y6 y7 y12 y13 y14 y15 y16 y17 y18 y19 y20 y21 y22 y23 y24 y25 y26 y27 y28 y29 y30 y31 y32 y33 y34 y35 y36 y37 y38 y39 y40 y41 y42 y43 y44 y45 y46 y47 y48 y49 y50 y51 y52 y53 y54 y55 y56 y57 y58 y59 y60 y61 y62 y63 y64 y65 y66 y67 y68 y69 y70 y71 y72 y73:Value) (w':World),St W I w' (HP.pt g8 (.cells #[.int .i64 0,.int .i64 0,.int .i64 0,.int .i64 0,.int .i64 0] 108)::HP.pt g9 (.cells #[.int .i64 0,.int .i64 0] 41)::l)→Q .ret ⟨#[y0,y1,y2,y3,y4,y5,y6,y7,.pointer (some ⟨g8,0,none⟩),.pointer (some ⟨g9,0,none⟩),.bool false,.bool false,y12,y13,y14,y15,y16,y17,y18,y19,y20,y21,y22,y23,y24,y25,y26,y27,y28,y29,y30,y31,y32,y33,y34,y35,y36,y37,y38,y39,y40,y41,y42,y43,y44,y45,y46,y47,y48,y49,y50,y51,y52,y53,y54,y55,y56,y57,y58,y59,y60,y61,y62,y63,y64,y65,y66,y67,y68,y69,y70,y71,y72,y73],[]⟩ w') :
  a.wp Tryz.prog (Exit.then K Q) ⟨#[x0,x1,x2,x3,x4,x5,x6,x7,.pointer (some ⟨g8,0,none⟩),.pointer (some ⟨g9,0,none⟩),x10,x11,x12,x13,x14,x15,x16,x17,x18,x19,x20,x21,x22,x23,x24,x25,x26,x27,x28,x29,x30,x31,x32,x33,x34,x35,x36,x37,x38,x39,x40,x41,x42,x43,x44,x45,x46,x47,x48,x49,x50,x51,x52,x53,x54,x55,x56,x57,x58,x59,x60,x61,x62,x63,x64,x65,x66,x67,x68,x69,x70,x71,x72,x73],[]⟩ w:=by
 injection hC with hC
 injection hC with hC1 hC2
 subst hC1 hC2
 obtain ⟨x0,x1,x2,x3,x4⟩:=Zq22 h
 obtain ⟨y0,y1⟩:=Zq47 (h.pull 1 _ rfl)
 have f0:=frozen_of_row h.heap
 have f1:=frozen_of_row (h.pull 1 _ rfl).heap
 have HQ:=Zh hQ
 have H1:=Zh h
 clear h hQ
 go_upto_region 2 with fail
 refine Zq8 (fun w'=>(w'.cell? ⟨g8,0,none⟩=some (.int .i64 0)∧w'.cell? ⟨g8,1,none⟩=some (.int .i64 0)∧w'.cell? ⟨g8,2,none⟩=some (.int .i64 0)∧w'.cell? ⟨g8,3,none⟩=some (.int .i64 0)∧w'.cell? ⟨g8,4,none⟩=some (.int .i64 0))∧w'.cell? ⟨g9,0,none⟩=some (.int .i64 0)∧w'.cell? ⟨g9,1,none⟩=some (.int .i64 0)) [0,1] [2] [3,4,5] (by kernel_rfl) (by kernel_rfl) (by (exact ⟨⟨x0,x1,x2,x3,x4⟩,y0,y1⟩)) ?_
 simp only [pickL,Zl6,Zl7]
 repeat (refine Zq5 _ (Or.inl ⟨by rfl,by (intro w hSw;(try dsimp only at hSw);go_simp;try with_reducible rfl)⟩) ?_;(try simp only [Act.put,List.setIfInBounds_toArray,Zl4,Zl5]))
 refine Zq9 ?_
 unfold Zq16
 go_wp2_with fail
 have h2:=(H1.out.set5 (.int .i64 0) (.int .i64 0) (.int .i64 0) (.int .i64 0) (.int .i64 0)).drew
 generalize (World.drew _:World)=w5 at h2 ⊢
 clear x0 x1 x2 x3 x4 y0 y1 f0 f1
 obtain ⟨x0,x1,x2,x3,x4⟩:=Zq22 h2
 obtain ⟨y0,y1⟩:=Zq47 (h2.pull 1 _ rfl)
 have f1:=frozen_of_row (h2.pull 1 _ rfl).heap
 have H2:=Zh h2
 clear h2
 refine Zq0 ⟨⟨x0,x1,x2,x3,x4⟩,y0,y1⟩ ?_
 unfold Zq16
 go_wp2_with fail
 refine NoPanic.normal ?_
 have h3:=((H2.out.pull 1 _ rfl).set2 (.int .i64 0) (.int .i64 0)).pull 1 _ rfl
 generalize (World.setCell _ _ _:World)=w6 at h3 ⊢
 have H3:=Zh h3
 clear h3
 go_wp2_with fail
 exact HQ.out _ _ _ _ _ _ _ _ _ _ _ _ _ _ _ _ _ _ _ _ _ _ _ _ _ _ _ _ _ _ _ _ _ _ _ _ _ _ _ _ _ _ _ _ _ _ _ _ _ _ _ _ _ _ _ _ _ _ _ _ _ _ _ _ _ _ _ _ _ _ _ H3.out
theorem Zq592 {ca cb:Code} {Q:Exit→Act→World→Prop} {K:Act→World→Prop} (hK:∀ x y,cb.wp Tryz.prog Q x y→K x y) (hC:(Tryz.f130).body.bind (fromR 3)=some (.seq ca cb)) {x0 x1 x6 x7 x11 x12 x13 x14 x15 x16 x17 x18 x19 x20 x21 x22 x23 x24 x25 x26 x27 x28 x29 x30 x31 x32 x33 x34 x35 x36 x37 x38 x39 x40 x41 x42 x43 x44 x45 x46 x47 x48 x49 x50 x51 x52 x53 x54 x55 x56 x57 x58 x59 x60 x61 x62 x63 x64 x65 x66 x67 x68 x69 x70 x71 x72 x73:Value} {g4 g5 g8 g9:Nat} {a b sz s u0 u1 u2 u3 seq n z:Int}
  (h:St W I w (HP.pt g4 (.cells #[.int .i64 a,.int .i64 b,.int .i64 sz] 26)::HP.pt g5 (.cells #[.int .i64 s,.int .i64 u0,.int .i64 u1,.int .i64 u2,.int .i64 u3] 108)::HP.pt g8 (.cells #[.int .i64 0,.int .i64 0,.int .i64 0,.int .i64 0,.int .i64 0] 108)::HP.pt g9 (.cells #[.int .i64 0,.int .i64 0] 41)::l))
  (ha:1≤a∧a≤4) (ho:Int.tmod seq a=0) (hz:Zq131 n=z) (hz1:0≤z∧z≤112) (hs:0≤s∧s<1073741824) (hu:0≤u0∧u0≤4096) (hc:¬ sz<u0+z)
  (hQ:∀ (y0 y1 y2 y3 y4 y5 y6 y7 y12 y13 y14 y15 y16 y17 y18 y19 y20 y21 y22 y23 y24 y25 y26 y27 y28 y29 y30 y31 y32 y33 y34 y35 y36 y37 y38 y39 y40 y41 y42 y43 y44 y45 y46 y47 y48 y49 y50 y51 y52 y53 y54 y55 y56 y57 y58 y59 y60 y61 y62 y63 y64 y65 y66 y67 y68 y69 y70 y71 y72 y73:Value) (w':World),St W I w' (HP.pt g8 (.cells #[.int .i64 s,.int .i64 (u0+z),.int .i64 u1,.int .i64 u2,.int .i64 u3] 108)::HP.pt g9 (.cells #[.int .i64 s,.int .i64 0] 41)::l)→Q .ret ⟨#[y0,y1,y2,y3,y4,y5,y6,y7,.pointer (some ⟨g8,0,none⟩),.pointer (some ⟨g9,0,none⟩),.bool false,.bool true,y12,y13,y14,y15,y16,y17,y18,y19,y20,y21,y22,y23,y24,y25,y26,y27,y28,y29,y30,y31,y32,y33,y34,y35,y36,y37,y38,y39,y40,y41,y42,y43,y44,y45,y46,y47,y48,y49,y50,y51,y52,y53,y54,y55,y56,y57,y58,y59,y60,y61,y62,y63,y64,y65,y66,y67,y68,y69,y70,y71,y72,y73],[]⟩ w') :
  ca.wp Tryz.prog (Exit.then K Q) ⟨#[x0,x1,.int .i64 seq,.int .i64 n,.pointer (some ⟨g4,0,none⟩),.pointer (some ⟨g5,0,none⟩),x6,x7,.pointer (some ⟨g8,0,none⟩),.pointer (some ⟨g9,0,none⟩),.bool false,x11,x12,x13,x14,x15,x16,x17,x18,x19,x20,x21,x22,x23,x24,x25,x26,x27,x28,x29,x30,x31,x32,x33,x34,x35,x36,x37,x38,x39,x40,x41,x42,x43,x44,x45,x46,x47,x48,x49,x50,x51,x52,x53,x54,x55,x56,x57,x58,x59,x60,x61,x62,x63,x64,x65,x66,x67,x68,x69,x70,x71,x72,x73],[]⟩ w:=by
 injection hC with hC
 injection hC with hC1 hC2
 subst hC1 hC2
 obtain ⟨x0,x1,x2⟩:=Zq40 h
 obtain ⟨y0,y1,y2,y3,y4⟩:=Zq22 (h.pull 1 _ rfl)
 have f5:=frozen_of_row (h.pull 1 _ rfl).heap
 have ha0:¬ a=0:=by omega
 have hd:decide (sz<u0+z)=false:=by exact decide_eq_false hc
 have hw0:IntKind.i64.wrap (Int.tmod seq a)=0:=by rw [ho,IntKind.wrap_i64];omega
 have hw1:IntKind.i64.wrap (u0+z)=u0+z:=by rw [IntKind.wrap_i64];omega
 have hw2:IntKind.i64.wrap (s+1)=s+1:=by rw [IntKind.wrap_i64];omega
 have hw3:IntKind.i64.wrap z=z:=by rw [IntKind.wrap_i64];omega
 have HQ:=Zh hQ
 have H1:=Zh h
 have HZ:=Zh (Zq75 n)
 rw [hz] at HZ
 clear h hQ hz hc ha hu hs hz1
 go_upto_region 3 with fail
 refine Zq8 (fun w'=>w'.cell? ⟨g4,0,none⟩=some (.int .i64 a)) [0,2,3,4,5] [1,6] [7] (by kernel_rfl) (by kernel_rfl) (by (exact x0)) ?_
 simp only [pickL,Zl6,Zl7]
 repeat (refine Zq5 _ (Or.inl ⟨by rfl,by (intro w hSw;(try dsimp only at hSw);go_simp;try with_reducible rfl)⟩) ?_;(try simp only [Act.put,List.setIfInBounds_toArray,Zl4,Zl5]))
 refine Zq9 ?_
 unfold Zq16
 go_wp2_with fail
 refine (HZ.out _).mono ?_
 rintro e w2 ⟨rfl,rfl⟩
 go_wp2_with fail
 refine Zq0 x0 ?_
 unfold Zq16
 go_wp2_with fail
 refine Zq0 x0 ?_
 unfold Zq16
 go_wp2_with fail
 refine NoPanic.normal ?_
 go_upto_region 4 with fail
 go_quiet (fail)
 have h2:=H1.out.drew.drewN nq
 generalize (World.drewN _ _:World)=w3 at h2 ⊢
 clear x0 x1 x2 y0 y1 y2 y3 y4 f5
 obtain ⟨y0,y1,y2,y3,y4⟩:=Zq22 (h2.pull 1 _ rfl)
 have f5:=frozen_of_row (h2.pull 1 _ rfl).heap
 have H2:=Zh h2
 clear h2
 go_upto_region 7 with fail
 have h3:=((H2.out.pull 1 _ rfl).setCell 1 (.int .i64 (u0+z)))
 simp only [List.setIfInBounds_toArray,Zl4,Zl5,Zl0,Zl1] at h3
 generalize (World.setCell _ _ _:World)=w4 at h3 ⊢
 obtain ⟨x0,x1,x2,x3,x4⟩:=Zq22 h3
 have h4:=h3.pull 2 _ rfl
 obtain ⟨y0,y1,y2,y3,y4⟩:=Zq22 h4
 obtain ⟨z0,z1⟩:=Zq47 (h3.pull 3 _ rfl)
 have f8:=frozen_of_row h4.heap
 have f9:=frozen_of_row (h3.pull 3 _ rfl).heap
 have H3:=Zh h3
 clear h3 h4
 refine Zq8 (fun w'=>w'.cell? ⟨g5,0,none⟩=some (.int .i64 s)∧w'.cell? ⟨g5,1,none⟩=some (.int .i64 (u0+z))∧w'.cell? ⟨g5,2,none⟩=some (.int .i64 u1)∧w'.cell? ⟨g5,3,none⟩=some (.int .i64 u2)∧w'.cell? ⟨g5,4,none⟩=some (.int .i64 u3)) [0,1,2,3,5,4] [6,7] [8,9] (by kernel_rfl) (by kernel_rfl) (by (exact ⟨x0,x1,x2,x3,x4⟩)) ?_
 simp only [pickL,Zl6,Zl7]
 repeat (refine Zq5 _ (Or.inl ⟨by rfl,by (intro w hSw;(try dsimp only at hSw);go_simp;try with_reducible rfl)⟩) ?_;(try simp only [Act.put,List.setIfInBounds_toArray,Zl4,Zl5]))
 refine Zq9 ?_
 unfold Zq16
 go_wp2_with fail
 have h5:=((H3.out.pull 2 _ rfl).set5 (.int .i64 s) (.int .i64 (u0+z)) (.int .i64 u1) (.int .i64 u2) (.int .i64 u3)).drew
 generalize (World.drew _:World)=w5 at h5 ⊢
 clear x0 x1 x2 x3 x4 y0 y1 y2 y3 y4 z0 z1 f8 f9
 obtain ⟨x0,x1,x2,x3,x4⟩:=Zq22 (h5.pull 1 _ rfl)
 obtain ⟨z0,z1⟩:=Zq47 (h5.pull 3 _ rfl)
 have f9:=frozen_of_row (h5.pull 3 _ rfl).heap
 have H5:=Zh h5
 clear h5
 refine Zq0 ⟨x0,x1,x2,x3,x4⟩ ?_
 unfold Zq16
 go_wp2_with fail
 have h6:=(H5.out.pull 3 _ rfl).set2 (.int .i64 s) (.int .i64 0)
 generalize (World.setCell _ _ _:World)=w6 at h6 ⊢
 obtain ⟨x0,x1,x2,x3,x4⟩:=Zq22 (h6.pull 2 _ rfl)
 have H6:=Zh h6
 clear h6
 refine Zq0 ⟨x0,x1,x2,x3,x4⟩ ?_
 unfold Zq16
 go_wp2_with fail
 refine NoPanic.normal ?_
 go_wp2_with fail
 have h7:=(((H6.out.pull 2 _ rfl).drop).pull 2 _ rfl).drop
 simp only [Zl0,Zl1] at h7
 exact HQ.out _ _ _ _ _ _ _ _ _ _ _ _ _ _ _ _ _ _ _ _ _ _ _ _ _ _ _ _ _ _ _ _ _ _ _ _ _ _ _ _ _ _ _ _ _ _ _ _ _ _ _ _ _ _ _ _ _ _ _ _ _ _ _ _ _ _ _ _ _ _ _ (h7.perm (by ((try simp only [Zl0,Zl1,Zl2,Zl3]);repeat (first|with_reducible exact List.Perm.refl _|(apply Zq4;(· repeat (first|with_reducible exact Zq3|with_reducible apply Zq2)))))))
theorem Zq593 {ca cb:Code} {Q:Exit→Act→World→Prop} {K:Act→World→Prop} (hK:∀ x y,cb.wp Tryz.prog Q x y→K x y) (hC:(Tryz.f130).body.bind (fromR 3)=some (.seq ca cb)) {x0 x1 x6 x7 x11 x12 x13 x14 x15 x16 x17 x18 x19 x20 x21 x22 x23 x24 x25 x26 x27 x28 x29 x30 x31 x32 x33 x34 x35 x36 x37 x38 x39 x40 x41 x42 x43 x44 x45 x46 x47 x48 x49 x50 x51 x52 x53 x54 x55 x56 x57 x58 x59 x60 x61 x62 x63 x64 x65 x66 x67 x68 x69 x70 x71 x72 x73:Value} {g4 g5 g8 g9:Nat} {a b sz s u0 u1 u2 u3 seq n z:Int}
  (h:St W I w (HP.pt g4 (.cells #[.int .i64 a,.int .i64 b,.int .i64 sz] 26)::HP.pt g5 (.cells #[.int .i64 s,.int .i64 u0,.int .i64 u1,.int .i64 u2,.int .i64 u3] 108)::HP.pt g8 (.cells #[.int .i64 0,.int .i64 0,.int .i64 0,.int .i64 0,.int .i64 0] 108)::HP.pt g9 (.cells #[.int .i64 0,.int .i64 0] 41)::l))
  (ha:1≤a∧a≤4) (ho:Int.tmod seq a=0) (hz:Zq131 n=z) (hz1:0≤z∧z≤112) (hs:0≤s∧s<1073741824) (hu:0≤u0∧u0≤4096) (hc:sz<u0+z)
  (hQ:∀ (y0 y1 y2 y3 y4 y5 y6 y7 y12 y13 y14 y15 y16 y17 y18 y19 y20 y21 y22 y23 y24 y25 y26 y27 y28 y29 y30 y31 y32 y33 y34 y35 y36 y37 y38 y39 y40 y41 y42 y43 y44 y45 y46 y47 y48 y49 y50 y51 y52 y53 y54 y55 y56 y57 y58 y59 y60 y61 y62 y63 y64 y65 y66 y67 y68 y69 y70 y71 y72 y73:Value) (w':World),St W I w' (HP.pt g8 (.cells #[.int .i64 (s+1),.int .i64 z,.int .i64 0,.int .i64 0,.int .i64 0] 108)::HP.pt g9 (.cells #[.int .i64 (s+1),.int .i64 0] 41)::l)→Q .ret ⟨#[y0,y1,y2,y3,y4,y5,y6,y7,.pointer (some ⟨g8,0,none⟩),.pointer (some ⟨g9,0,none⟩),.bool true,.bool true,y12,y13,y14,y15,y16,y17,y18,y19,y20,y21,y22,y23,y24,y25,y26,y27,y28,y29,y30,y31,y32,y33,y34,y35,y36,y37,y38,y39,y40,y41,y42,y43,y44,y45,y46,y47,y48,y49,y50,y51,y52,y53,y54,y55,y56,y57,y58,y59,y60,y61,y62,y63,y64,y65,y66,y67,y68,y69,y70,y71,y72,y73],[]⟩ w') :
  ca.wp Tryz.prog (Exit.then K Q) ⟨#[x0,x1,.int .i64 seq,.int .i64 n,.pointer (some ⟨g4,0,none⟩),.pointer (some ⟨g5,0,none⟩),x6,x7,.pointer (some ⟨g8,0,none⟩),.pointer (some ⟨g9,0,none⟩),.bool false,x11,x12,x13,x14,x15,x16,x17,x18,x19,x20,x21,x22,x23,x24,x25,x26,x27,x28,x29,x30,x31,x32,x33,x34,x35,x36,x37,x38,x39,x40,x41,x42,x43,x44,x45,x46,x47,x48,x49,x50,x51,x52,x53,x54,x55,x56,x57,x58,x59,x60,x61,x62,x63,x64,x65,x66,x67,x68,x69,x70,x71,x72,x73],[]⟩ w:=by
 injection hC with hC
 injection hC with hC1 hC2
 subst hC1 hC2
 obtain ⟨x0,x1,x2⟩:=Zq40 h
 obtain ⟨y0,y1,y2,y3,y4⟩:=Zq22 (h.pull 1 _ rfl)
 have f5:=frozen_of_row (h.pull 1 _ rfl).heap
 have ha0:¬ a=0:=by omega
 have hd:decide (sz<u0+z)=true:=by exact decide_eq_true hc
 have hw0:IntKind.i64.wrap (Int.tmod seq a)=0:=by rw [ho,IntKind.wrap_i64];omega
 have hw1:IntKind.i64.wrap (u0+z)=u0+z:=by rw [IntKind.wrap_i64];omega
 have hw2:IntKind.i64.wrap (s+1)=s+1:=by rw [IntKind.wrap_i64];omega
 have hw3:IntKind.i64.wrap z=z:=by rw [IntKind.wrap_i64];omega
 have HQ:=Zh hQ
 have H1:=Zh h
 have HZ:=Zh (Zq75 n)
 rw [hz] at HZ
 clear h hQ hz hc ha hu hs hz1
 go_upto_region 3 with fail
 refine Zq8 (fun w'=>w'.cell? ⟨g4,0,none⟩=some (.int .i64 a)) [0,2,3,4,5] [1,6] [7] (by kernel_rfl) (by kernel_rfl) (by (exact x0)) ?_
 simp only [pickL,Zl6,Zl7]
 repeat (refine Zq5 _ (Or.inl ⟨by rfl,by (intro w hSw;(try dsimp only at hSw);go_simp;try with_reducible rfl)⟩) ?_;(try simp only [Act.put,List.setIfInBounds_toArray,Zl4,Zl5]))
 refine Zq9 ?_
 unfold Zq16
 go_wp2_with fail
 refine (HZ.out _).mono ?_
 rintro e w2 ⟨rfl,rfl⟩
 go_wp2_with fail
 refine Zq0 x0 ?_
 unfold Zq16
 go_wp2_with fail
 refine Zq0 x0 ?_
 unfold Zq16
 go_wp2_with fail
 refine NoPanic.normal ?_
 go_upto_region 4 with fail
 go_quiet (fail)
 have h2:=H1.out.drew.drewN nq
 generalize (World.drewN _ _:World)=w3 at h2 ⊢
 clear x0 x1 x2 y0 y1 y2 y3 y4 f5
 obtain ⟨y0,y1,y2,y3,y4⟩:=Zq22 (h2.pull 1 _ rfl)
 have f5:=frozen_of_row (h2.pull 1 _ rfl).heap
 have H2:=Zh h2
 clear h2
 go_upto_region 7 with fail
 have h3:=(((H2.out.pull 1 _ rfl).set5 (.int .i64 (s+1)) (.int .i64 0) (.int .i64 0) (.int .i64 0) (.int .i64 0)).setCell 1 (.int .i64 z))
 simp only [List.setIfInBounds_toArray,Zl4,Zl5,Zl0,Zl1] at h3
 generalize (World.setCell _ _ _:World)=w4 at h3 ⊢
 obtain ⟨x0,x1,x2,x3,x4⟩:=Zq22 h3
 have h4:=h3.pull 2 _ rfl
 obtain ⟨y0,y1,y2,y3,y4⟩:=Zq22 h4
 obtain ⟨z0,z1⟩:=Zq47 (h3.pull 3 _ rfl)
 have f8:=frozen_of_row h4.heap
 have f9:=frozen_of_row (h3.pull 3 _ rfl).heap
 have H3:=Zh h3
 clear h3 h4
 refine Zq8 (fun w'=>w'.cell? ⟨g5,0,none⟩=some (.int .i64 (s+1))∧w'.cell? ⟨g5,1,none⟩=some (.int .i64 z)∧w'.cell? ⟨g5,2,none⟩=some (.int .i64 0)∧w'.cell? ⟨g5,3,none⟩=some (.int .i64 0)∧w'.cell? ⟨g5,4,none⟩=some (.int .i64 0)) [0,1,2,3,5,4] [6,7] [8,9] (by kernel_rfl) (by kernel_rfl) (by (exact ⟨x0,x1,x2,x3,x4⟩)) ?_
 simp only [pickL,Zl6,Zl7]
 repeat (refine Zq5 _ (Or.inl ⟨by rfl,by (intro w hSw;(try dsimp only at hSw);go_simp;try with_reducible rfl)⟩) ?_;(try simp only [Act.put,List.setIfInBounds_toArray,Zl4,Zl5]))
 refine Zq9 ?_
 unfold Zq16
 go_wp2_with fail
 have h5:=((H3.out.pull 2 _ rfl).set5 (.int .i64 (s+1)) (.int .i64 z) (.int .i64 0) (.int .i64 0) (.int .i64 0)).drew
 generalize (World.drew _:World)=w5 at h5 ⊢
 clear x0 x1 x2 x3 x4 y0 y1 y2 y3 y4 z0 z1 f8 f9
 obtain ⟨x0,x1,x2,x3,x4⟩:=Zq22 (h5.pull 1 _ rfl)
 obtain ⟨z0,z1⟩:=Zq47 (h5.pull 3 _ rfl)
 have f9:=frozen_of_row (h5.pull 3 _ rfl).heap
 have H5:=Zh h5
 clear h5
 refine Zq0 ⟨x0,x1,x2,x3,x4⟩ ?_
 unfold Zq16
 go_wp2_with fail
 have h6:=(H5.out.pull 3 _ rfl).set2 (.int .i64 (s+1)) (.int .i64 0)
 generalize (World.setCell _ _ _:World)=w6 at h6 ⊢
 obtain ⟨x0,x1,x2,x3,x4⟩:=Zq22 (h6.pull 2 _ rfl)
 have H6:=Zh h6
 clear h6
 refine Zq0 ⟨x0,x1,x2,x3,x4⟩ ?_
 unfold Zq16
 go_wp2_with fail
 refine NoPanic.normal ?_
 go_wp2_with fail
 have h7:=(((H6.out.pull 2 _ rfl).drop).pull 2 _ rfl).drop
 simp only [Zl0,Zl1] at h7
 exact HQ.out _ _ _ _ _ _ _ _ _ _ _ _ _ _ _ _ _ _ _ _ _ _ _ _ _ _ _ _ _ _ _ _ _ _ _ _ _ _ _ _ _ _ _ _ _ _ _ _ _ _ _ _ _ _ _ _ _ _ _ _ _ _ _ _ _ _ _ _ _ _ _ (h7.perm (by ((try simp only [Zl0,Zl1,Zl2,Zl3]);repeat (first|with_reducible exact List.Perm.refl _|(apply Zq4;(· repeat (first|with_reducible exact Zq3|with_reducible apply Zq2)))))))
theorem Zq594 {ca cb:Code} {Q:Exit→Act→World→Prop} {K:Act→World→Prop} (hK:∀ x y,cb.wp Tryz.prog Q x y→K x y) (hC:(Tryz.f130).body.bind (fromR 3)=some (.seq ca cb)) {x0 x1 x6 x7 x11 x12 x13 x14 x15 x16 x17 x18 x19 x20 x21 x22 x23 x24 x25 x26 x27 x28 x29 x30 x31 x32 x33 x34 x35 x36 x37 x38 x39 x40 x41 x42 x43 x44 x45 x46 x47 x48 x49 x50 x51 x52 x53 x54 x55 x56 x57 x58 x59 x60 x61 x62 x63 x64 x65 x66 x67 x68 x69 x70 x71 x72 x73:Value} {g4 g5 g8 g9:Nat} {a b sz s u0 u1 u2 u3 seq n z:Int}
  (h:St W I w (HP.pt g4 (.cells #[.int .i64 a,.int .i64 b,.int .i64 sz] 26)::HP.pt g5 (.cells #[.int .i64 s,.int .i64 u0,.int .i64 u1,.int .i64 u2,.int .i64 u3] 108)::HP.pt g8 (.cells #[.int .i64 0,.int .i64 0,.int .i64 0,.int .i64 0,.int .i64 0] 108)::HP.pt g9 (.cells #[.int .i64 0,.int .i64 0] 41)::l))
  (ha:1≤a∧a≤4) (ho:Int.tmod seq a=1) (hz:Zq131 n=z) (hz1:0≤z∧z≤112) (hs:0≤s∧s<1073741824) (hu:0≤u1∧u1≤4096) (hc:¬ sz<u1+z)
  (hQ:∀ (y0 y1 y2 y3 y4 y5 y6 y7 y12 y13 y14 y15 y16 y17 y18 y19 y20 y21 y22 y23 y24 y25 y26 y27 y28 y29 y30 y31 y32 y33 y34 y35 y36 y37 y38 y39 y40 y41 y42 y43 y44 y45 y46 y47 y48 y49 y50 y51 y52 y53 y54 y55 y56 y57 y58 y59 y60 y61 y62 y63 y64 y65 y66 y67 y68 y69 y70 y71 y72 y73:Value) (w':World),St W I w' (HP.pt g8 (.cells #[.int .i64 s,.int .i64 u0,.int .i64 (u1+z),.int .i64 u2,.int .i64 u3] 108)::HP.pt g9 (.cells #[.int .i64 s,.int .i64 1] 41)::l)→Q .ret ⟨#[y0,y1,y2,y3,y4,y5,y6,y7,.pointer (some ⟨g8,0,none⟩),.pointer (some ⟨g9,0,none⟩),.bool false,.bool true,y12,y13,y14,y15,y16,y17,y18,y19,y20,y21,y22,y23,y24,y25,y26,y27,y28,y29,y30,y31,y32,y33,y34,y35,y36,y37,y38,y39,y40,y41,y42,y43,y44,y45,y46,y47,y48,y49,y50,y51,y52,y53,y54,y55,y56,y57,y58,y59,y60,y61,y62,y63,y64,y65,y66,y67,y68,y69,y70,y71,y72,y73],[]⟩ w') :
  ca.wp Tryz.prog (Exit.then K Q) ⟨#[x0,x1,.int .i64 seq,.int .i64 n,.pointer (some ⟨g4,0,none⟩),.pointer (some ⟨g5,0,none⟩),x6,x7,.pointer (some ⟨g8,0,none⟩),.pointer (some ⟨g9,0,none⟩),.bool false,x11,x12,x13,x14,x15,x16,x17,x18,x19,x20,x21,x22,x23,x24,x25,x26,x27,x28,x29,x30,x31,x32,x33,x34,x35,x36,x37,x38,x39,x40,x41,x42,x43,x44,x45,x46,x47,x48,x49,x50,x51,x52,x53,x54,x55,x56,x57,x58,x59,x60,x61,x62,x63,x64,x65,x66,x67,x68,x69,x70,x71,x72,x73],[]⟩ w:=by
 injection hC with hC
 injection hC with hC1 hC2
 subst hC1 hC2
 obtain ⟨x0,x1,x2⟩:=Zq40 h
 obtain ⟨y0,y1,y2,y3,y4⟩:=Zq22 (h.pull 1 _ rfl)
 have f5:=frozen_of_row (h.pull 1 _ rfl).heap
 have ha0:¬ a=0:=by omega
 have hd:decide (sz<u1+z)=false:=by exact decide_eq_false hc
 have hw0:IntKind.i64.wrap (Int.tmod seq a)=1:=by rw [ho,IntKind.wrap_i64];omega
 have hw1:IntKind.i64.wrap (u1+z)=u1+z:=by rw [IntKind.wrap_i64];omega
 have hw2:IntKind.i64.wrap (s+1)=s+1:=by rw [IntKind.wrap_i64];omega
 have hw3:IntKind.i64.wrap z=z:=by rw [IntKind.wrap_i64];omega
 have HQ:=Zh hQ
 have H1:=Zh h
 have HZ:=Zh (Zq75 n)
 rw [hz] at HZ
 clear h hQ hz hc ha hu hs hz1
 go_upto_region 3 with fail
 refine Zq8 (fun w'=>w'.cell? ⟨g4,0,none⟩=some (.int .i64 a)) [0,2,3,4,5] [1,6] [7] (by kernel_rfl) (by kernel_rfl) (by (exact x0)) ?_
 simp only [pickL,Zl6,Zl7]
 repeat (refine Zq5 _ (Or.inl ⟨by rfl,by (intro w hSw;(try dsimp only at hSw);go_simp;try with_reducible rfl)⟩) ?_;(try simp only [Act.put,List.setIfInBounds_toArray,Zl4,Zl5]))
 refine Zq9 ?_
 unfold Zq16
 go_wp2_with fail
 refine (HZ.out _).mono ?_
 rintro e w2 ⟨rfl,rfl⟩
 go_wp2_with fail
 refine Zq0 x0 ?_
 unfold Zq16
 go_wp2_with fail
 refine Zq0 x0 ?_
 unfold Zq16
 go_wp2_with fail
 refine NoPanic.normal ?_
 go_upto_region 4 with fail
 go_quiet (fail)
 have h2:=H1.out.drew.drewN nq
 generalize (World.drewN _ _:World)=w3 at h2 ⊢
 clear x0 x1 x2 y0 y1 y2 y3 y4 f5
 obtain ⟨y0,y1,y2,y3,y4⟩:=Zq22 (h2.pull 1 _ rfl)
 have f5:=frozen_of_row (h2.pull 1 _ rfl).heap
 have H2:=Zh h2
 clear h2
 go_upto_region 7 with fail
 have h3:=((H2.out.pull 1 _ rfl).setCell 2 (.int .i64 (u1+z)))
 simp only [List.setIfInBounds_toArray,Zl4,Zl5,Zl0,Zl1] at h3
 generalize (World.setCell _ _ _:World)=w4 at h3 ⊢
 obtain ⟨x0,x1,x2,x3,x4⟩:=Zq22 h3
 have h4:=h3.pull 2 _ rfl
 obtain ⟨y0,y1,y2,y3,y4⟩:=Zq22 h4
 obtain ⟨z0,z1⟩:=Zq47 (h3.pull 3 _ rfl)
 have f8:=frozen_of_row h4.heap
 have f9:=frozen_of_row (h3.pull 3 _ rfl).heap
 have H3:=Zh h3
 clear h3 h4
 refine Zq8 (fun w'=>w'.cell? ⟨g5,0,none⟩=some (.int .i64 s)∧w'.cell? ⟨g5,1,none⟩=some (.int .i64 u0)∧w'.cell? ⟨g5,2,none⟩=some (.int .i64 (u1+z))∧w'.cell? ⟨g5,3,none⟩=some (.int .i64 u2)∧w'.cell? ⟨g5,4,none⟩=some (.int .i64 u3)) [0,1,2,3,5,4] [6,7] [8,9] (by kernel_rfl) (by kernel_rfl) (by (exact ⟨x0,x1,x2,x3,x4⟩)) ?_
 simp only [pickL,Zl6,Zl7]
 repeat (refine Zq5 _ (Or.inl ⟨by rfl,by (intro w hSw;(try dsimp only at hSw);go_simp;try with_reducible rfl)⟩) ?_;(try simp only [Act.put,List.setIfInBounds_toArray,Zl4,Zl5]))
 refine Zq9 ?_
 unfold Zq16
 go_wp2_with fail
 have h5:=((H3.out.pull 2 _ rfl).set5 (.int .i64 s) (.int .i64 u0) (.int .i64 (u1+z)) (.int .i64 u2) (.int .i64 u3)).drew
 generalize (World.drew _:World)=w5 at h5 ⊢
 clear x0 x1 x2 x3 x4 y0 y1 y2 y3 y4 z0 z1 f8 f9
 obtain ⟨x0,x1,x2,x3,x4⟩:=Zq22 (h5.pull 1 _ rfl)
 obtain ⟨z0,z1⟩:=Zq47 (h5.pull 3 _ rfl)
 have f9:=frozen_of_row (h5.pull 3 _ rfl).heap
 have H5:=Zh h5
 clear h5
 refine Zq0 ⟨x0,x1,x2,x3,x4⟩ ?_
 unfold Zq16
 go_wp2_with fail
 have h6:=(H5.out.pull 3 _ rfl).set2 (.int .i64 s) (.int .i64 1)
 generalize (World.setCell _ _ _:World)=w6 at h6 ⊢
 obtain ⟨x0,x1,x2,x3,x4⟩:=Zq22 (h6.pull 2 _ rfl)
 have H6:=Zh h6
 clear h6
 refine Zq0 ⟨x0,x1,x2,x3,x4⟩ ?_
 unfold Zq16
 go_wp2_with fail
 refine NoPanic.normal ?_
 go_wp2_with fail
 have h7:=(((H6.out.pull 2 _ rfl).drop).pull 2 _ rfl).drop
 simp only [Zl0,Zl1] at h7
 exact HQ.out _ _ _ _ _ _ _ _ _ _ _ _ _ _ _ _ _ _ _ _ _ _ _ _ _ _ _ _ _ _ _ _ _ _ _ _ _ _ _ _ _ _ _ _ _ _ _ _ _ _ _ _ _ _ _ _ _ _ _ _ _ _ _ _ _ _ _ _ _ _ _ (h7.perm (by ((try simp only [Zl0,Zl1,Zl2,Zl3]);repeat (first|with_reducible exact List.Perm.refl _|(apply Zq4;(· repeat (first|with_reducible exact Zq3|with_reducible apply Zq2)))))))
theorem Zq595 {ca cb:Code} {Q:Exit→Act→World→Prop} {K:Act→World→Prop} (hK:∀ x y,cb.wp Tryz.prog Q x y→K x y) (hC:(Tryz.f130).body.bind (fromR 3)=some (.seq ca cb)) {x0 x1 x6 x7 x11 x12 x13 x14 x15 x16 x17 x18 x19 x20 x21 x22 x23 x24 x25 x26 x27 x28 x29 x30 x31 x32 x33 x34 x35 x36 x37 x38 x39 x40 x41 x42 x43 x44 x45 x46 x47 x48 x49 x50 x51 x52 x53 x54 x55 x56 x57 x58 x59 x60 x61 x62 x63 x64 x65 x66 x67 x68 x69 x70 x71 x72 x73:Value} {g4 g5 g8 g9:Nat} {a b sz s u0 u1 u2 u3 seq n z:Int}
  (h:St W I w (HP.pt g4 (.cells #[.int .i64 a,.int .i64 b,.int .i64 sz] 26)::HP.pt g5 (.cells #[.int .i64 s,.int .i64 u0,.int .i64 u1,.int .i64 u2,.int .i64 u3] 108)::HP.pt g8 (.cells #[.int .i64 0,.int .i64 0,.int .i64 0,.int .i64 0,.int .i64 0] 108)::HP.pt g9 (.cells #[.int .i64 0,.int .i64 0] 41)::l))
  (ha:1≤a∧a≤4) (ho:Int.tmod seq a=1) (hz:Zq131 n=z) (hz1:0≤z∧z≤112) (hs:0≤s∧s<1073741824) (hu:0≤u1∧u1≤4096) (hc:sz<u1+z)
  (hQ:∀ (y0 y1 y2 y3 y4 y5 y6 y7 y12 y13 y14 y15 y16 y17 y18 y19 y20 y21 y22 y23 y24 y25 y26 y27 y28 y29 y30 y31 y32 y33 y34 y35 y36 y37 y38 y39 y40 y41 y42 y43 y44 y45 y46 y47 y48 y49 y50 y51 y52 y53 y54 y55 y56 y57 y58 y59 y60 y61 y62 y63 y64 y65 y66 y67 y68 y69 y70 y71 y72 y73:Value) (w':World),St W I w' (HP.pt g8 (.cells #[.int .i64 (s+1),.int .i64 0,.int .i64 z,.int .i64 0,.int .i64 0] 108)::HP.pt g9 (.cells #[.int .i64 (s+1),.int .i64 1] 41)::l)→Q .ret ⟨#[y0,y1,y2,y3,y4,y5,y6,y7,.pointer (some ⟨g8,0,none⟩),.pointer (some ⟨g9,0,none⟩),.bool true,.bool true,y12,y13,y14,y15,y16,y17,y18,y19,y20,y21,y22,y23,y24,y25,y26,y27,y28,y29,y30,y31,y32,y33,y34,y35,y36,y37,y38,y39,y40,y41,y42,y43,y44,y45,y46,y47,y48,y49,y50,y51,y52,y53,y54,y55,y56,y57,y58,y59,y60,y61,y62,y63,y64,y65,y66,y67,y68,y69,y70,y71,y72,y73],[]⟩ w') :
  ca.wp Tryz.prog (Exit.then K Q) ⟨#[x0,x1,.int .i64 seq,.int .i64 n,.pointer (some ⟨g4,0,none⟩),.pointer (some ⟨g5,0,none⟩),x6,x7,.pointer (some ⟨g8,0,none⟩),.pointer (some ⟨g9,0,none⟩),.bool false,x11,x12,x13,x14,x15,x16,x17,x18,x19,x20,x21,x22,x23,x24,x25,x26,x27,x28,x29,x30,x31,x32,x33,x34,x35,x36,x37,x38,x39,x40,x41,x42,x43,x44,x45,x46,x47,x48,x49,x50,x51,x52,x53,x54,x55,x56,x57,x58,x59,x60,x61,x62,x63,x64,x65,x66,x67,x68,x69,x70,x71,x72,x73],[]⟩ w:=by
 injection hC with hC
 injection hC with hC1 hC2
 subst hC1 hC2
 obtain ⟨x0,x1,x2⟩:=Zq40 h
 obtain ⟨y0,y1,y2,y3,y4⟩:=Zq22 (h.pull 1 _ rfl)
 have f5:=frozen_of_row (h.pull 1 _ rfl).heap
 have ha0:¬ a=0:=by omega
 have hd:decide (sz<u1+z)=true:=by exact decide_eq_true hc
 have hw0:IntKind.i64.wrap (Int.tmod seq a)=1:=by rw [ho,IntKind.wrap_i64];omega
 have hw1:IntKind.i64.wrap (u1+z)=u1+z:=by rw [IntKind.wrap_i64];omega
 have hw2:IntKind.i64.wrap (s+1)=s+1:=by rw [IntKind.wrap_i64];omega
 have hw3:IntKind.i64.wrap z=z:=by rw [IntKind.wrap_i64];omega
 have HQ:=Zh hQ
 have H1:=Zh h
 have HZ:=Zh (Zq75 n)
 rw [hz] at HZ
 clear h hQ hz hc ha hu hs hz1
 go_upto_region 3 with fail
 refine Zq8 (fun w'=>w'.cell? ⟨g4,0,none⟩=some (.int .i64 a)) [0,2,3,4,5] [1,6] [7] (by kernel_rfl) (by kernel_rfl) (by (exact x0)) ?_
 simp only [pickL,Zl6,Zl7]
 repeat (refine Zq5 _ (Or.inl ⟨by rfl,by (intro w hSw;(try dsimp only at hSw);go_simp;try with_reducible rfl)⟩) ?_;(try simp only [Act.put,List.setIfInBounds_toArray,Zl4,Zl5]))
 refine Zq9 ?_
 unfold Zq16
 go_wp2_with fail
 refine (HZ.out _).mono ?_
 rintro e w2 ⟨rfl,rfl⟩
 go_wp2_with fail
 refine Zq0 x0 ?_
 unfold Zq16
 go_wp2_with fail
 refine Zq0 x0 ?_
 unfold Zq16
 go_wp2_with fail
 refine NoPanic.normal ?_
 go_upto_region 4 with fail
 go_quiet (fail)
 have h2:=H1.out.drew.drewN nq
 generalize (World.drewN _ _:World)=w3 at h2 ⊢
 clear x0 x1 x2 y0 y1 y2 y3 y4 f5
 obtain ⟨y0,y1,y2,y3,y4⟩:=Zq22 (h2.pull 1 _ rfl)
 have f5:=frozen_of_row (h2.pull 1 _ rfl).heap
 have H2:=Zh h2
 clear h2
 go_upto_region 7 with fail
 have h3:=(((H2.out.pull 1 _ rfl).set5 (.int .i64 (s+1)) (.int .i64 0) (.int .i64 0) (.int .i64 0) (.int .i64 0)).setCell 2 (.int .i64 z))
 simp only [List.setIfInBounds_toArray,Zl4,Zl5,Zl0,Zl1] at h3
 generalize (World.setCell _ _ _:World)=w4 at h3 ⊢
 obtain ⟨x0,x1,x2,x3,x4⟩:=Zq22 h3
 have h4:=h3.pull 2 _ rfl
 obtain ⟨y0,y1,y2,y3,y4⟩:=Zq22 h4
 obtain ⟨z0,z1⟩:=Zq47 (h3.pull 3 _ rfl)
 have f8:=frozen_of_row h4.heap
 have f9:=frozen_of_row (h3.pull 3 _ rfl).heap
 have H3:=Zh h3
 clear h3 h4
 refine Zq8 (fun w'=>w'.cell? ⟨g5,0,none⟩=some (.int .i64 (s+1))∧w'.cell? ⟨g5,1,none⟩=some (.int .i64 0)∧w'.cell? ⟨g5,2,none⟩=some (.int .i64 z)∧w'.cell? ⟨g5,3,none⟩=some (.int .i64 0)∧w'.cell? ⟨g5,4,none⟩=some (.int .i64 0)) [0,1,2,3,5,4] [6,7] [8,9] (by kernel_rfl) (by kernel_rfl) (by (exact ⟨x0,x1,x2,x3,x4⟩)) ?_
 simp only [pickL,Zl6,Zl7]
 repeat (refine Zq5 _ (Or.inl ⟨by rfl,by (intro w hSw;(try dsimp only at hSw);go_simp;try with_reducible rfl)⟩) ?_;(try simp only [Act.put,List.setIfInBounds_toArray,Zl4,Zl5]))
 refine Zq9 ?_
 unfold Zq16
 go_wp2_with fail
 have h5:=((H3.out.pull 2 _ rfl).set5 (.int .i64 (s+1)) (.int .i64 0) (.int .i64 z) (.int .i64 0) (.int .i64 0)).drew
 generalize (World.drew _:World)=w5 at h5 ⊢
 clear x0 x1 x2 x3 x4 y0 y1 y2 y3 y4 z0 z1 f8 f9
 obtain ⟨x0,x1,x2,x3,x4⟩:=Zq22 (h5.pull 1 _ rfl)
 obtain ⟨z0,z1⟩:=Zq47 (h5.pull 3 _ rfl)
 have f9:=frozen_of_row (h5.pull 3 _ rfl).heap
 have H5:=Zh h5
 clear h5
 refine Zq0 ⟨x0,x1,x2,x3,x4⟩ ?_
 unfold Zq16
 go_wp2_with fail
 have h6:=(H5.out.pull 3 _ rfl).set2 (.int .i64 (s+1)) (.int .i64 1)
 generalize (World.setCell _ _ _:World)=w6 at h6 ⊢
 obtain ⟨x0,x1,x2,x3,x4⟩:=Zq22 (h6.pull 2 _ rfl)
 have H6:=Zh h6
 clear h6
 refine Zq0 ⟨x0,x1,x2,x3,x4⟩ ?_
 unfold Zq16
 go_wp2_with fail
 refine NoPanic.normal ?_
 go_wp2_with fail
 have h7:=(((H6.out.pull 2 _ rfl).drop).pull 2 _ rfl).drop
 simp only [Zl0,Zl1] at h7
 exact HQ.out _ _ _ _ _ _ _ _ _ _ _ _ _ _ _ _ _ _ _ _ _ _ _ _ _ _ _ _ _ _ _ _ _ _ _ _ _ _ _ _ _ _ _ _ _ _ _ _ _ _ _ _ _ _ _ _ _ _ _ _ _ _ _ _ _ _ _ _ _ _ _ (h7.perm (by ((try simp only [Zl0,Zl1,Zl2,Zl3]);repeat (first|with_reducible exact List.Perm.refl _|(apply Zq4;(· repeat (first|with_reducible exact Zq3|with_reducible apply Zq2)))))))
theorem Zq596 {ca cb:Code} {Q:Exit→Act→World→Prop} {K:Act→World→Prop} (hK:∀ x y,cb.wp Tryz.prog Q x y→K x y) (hC:(Tryz.f130).body.bind (fromR 3)=some (.seq ca cb)) {x0 x1 x6 x7 x11 x12 x13 x14 x15 x16 x17 x18 x19 x20 x21 x22 x23 x24 x25 x26 x27 x28 x29 x30 x31 x32 x33 x34 x35 x36 x37 x38 x39 x40 x41 x42 x43 x44 x45 x46 x47 x48 x49 x50 x51 x52 x53 x54 x55 x56 x57 x58 x59 x60 x61 x62 x63 x64 x65 x66 x67 x68 x69 x70 x71 x72 x73:Value} {g4 g5 g8 g9:Nat} {a b sz s u0 u1 u2 u3 seq n z:Int}
  (h:St W I w (HP.pt g4 (.cells #[.int .i64 a,.int .i64 b,.int .i64 sz] 26)::HP.pt g5 (.cells #[.int .i64 s,.int .i64 u0,.int .i64 u1,.int .i64 u2,.int .i64 u3] 108)::HP.pt g8 (.cells #[.int .i64 0,.int .i64 0,.int .i64 0,.int .i64 0,.int .i64 0] 108)::HP.pt g9 (.cells #[.int .i64 0,.int .i64 0] 41)::l))
  (ha:1≤a∧a≤4) (ho:Int.tmod seq a=2) (hz:Zq131 n=z) (hz1:0≤z∧z≤112) (hs:0≤s∧s<1073741824) (hu:0≤u2∧u2≤4096) (hc:¬ sz<u2+z)
  (hQ:∀ (y0 y1 y2 y3 y4 y5 y6 y7 y12 y13 y14 y15 y16 y17 y18 y19 y20 y21 y22 y23 y24 y25 y26 y27 y28 y29 y30 y31 y32 y33 y34 y35 y36 y37 y38 y39 y40 y41 y42 y43 y44 y45 y46 y47 y48 y49 y50 y51 y52 y53 y54 y55 y56 y57 y58 y59 y60 y61 y62 y63 y64 y65 y66 y67 y68 y69 y70 y71 y72 y73:Value) (w':World),St W I w' (HP.pt g8 (.cells #[.int .i64 s,.int .i64 u0,.int .i64 u1,.int .i64 (u2+z),.int .i64 u3] 108)::HP.pt g9 (.cells #[.int .i64 s,.int .i64 2] 41)::l)→Q .ret ⟨#[y0,y1,y2,y3,y4,y5,y6,y7,.pointer (some ⟨g8,0,none⟩),.pointer (some ⟨g9,0,none⟩),.bool false,.bool true,y12,y13,y14,y15,y16,y17,y18,y19,y20,y21,y22,y23,y24,y25,y26,y27,y28,y29,y30,y31,y32,y33,y34,y35,y36,y37,y38,y39,y40,y41,y42,y43,y44,y45,y46,y47,y48,y49,y50,y51,y52,y53,y54,y55,y56,y57,y58,y59,y60,y61,y62,y63,y64,y65,y66,y67,y68,y69,y70,y71,y72,y73],[]⟩ w') :
  ca.wp Tryz.prog (Exit.then K Q) ⟨#[x0,x1,.int .i64 seq,.int .i64 n,.pointer (some ⟨g4,0,none⟩),.pointer (some ⟨g5,0,none⟩),x6,x7,.pointer (some ⟨g8,0,none⟩),.pointer (some ⟨g9,0,none⟩),.bool false,x11,x12,x13,x14,x15,x16,x17,x18,x19,x20,x21,x22,x23,x24,x25,x26,x27,x28,x29,x30,x31,x32,x33,x34,x35,x36,x37,x38,x39,x40,x41,x42,x43,x44,x45,x46,x47,x48,x49,x50,x51,x52,x53,x54,x55,x56,x57,x58,x59,x60,x61,x62,x63,x64,x65,x66,x67,x68,x69,x70,x71,x72,x73],[]⟩ w:=by
 injection hC with hC
 injection hC with hC1 hC2
 subst hC1 hC2
 obtain ⟨x0,x1,x2⟩:=Zq40 h
 obtain ⟨y0,y1,y2,y3,y4⟩:=Zq22 (h.pull 1 _ rfl)
 have f5:=frozen_of_row (h.pull 1 _ rfl).heap
 have ha0:¬ a=0:=by omega
 have hd:decide (sz<u2+z)=false:=by exact decide_eq_false hc
 have hw0:IntKind.i64.wrap (Int.tmod seq a)=2:=by rw [ho,IntKind.wrap_i64];omega
 have hw1:IntKind.i64.wrap (u2+z)=u2+z:=by rw [IntKind.wrap_i64];omega
 have hw2:IntKind.i64.wrap (s+1)=s+1:=by rw [IntKind.wrap_i64];omega
 have hw3:IntKind.i64.wrap z=z:=by rw [IntKind.wrap_i64];omega
 have HQ:=Zh hQ
 have H1:=Zh h
 have HZ:=Zh (Zq75 n)
 rw [hz] at HZ
 clear h hQ hz hc ha hu hs hz1
 go_upto_region 3 with fail
 refine Zq8 (fun w'=>w'.cell? ⟨g4,0,none⟩=some (.int .i64 a)) [0,2,3,4,5] [1,6] [7] (by kernel_rfl) (by kernel_rfl) (by (exact x0)) ?_
 simp only [pickL,Zl6,Zl7]
 repeat (refine Zq5 _ (Or.inl ⟨by rfl,by (intro w hSw;(try dsimp only at hSw);go_simp;try with_reducible rfl)⟩) ?_;(try simp only [Act.put,List.setIfInBounds_toArray,Zl4,Zl5]))
 refine Zq9 ?_
 unfold Zq16
 go_wp2_with fail
 refine (HZ.out _).mono ?_
 rintro e w2 ⟨rfl,rfl⟩
 go_wp2_with fail
 refine Zq0 x0 ?_
 unfold Zq16
 go_wp2_with fail
 refine Zq0 x0 ?_
 unfold Zq16
 go_wp2_with fail
 refine NoPanic.normal ?_
 go_upto_region 4 with fail
 go_quiet (fail)
 have h2:=H1.out.drew.drewN nq
 generalize (World.drewN _ _:World)=w3 at h2 ⊢
 clear x0 x1 x2 y0 y1 y2 y3 y4 f5
 obtain ⟨y0,y1,y2,y3,y4⟩:=Zq22 (h2.pull 1 _ rfl)
 have f5:=frozen_of_row (h2.pull 1 _ rfl).heap
 have H2:=Zh h2
 clear h2
 go_upto_region 7 with fail
 have h3:=((H2.out.pull 1 _ rfl).setCell 3 (.int .i64 (u2+z)))
 simp only [List.setIfInBounds_toArray,Zl4,Zl5,Zl0,Zl1] at h3
 generalize (World.setCell _ _ _:World)=w4 at h3 ⊢
 obtain ⟨x0,x1,x2,x3,x4⟩:=Zq22 h3
 have h4:=h3.pull 2 _ rfl
 obtain ⟨y0,y1,y2,y3,y4⟩:=Zq22 h4
 obtain ⟨z0,z1⟩:=Zq47 (h3.pull 3 _ rfl)
 have f8:=frozen_of_row h4.heap
 have f9:=frozen_of_row (h3.pull 3 _ rfl).heap
 have H3:=Zh h3
 clear h3 h4
 refine Zq8 (fun w'=>w'.cell? ⟨g5,0,none⟩=some (.int .i64 s)∧w'.cell? ⟨g5,1,none⟩=some (.int .i64 u0)∧w'.cell? ⟨g5,2,none⟩=some (.int .i64 u1)∧w'.cell? ⟨g5,3,none⟩=some (.int .i64 (u2+z))∧w'.cell? ⟨g5,4,none⟩=some (.int .i64 u3)) [0,1,2,3,5,4] [6,7] [8,9] (by kernel_rfl) (by kernel_rfl) (by (exact ⟨x0,x1,x2,x3,x4⟩)) ?_
 simp only [pickL,Zl6,Zl7]
 repeat (refine Zq5 _ (Or.inl ⟨by rfl,by (intro w hSw;(try dsimp only at hSw);go_simp;try with_reducible rfl)⟩) ?_;(try simp only [Act.put,List.setIfInBounds_toArray,Zl4,Zl5]))
 refine Zq9 ?_
 unfold Zq16
 go_wp2_with fail
 have h5:=((H3.out.pull 2 _ rfl).set5 (.int .i64 s) (.int .i64 u0) (.int .i64 u1) (.int .i64 (u2+z)) (.int .i64 u3)).drew
 generalize (World.drew _:World)=w5 at h5 ⊢
 clear x0 x1 x2 x3 x4 y0 y1 y2 y3 y4 z0 z1 f8 f9
 obtain ⟨x0,x1,x2,x3,x4⟩:=Zq22 (h5.pull 1 _ rfl)
 obtain ⟨z0,z1⟩:=Zq47 (h5.pull 3 _ rfl)
 have f9:=frozen_of_row (h5.pull 3 _ rfl).heap
 have H5:=Zh h5
 clear h5
 refine Zq0 ⟨x0,x1,x2,x3,x4⟩ ?_
 unfold Zq16
 go_wp2_with fail
 have h6:=(H5.out.pull 3 _ rfl).set2 (.int .i64 s) (.int .i64 2)
 generalize (World.setCell _ _ _:World)=w6 at h6 ⊢
 obtain ⟨x0,x1,x2,x3,x4⟩:=Zq22 (h6.pull 2 _ rfl)
 have H6:=Zh h6
 clear h6
 refine Zq0 ⟨x0,x1,x2,x3,x4⟩ ?_
 unfold Zq16
 go_wp2_with fail
 refine NoPanic.normal ?_
 go_wp2_with fail
 have h7:=(((H6.out.pull 2 _ rfl).drop).pull 2 _ rfl).drop
 simp only [Zl0,Zl1] at h7
 exact HQ.out _ _ _ _ _ _ _ _ _ _ _ _ _ _ _ _ _ _ _ _ _ _ _ _ _ _ _ _ _ _ _ _ _ _ _ _ _ _ _ _ _ _ _ _ _ _ _ _ _ _ _ _ _ _ _ _ _ _ _ _ _ _ _ _ _ _ _ _ _ _ _ (h7.perm (by ((try simp only [Zl0,Zl1,Zl2,Zl3]);repeat (first|with_reducible exact List.Perm.refl _|(apply Zq4;(· repeat (first|with_reducible exact Zq3|with_reducible apply Zq2)))))))
theorem Zq597 {ca cb:Code} {Q:Exit→Act→World→Prop} {K:Act→World→Prop} (hK:∀ x y,cb.wp Tryz.prog Q x y→K x y) (hC:(Tryz.f130).body.bind (fromR 3)=some (.seq ca cb)) {x0 x1 x6 x7 x11 x12 x13 x14 x15 x16 x17 x18 x19 x20 x21 x22 x23 x24 x25 x26 x27 x28 x29 x30 x31 x32 x33 x34 x35 x36 x37 x38 x39 x40 x41 x42 x43 x44 x45 x46 x47 x48 x49 x50 x51 x52 x53 x54 x55 x56 x57 x58 x59 x60 x61 x62 x63 x64 x65 x66 x67 x68 x69 x70 x71 x72 x73:Value} {g4 g5 g8 g9:Nat} {a b sz s u0 u1 u2 u3 seq n z:Int}
  (h:St W I w (HP.pt g4 (.cells #[.int .i64 a,.int .i64 b,.int .i64 sz] 26)::HP.pt g5 (.cells #[.int .i64 s,.int .i64 u0,.int .i64 u1,.int .i64 u2,.int .i64 u3] 108)::HP.pt g8 (.cells #[.int .i64 0,.int .i64 0,.int .i64 0,.int .i64 0,.int .i64 0] 108)::HP.pt g9 (.cells #[.int .i64 0,.int .i64 0] 41)::l))
  (ha:1≤a∧a≤4) (ho:Int.tmod seq a=2) (hz:Zq131 n=z) (hz1:0≤z∧z≤112) (hs:0≤s∧s<1073741824) (hu:0≤u2∧u2≤4096) (hc:sz<u2+z)
  (hQ:∀ (y0 y1 y2 y3 y4 y5 y6 y7 y12 y13 y14 y15 y16 y17 y18 y19 y20 y21 y22 y23 y24 y25 y26 y27 y28 y29 y30 y31 y32 y33 y34 y35 y36 y37 y38 y39 y40 y41 y42 y43 y44 y45 y46 y47 y48 y49 y50 y51 y52 y53 y54 y55 y56 y57 y58 y59 y60 y61 y62 y63 y64 y65 y66 y67 y68 y69 y70 y71 y72 y73:Value) (w':World),St W I w' (HP.pt g8 (.cells #[.int .i64 (s+1),.int .i64 0,.int .i64 0,.int .i64 z,.int .i64 0] 108)::HP.pt g9 (.cells #[.int .i64 (s+1),.int .i64 2] 41)::l)→Q .ret ⟨#[y0,y1,y2,y3,y4,y5,y6,y7,.pointer (some ⟨g8,0,none⟩),.pointer (some ⟨g9,0,none⟩),.bool true,.bool true,y12,y13,y14,y15,y16,y17,y18,y19,y20,y21,y22,y23,y24,y25,y26,y27,y28,y29,y30,y31,y32,y33,y34,y35,y36,y37,y38,y39,y40,y41,y42,y43,y44,y45,y46,y47,y48,y49,y50,y51,y52,y53,y54,y55,y56,y57,y58,y59,y60,y61,y62,y63,y64,y65,y66,y67,y68,y69,y70,y71,y72,y73],[]⟩ w') :
  ca.wp Tryz.prog (Exit.then K Q) ⟨#[x0,x1,.int .i64 seq,.int .i64 n,.pointer (some ⟨g4,0,none⟩),.pointer (some ⟨g5,0,none⟩),x6,x7,.pointer (some ⟨g8,0,none⟩),.pointer (some ⟨g9,0,none⟩),.bool false,x11,x12,x13,x14,x15,x16,x17,x18,x19,x20,x21,x22,x23,x24,x25,x26,x27,x28,x29,x30,x31,x32,x33,x34,x35,x36,x37,x38,x39,x40,x41,x42,x43,x44,x45,x46,x47,x48,x49,x50,x51,x52,x53,x54,x55,x56,x57,x58,x59,x60,x61,x62,x63,x64,x65,x66,x67,x68,x69,x70,x71,x72,x73],[]⟩ w:=by
 injection hC with hC
 injection hC with hC1 hC2
 subst hC1 hC2
 obtain ⟨x0,x1,x2⟩:=Zq40 h
 obtain ⟨y0,y1,y2,y3,y4⟩:=Zq22 (h.pull 1 _ rfl)
 have f5:=frozen_of_row (h.pull 1 _ rfl).heap
 have ha0:¬ a=0:=by omega
 have hd:decide (sz<u2+z)=true:=by exact decide_eq_true hc
 have hw0:IntKind.i64.wrap (Int.tmod seq a)=2:=by rw [ho,IntKind.wrap_i64];omega
 have hw1:IntKind.i64.wrap (u2+z)=u2+z:=by rw [IntKind.wrap_i64];omega
 have hw2:IntKind.i64.wrap (s+1)=s+1:=by rw [IntKind.wrap_i64];omega
 have hw3:IntKind.i64.wrap z=z:=by rw [IntKind.wrap_i64];omega
 have HQ:=Zh hQ
 have H1:=Zh h
 have HZ:=Zh (Zq75 n)
 rw [hz] at HZ
 clear h hQ hz hc ha hu hs hz1
 go_upto_region 3 with fail
 refine Zq8 (fun w'=>w'.cell? ⟨g4,0,none⟩=some (.int .i64 a)) [0,2,3,4,5] [1,6] [7] (by kernel_rfl) (by kernel_rfl) (by (exact x0)) ?_
 simp only [pickL,Zl6,Zl7]
 repeat (refine Zq5 _ (Or.inl ⟨by rfl,by (intro w hSw;(try dsimp only at hSw);go_simp;try with_reducible rfl)⟩) ?_;(try simp only [Act.put,List.setIfInBounds_toArray,Zl4,Zl5]))
 refine Zq9 ?_
 unfold Zq16
 go_wp2_with fail
 refine (HZ.out _).mono ?_
 rintro e w2 ⟨rfl,rfl⟩
 go_wp2_with fail
 refine Zq0 x0 ?_
 unfold Zq16
 go_wp2_with fail
 refine Zq0 x0 ?_
 unfold Zq16
 go_wp2_with fail
 refine NoPanic.normal ?_
 go_upto_region 4 with fail
 go_quiet (fail)
 have h2:=H1.out.drew.drewN nq
 generalize (World.drewN _ _:World)=w3 at h2 ⊢
 clear x0 x1 x2 y0 y1 y2 y3 y4 f5
 obtain ⟨y0,y1,y2,y3,y4⟩:=Zq22 (h2.pull 1 _ rfl)
 have f5:=frozen_of_row (h2.pull 1 _ rfl).heap
 have H2:=Zh h2
 clear h2
 go_upto_region 7 with fail
 have h3:=(((H2.out.pull 1 _ rfl).set5 (.int .i64 (s+1)) (.int .i64 0) (.int .i64 0) (.int .i64 0) (.int .i64 0)).setCell 3 (.int .i64 z))
 simp only [List.setIfInBounds_toArray,Zl4,Zl5,Zl0,Zl1] at h3
 generalize (World.setCell _ _ _:World)=w4 at h3 ⊢
 obtain ⟨x0,x1,x2,x3,x4⟩:=Zq22 h3
 have h4:=h3.pull 2 _ rfl
 obtain ⟨y0,y1,y2,y3,y4⟩:=Zq22 h4
 obtain ⟨z0,z1⟩:=Zq47 (h3.pull 3 _ rfl)
 have f8:=frozen_of_row h4.heap
 have f9:=frozen_of_row (h3.pull 3 _ rfl).heap
 have H3:=Zh h3
 clear h3 h4
 refine Zq8 (fun w'=>w'.cell? ⟨g5,0,none⟩=some (.int .i64 (s+1))∧w'.cell? ⟨g5,1,none⟩=some (.int .i64 0)∧w'.cell? ⟨g5,2,none⟩=some (.int .i64 0)∧w'.cell? ⟨g5,3,none⟩=some (.int .i64 z)∧w'.cell? ⟨g5,4,none⟩=some (.int .i64 0)) [0,1,2,3,5,4] [6,7] [8,9] (by kernel_rfl) (by kernel_rfl) (by (exact ⟨x0,x1,x2,x3,x4⟩)) ?_
 simp only [pickL,Zl6,Zl7]
 repeat (refine Zq5 _ (Or.inl ⟨by rfl,by (intro w hSw;(try dsimp only at hSw);go_simp;try with_reducible rfl)⟩) ?_;(try simp only [Act.put,List.setIfInBounds_toArray,Zl4,Zl5]))
 refine Zq9 ?_
 unfold Zq16
 go_wp2_with fail
 have h5:=((H3.out.pull 2 _ rfl).set5 (.int .i64 (s+1)) (.int .i64 0) (.int .i64 0) (.int .i64 z) (.int .i64 0)).drew
 generalize (World.drew _:World)=w5 at h5 ⊢
 clear x0 x1 x2 x3 x4 y0 y1 y2 y3 y4 z0 z1 f8 f9
 obtain ⟨x0,x1,x2,x3,x4⟩:=Zq22 (h5.pull 1 _ rfl)
 obtain ⟨z0,z1⟩:=Zq47 (h5.pull 3 _ rfl)
 have f9:=frozen_of_row (h5.pull 3 _ rfl).heap
 have H5:=Zh h5
 clear h5
 refine Zq0 ⟨x0,x1,x2,x3,x4⟩ ?_
 unfold Zq16
 go_wp2_with fail
 have h6:=(H5.out.pull 3 _ rfl).set2 (.int .i64 (s+1)) (.int .i64 2)
 generalize (World.setCell _ _ _:World)=w6 at h6 ⊢
 obtain ⟨x0,x1,x2,x3,x4⟩:=Zq22 (h6.pull 2 _ rfl)
 have H6:=Zh h6
 clear h6
 refine Zq0 ⟨x0,x1,x2,x3,x4⟩ ?_
 unfold Zq16
 go_wp2_with fail
 refine NoPanic.normal ?_
 go_wp2_with fail
 have h7:=(((H6.out.pull 2 _ rfl).drop).pull 2 _ rfl).drop
 simp only [Zl0,Zl1] at h7
 exact HQ.out _ _ _ _ _ _ _ _ _ _ _ _ _ _ _ _ _ _ _ _ _ _ _ _ _ _ _ _ _ _ _ _ _ _ _ _ _ _ _ _ _ _ _ _ _ _ _ _ _ _ _ _ _ _ _ _ _ _ _ _ _ _ _ _ _ _ _ _ _ _ _ (h7.perm (by ((try simp only [Zl0,Zl1,Zl2,Zl3]);repeat (first|with_reducible exact List.Perm.refl _|(apply Zq4;(· repeat (first|with_reducible exact Zq3|with_reducible apply Zq2)))))))
theorem Zq598 {ca cb:Code} {Q:Exit→Act→World→Prop} {K:Act→World→Prop} (hK:∀ x y,cb.wp Tryz.prog Q x y→K x y) (hC:(Tryz.f130).body.bind (fromR 3)=some (.seq ca cb)) {x0 x1 x6 x7 x11 x12 x13 x14 x15 x16 x17 x18 x19 x20 x21 x22 x23 x24 x25 x26 x27 x28 x29 x30 x31 x32 x33 x34 x35 x36 x37 x38 x39 x40 x41 x42 x43 x44 x45 x46 x47 x48 x49 x50 x51 x52 x53 x54 x55 x56 x57 x58 x59 x60 x61 x62 x63 x64 x65 x66 x67 x68 x69 x70 x71 x72 x73:Value} {g4 g5 g8 g9:Nat} {a b sz s u0 u1 u2 u3 seq n z:Int}
  (h:St W I w (HP.pt g4 (.cells #[.int .i64 a,.int .i64 b,.int .i64 sz] 26)::HP.pt g5 (.cells #[.int .i64 s,.int .i64 u0,.int .i64 u1,.int .i64 u2,.int .i64 u3] 108)::HP.pt g8 (.cells #[.int .i64 0,.int .i64 0,.int .i64 0,.int .i64 0,.int .i64 0] 108)::HP.pt g9 (.cells #[.int .i64 0,.int .i64 0] 41)::l))
  (ha:1≤a∧a≤4) (ho:Int.tmod seq a=3) (hz:Zq131 n=z) (hz1:0≤z∧z≤112) (hs:0≤s∧s<1073741824) (hu:0≤u3∧u3≤4096) (hc:¬ sz<u3+z)
  (hQ:∀ (y0 y1 y2 y3 y4 y5 y6 y7 y12 y13 y14 y15 y16 y17 y18 y19 y20 y21 y22 y23 y24 y25 y26 y27 y28 y29 y30 y31 y32 y33 y34 y35 y36 y37 y38 y39 y40 y41 y42 y43 y44 y45 y46 y47 y48 y49 y50 y51 y52 y53 y54 y55 y56 y57 y58 y59 y60 y61 y62 y63 y64 y65 y66 y67 y68 y69 y70 y71 y72 y73:Value) (w':World),St W I w' (HP.pt g8 (.cells #[.int .i64 s,.int .i64 u0,.int .i64 u1,.int .i64 u2,.int .i64 (u3+z)] 108)::HP.pt g9 (.cells #[.int .i64 s,.int .i64 3] 41)::l)→Q .ret ⟨#[y0,y1,y2,y3,y4,y5,y6,y7,.pointer (some ⟨g8,0,none⟩),.pointer (some ⟨g9,0,none⟩),.bool false,.bool true,y12,y13,y14,y15,y16,y17,y18,y19,y20,y21,y22,y23,y24,y25,y26,y27,y28,y29,y30,y31,y32,y33,y34,y35,y36,y37,y38,y39,y40,y41,y42,y43,y44,y45,y46,y47,y48,y49,y50,y51,y52,y53,y54,y55,y56,y57,y58,y59,y60,y61,y62,y63,y64,y65,y66,y67,y68,y69,y70,y71,y72,y73],[]⟩ w') :
  ca.wp Tryz.prog (Exit.then K Q) ⟨#[x0,x1,.int .i64 seq,.int .i64 n,.pointer (some ⟨g4,0,none⟩),.pointer (some ⟨g5,0,none⟩),x6,x7,.pointer (some ⟨g8,0,none⟩),.pointer (some ⟨g9,0,none⟩),.bool false,x11,x12,x13,x14,x15,x16,x17,x18,x19,x20,x21,x22,x23,x24,x25,x26,x27,x28,x29,x30,x31,x32,x33,x34,x35,x36,x37,x38,x39,x40,x41,x42,x43,x44,x45,x46,x47,x48,x49,x50,x51,x52,x53,x54,x55,x56,x57,x58,x59,x60,x61,x62,x63,x64,x65,x66,x67,x68,x69,x70,x71,x72,x73],[]⟩ w:=by
 injection hC with hC
 injection hC with hC1 hC2
 subst hC1 hC2
 obtain ⟨x0,x1,x2⟩:=Zq40 h
 obtain ⟨y0,y1,y2,y3,y4⟩:=Zq22 (h.pull 1 _ rfl)
 have f5:=frozen_of_row (h.pull 1 _ rfl).heap
 have ha0:¬ a=0:=by omega
 have hd:decide (sz<u3+z)=false:=by exact decide_eq_false hc
 have hw0:IntKind.i64.wrap (Int.tmod seq a)=3:=by rw [ho,IntKind.wrap_i64];omega
 have hw1:IntKind.i64.wrap (u3+z)=u3+z:=by rw [IntKind.wrap_i64];omega
 have hw2:IntKind.i64.wrap (s+1)=s+1:=by rw [IntKind.wrap_i64];omega
 have hw3:IntKind.i64.wrap z=z:=by rw [IntKind.wrap_i64];omega
 have HQ:=Zh hQ
 have H1:=Zh h
 have HZ:=Zh (Zq75 n)
 rw [hz] at HZ
 clear h hQ hz hc ha hu hs hz1
 go_upto_region 3 with fail
 refine Zq8 (fun w'=>w'.cell? ⟨g4,0,none⟩=some (.int .i64 a)) [0,2,3,4,5] [1,6] [7] (by kernel_rfl) (by kernel_rfl) (by (exact x0)) ?_
 simp only [pickL,Zl6,Zl7]
 repeat (refine Zq5 _ (Or.inl ⟨by rfl,by (intro w hSw;(try dsimp only at hSw);go_simp;try with_reducible rfl)⟩) ?_;(try simp only [Act.put,List.setIfInBounds_toArray,Zl4,Zl5]))
 refine Zq9 ?_
 unfold Zq16
 go_wp2_with fail
 refine (HZ.out _).mono ?_
 rintro e w2 ⟨rfl,rfl⟩
 go_wp2_with fail
 refine Zq0 x0 ?_
 unfold Zq16
 go_wp2_with fail
 refine Zq0 x0 ?_
 unfold Zq16
 go_wp2_with fail
 refine NoPanic.normal ?_
 go_upto_region 4 with fail
 go_quiet (fail)
 have h2:=H1.out.drew.drewN nq
 generalize (World.drewN _ _:World)=w3 at h2 ⊢
 clear x0 x1 x2 y0 y1 y2 y3 y4 f5
 obtain ⟨y0,y1,y2,y3,y4⟩:=Zq22 (h2.pull 1 _ rfl)
 have f5:=frozen_of_row (h2.pull 1 _ rfl).heap
 have H2:=Zh h2
 clear h2
 go_upto_region 7 with fail
 have h3:=((H2.out.pull 1 _ rfl).setCell 4 (.int .i64 (u3+z)))
 simp only [List.setIfInBounds_toArray,Zl4,Zl5,Zl0,Zl1] at h3
 generalize (World.setCell _ _ _:World)=w4 at h3 ⊢
 obtain ⟨x0,x1,x2,x3,x4⟩:=Zq22 h3
 have h4:=h3.pull 2 _ rfl
 obtain ⟨y0,y1,y2,y3,y4⟩:=Zq22 h4
 obtain ⟨z0,z1⟩:=Zq47 (h3.pull 3 _ rfl)
 have f8:=frozen_of_row h4.heap
 have f9:=frozen_of_row (h3.pull 3 _ rfl).heap
 have H3:=Zh h3
 clear h3 h4
 refine Zq8 (fun w'=>w'.cell? ⟨g5,0,none⟩=some (.int .i64 s)∧w'.cell? ⟨g5,1,none⟩=some (.int .i64 u0)∧w'.cell? ⟨g5,2,none⟩=some (.int .i64 u1)∧w'.cell? ⟨g5,3,none⟩=some (.int .i64 u2)∧w'.cell? ⟨g5,4,none⟩=some (.int .i64 (u3+z))) [0,1,2,3,5,4] [6,7] [8,9] (by kernel_rfl) (by kernel_rfl) (by (exact ⟨x0,x1,x2,x3,x4⟩)) ?_
 simp only [pickL,Zl6,Zl7]
 repeat (refine Zq5 _ (Or.inl ⟨by rfl,by (intro w hSw;(try dsimp only at hSw);go_simp;try with_reducible rfl)⟩) ?_;(try simp only [Act.put,List.setIfInBounds_toArray,Zl4,Zl5]))
 refine Zq9 ?_
 unfold Zq16
 go_wp2_with fail
 have h5:=((H3.out.pull 2 _ rfl).set5 (.int .i64 s) (.int .i64 u0) (.int .i64 u1) (.int .i64 u2) (.int .i64 (u3+z))).drew
 generalize (World.drew _:World)=w5 at h5 ⊢
 clear x0 x1 x2 x3 x4 y0 y1 y2 y3 y4 z0 z1 f8 f9
 obtain ⟨x0,x1,x2,x3,x4⟩:=Zq22 (h5.pull 1 _ rfl)
 obtain ⟨z0,z1⟩:=Zq47 (h5.pull 3 _ rfl)
 have f9:=frozen_of_row (h5.pull 3 _ rfl).heap
 have H5:=Zh h5
 clear h5
 refine Zq0 ⟨x0,x1,x2,x3,x4⟩ ?_
 unfold Zq16
 go_wp2_with fail
 have h6:=(H5.out.pull 3 _ rfl).set2 (.int .i64 s) (.int .i64 3)
 generalize (World.setCell _ _ _:World)=w6 at h6 ⊢
 obtain ⟨x0,x1,x2,x3,x4⟩:=Zq22 (h6.pull 2 _ rfl)
 have H6:=Zh h6
 clear h6
 refine Zq0 ⟨x0,x1,x2,x3,x4⟩ ?_
 unfold Zq16
 go_wp2_with fail
 refine NoPanic.normal ?_
 go_wp2_with fail
 have h7:=(((H6.out.pull 2 _ rfl).drop).pull 2 _ rfl).drop
 simp only [Zl0,Zl1] at h7
 exact HQ.out _ _ _ _ _ _ _ _ _ _ _ _ _ _ _ _ _ _ _ _ _ _ _ _ _ _ _ _ _ _ _ _ _ _ _ _ _ _ _ _ _ _ _ _ _ _ _ _ _ _ _ _ _ _ _ _ _ _ _ _ _ _ _ _ _ _ _ _ _ _ _ (h7.perm (by ((try simp only [Zl0,Zl1,Zl2,Zl3]);repeat (first|with_reducible exact List.Perm.refl _|(apply Zq4;(· repeat (first|with_reducible exact Zq3|with_reducible apply Zq2)))))))
theorem Zq599 {ca cb:Code} {Q:Exit→Act→World→Prop} {K:Act→World→Prop} (hK:∀ x y,cb.wp Tryz.prog Q x y→K x y) (hC:(Tryz.f130).body.bind (fromR 3)=some (.seq ca cb)) {x0 x1 x6 x7 x11 x12 x13 x14 x15 x16 x17 x18 x19 x20 x21 x22 x23 x24 x25 x26 x27 x28 x29 x30 x31 x32 x33 x34 x35 x36 x37 x38 x39 x40 x41 x42 x43 x44 x45 x46 x47 x48 x49 x50 x51 x52 x53 x54 x55 x56 x57 x58 x59 x60 x61 x62 x63 x64 x65 x66 x67 x68 x69 x70 x71 x72 x73:Value} {g4 g5 g8 g9:Nat} {a b sz s u0 u1 u2 u3 seq n z:Int}
  (h:St W I w (HP.pt g4 (.cells #[.int .i64 a,.int .i64 b,.int .i64 sz] 26)::HP.pt g5 (.cells #[.int .i64 s,.int .i64 u0,.int .i64 u1,.int .i64 u2,.int .i64 u3] 108)::HP.pt g8 (.cells #[.int .i64 0,.int .i64 0,.int .i64 0,.int .i64 0,.int .i64 0] 108)::HP.pt g9 (.cells #[.int .i64 0,.int .i64 0] 41)::l))
  (ha:1≤a∧a≤4) (ho:Int.tmod seq a=3) (hz:Zq131 n=z) (hz1:0≤z∧z≤112) (hs:0≤s∧s<1073741824) (hu:0≤u3∧u3≤4096) (hc:sz<u3+z)
  (hQ:∀ (y0 y1 y2 y3 y4 y5 y6 y7 y12 y13 y14 y15 y16 y17 y18 y19 y20 y21 y22 y23 y24 y25 y26 y27 y28 y29 y30 y31 y32 y33 y34 y35 y36 y37 y38 y39 y40 y41 y42 y43 y44 y45 y46 y47 y48 y49 y50 y51 y52 y53 y54 y55 y56 y57 y58 y59 y60 y61 y62 y63 y64 y65 y66 y67 y68 y69 y70 y71 y72 y73:Value) (w':World),St W I w' (HP.pt g8 (.cells #[.int .i64 (s+1),.int .i64 0,.int .i64 0,.int .i64 0,.int .i64 z] 108)::HP.pt g9 (.cells #[.int .i64 (s+1),.int .i64 3] 41)::l)→Q .ret ⟨#[y0,y1,y2,y3,y4,y5,y6,y7,.pointer (some ⟨g8,0,none⟩),.pointer (some ⟨g9,0,none⟩),.bool true,.bool true,y12,y13,y14,y15,y16,y17,y18,y19,y20,y21,y22,y23,y24,y25,y26,y27,y28,y29,y30,y31,y32,y33,y34,y35,y36,y37,y38,y39,y40,y41,y42,y43,y44,y45,y46,y47,y48,y49,y50,y51,y52,y53,y54,y55,y56,y57,y58,y59,y60,y61,y62,y63,y64,y65,y66,y67,y68,y69,y70,y71,y72,y73],[]⟩ w') :
  ca.wp Tryz.prog (Exit.then K Q) ⟨#[x0,x1,.int .i64 seq,.int .i64 n,.pointer (some ⟨g4,0,none⟩),.pointer (some ⟨g5,0,none⟩),x6,x7,.pointer (some ⟨g8,0,none⟩),.pointer (some ⟨g9,0,none⟩),.bool false,x11,x12,x13,x14,x15,x16,x17,x18,x19,x20,x21,x22,x23,x24,x25,x26,x27,x28,x29,x30,x31,x32,x33,x34,x35,x36,x37,x38,x39,x40,x41,x42,x43,x44,x45,x46,x47,x48,x49,x50,x51,x52,x53,x54,x55,x56,x57,x58,x59,x60,x61,x62,x63,x64,x65,x66,x67,x68,x69,x70,x71,x72,x73],[]⟩ w:=by
 injection hC with hC
 injection hC with hC1 hC2
 subst hC1 hC2
 obtain ⟨x0,x1,x2⟩:=Zq40 h
 obtain ⟨y0,y1,y2,y3,y4⟩:=Zq22 (h.pull 1 _ rfl)
 have f5:=frozen_of_row (h.pull 1 _ rfl).heap
 have ha0:¬ a=0:=by omega
 have hd:decide (sz<u3+z)=true:=by exact decide_eq_true hc
 have hw0:IntKind.i64.wrap (Int.tmod seq a)=3:=by rw [ho,IntKind.wrap_i64];omega
 have hw1:IntKind.i64.wrap (u3+z)=u3+z:=by rw [IntKind.wrap_i64];omega
 have hw2:IntKind.i64.wrap (s+1)=s+1:=by rw [IntKind.wrap_i64];omega
 have hw3:IntKind.i64.wrap z=z:=by rw [IntKind.wrap_i64];omega
 have HQ:=Zh hQ
 have H1:=Zh h
 have HZ:=Zh (Zq75 n)
 rw [hz] at HZ
 clear h hQ hz hc ha hu hs hz1
 go_upto_region 3 with fail
 refine Zq8 (fun w'=>w'.cell? ⟨g4,0,none⟩=some (.int .i64 a)) [0,2,3,4,5] [1,6] [7] (by kernel_rfl) (by kernel_rfl) (by (exact x0)) ?_
 simp only [pickL,Zl6,Zl7]
 repeat (refine Zq5 _ (Or.inl ⟨by rfl,by (intro w hSw;(try dsimp only at hSw);go_simp;try with_reducible rfl)⟩) ?_;(try simp only [Act.put,List.setIfInBounds_toArray,Zl4,Zl5]))
 refine Zq9 ?_
 unfold Zq16
 go_wp2_with fail
 refine (HZ.out _).mono ?_
 rintro e w2 ⟨rfl,rfl⟩
 go_wp2_with fail
 refine Zq0 x0 ?_
 unfold Zq16
 go_wp2_with fail
 refine Zq0 x0 ?_
 unfold Zq16
 go_wp2_with fail
 refine NoPanic.normal ?_
 go_upto_region 4 with fail
 go_quiet (fail)
 have h2:=H1.out.drew.drewN nq
 generalize (World.drewN _ _:World)=w3 at h2 ⊢
 clear x0 x1 x2 y0 y1 y2 y3 y4 f5
 obtain ⟨y0,y1,y2,y3,y4⟩:=Zq22 (h2.pull 1 _ rfl)
 have f5:=frozen_of_row (h2.pull 1 _ rfl).heap
 have H2:=Zh h2
 clear h2
 go_upto_region 7 with fail
 have h3:=(((H2.out.pull 1 _ rfl).set5 (.int .i64 (s+1)) (.int .i64 0) (.int .i64 0) (.int .i64 0) (.int .i64 0)).setCell 4 (.int .i64 z))
 simp only [List.setIfInBounds_toArray,Zl4,Zl5,Zl0,Zl1] at h3
 generalize (World.setCell _ _ _:World)=w4 at h3 ⊢
 obtain ⟨x0,x1,x2,x3,x4⟩:=Zq22 h3
 have h4:=h3.pull 2 _ rfl
 obtain ⟨y0,y1,y2,y3,y4⟩:=Zq22 h4
 obtain ⟨z0,z1⟩:=Zq47 (h3.pull 3 _ rfl)
 have f8:=frozen_of_row h4.heap
 have f9:=frozen_of_row (h3.pull 3 _ rfl).heap
 have H3:=Zh h3
 clear h3 h4
 refine Zq8 (fun w'=>w'.cell? ⟨g5,0,none⟩=some (.int .i64 (s+1))∧w'.cell? ⟨g5,1,none⟩=some (.int .i64 0)∧w'.cell? ⟨g5,2,none⟩=some (.int .i64 0)∧w'.cell? ⟨g5,3,none⟩=some (.int .i64 0)∧w'.cell? ⟨g5,4,none⟩=some (.int .i64 z)) [0,1,2,3,5,4] [6,7] [8,9] (by kernel_rfl) (by kernel_rfl) (by (exact ⟨x0,x1,x2,x3,x4⟩)) ?_
 simp only [pickL,Zl6,Zl7]
 repeat (refine Zq5 _ (Or.inl ⟨by rfl,by (intro w hSw;(try dsimp only at hSw);go_simp;try with_reducible rfl)⟩) ?_;(try simp only [Act.put,List.setIfInBounds_toArray,Zl4,Zl5]))
 refine Zq9 ?_
 unfold Zq16
 go_wp2_with fail
 have h5:=((H3.out.pull 2 _ rfl).set5 (.int .i64 (s+1)) (.int .i64 0) (.int .i64 0) (.int .i64 0) (.int .i64 z)).drew
 generalize (World.drew _:World)=w5 at h5 ⊢
 clear x0 x1 x2 x3 x4 y0 y1 y2 y3 y4 z0 z1 f8 f9
 obtain ⟨x0,x1,x2,x3,x4⟩:=Zq22 (h5.pull 1 _ rfl)
 obtain ⟨z0,z1⟩:=Zq47 (h5.pull 3 _ rfl)
 have f9:=frozen_of_row (h5.pull 3 _ rfl).heap
 have H5:=Zh h5
 clear h5
 refine Zq0 ⟨x0,x1,x2,x3,x4⟩ ?_
 unfold Zq16
 go_wp2_with fail
 have h6:=(H5.out.pull 3 _ rfl).set2 (.int .i64 (s+1)) (.int .i64 3)
 generalize (World.setCell _ _ _:World)=w6 at h6 ⊢
 obtain ⟨x0,x1,x2,x3,x4⟩:=Zq22 (h6.pull 2 _ rfl)
 have H6:=Zh h6
 clear h6
 refine Zq0 ⟨x0,x1,x2,x3,x4⟩ ?_
 unfold Zq16
 go_wp2_with fail
 refine NoPanic.normal ?_
 go_wp2_with fail
 have h7:=(((H6.out.pull 2 _ rfl).drop).pull 2 _ rfl).drop
 simp only [Zl0,Zl1] at h7
 exact HQ.out _ _ _ _ _ _ _ _ _ _ _ _ _ _ _ _ _ _ _ _ _ _ _ _ _ _ _ _ _ _ _ _ _ _ _ _ _ _ _ _ _ _ _ _ _ _ _ _ _ _ _ _ _ _ _ _ _ _ _ _ _ _ _ _ _ _ _ _ _ _ _ (h7.perm (by ((try simp only [Zl0,Zl1,Zl2,Zl3]);repeat (first|with_reducible exact List.Perm.refl _|(apply Zq4;(· repeat (first|with_reducible exact Zq3|with_reducible apply Zq2)))))))
end
end Go.Proofs.YtpjchngjhijgmaaGreat
