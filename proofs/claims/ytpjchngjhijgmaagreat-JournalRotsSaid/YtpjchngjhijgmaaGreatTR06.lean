import Derived.Test.YtpjchngjhijgmaaGreatTR05
set_option linter.all false
namespace Go.Proofs.YtpjchngjhijgmaaGreat
open Go.RowKit
section
variable {W w : World} {I : Hp} {l : List HP}
set_option maxRecDepth 4000
set_option maxHeartbeats 8000000
theorem sets_fineR (c:Rg) (at':Int) (An:Option Addr) (cn:Nat) (ns:List Int) (h:St W I w l) (hI:IntsI I (.slice An ns.length cn) ns) (hc:c.okB=true) (hat:0≤at'∧at'≤70000) (hn:∀ n ∈ ns,1≤n∧n≤90) (hl:ns.length≤200) :
  Calls Tryz.prog 20 #[c.val,.int .i64 at',.slice An ns.length cn] w fun e w'=>∃ (A':Option Addr) (c':Nat) (P:List Pl),P=setsP c ⟨0,0,0,0,0⟩ (at'+1) ns∧e=.returned (.slice A' P.length c')∧St W I w' (Zq19 (.slice A' P.length c') P::l):=by
 refine (sets_spec c at' An cn ns h hI hc hat hn hl).mono ?_
 rintro e w' ⟨A',c',rfl,h1⟩
 have e1:(setsP c ⟨0,0,0,0,0⟩ (at'+1) ns).length=ns.length:=setsP_len _ _ _ _
 exact ⟨A',c',_,rfl,by rw [e1],by rw [e1];exact h1⟩
theorem rots_seat {ca cb:Code} {Q:Exit→Act→World→Prop} {K:Act→World→Prop} (hK:∀ x y,cb.wp Tryz.prog Q x y→K x y) (hC:(Tryz.f5).body.bind (fromR 10)=some (.seq ca cb)) {x0 x1 x2 x3 x5 x6 x7 x8 x9 x10 x11 x12 x13 x14 x16 x18 x19 x20 x21 x22 x23 x24 x25 x26 x27 x28 x29 x30 x31 x32 x33 x34 x35 x36 x37 x38 x39 x40 x41 x42 x43 x44 x45 x46 x47 x48 x49 x50 x51 x52 x53 x54 x55 x56 x57 x58 x59 x60 x61 x62 x63 x64 x65 x66 x67 x68 x69 x70 x71 x72 x73 x74 x75 x76 x77 x78 x79 x80 x81 x82 x83 x84 x85 x86 x87 x88 x89 x90 x91 x92 x93 x94 x95 x96 x97 x98 x99 x100 x101 x102 x103 x104 x105 x106 x107 x108 x109 x110 x111 x112 x113 x114 x115 x116 x117 x118 x119 x120 x121 x122 x123 x124 x125 x126 x127 x128 x129 x130 x131 x132 x133 x134 x135 x136 x137 x138 x139 x140 x141 x142 x143 x144 x145 x146 x147 x148 x149 x150 x151 x152 x153 x154 x155 x156 x157 x158 x159 x160 x161 x162 x163:Value} {g15 cN i:Nat} {c:Rg} {ns:List Int} {q:Pl} {AN:Option Addr}
  (h:St W I w (HP.pt g15 (.cells #[.int .i64 c.splay,.int .i64 c.sets,.int .i64 c.size] 26)::l)) (hN:IntsI I (.slice AN ns.length cN) ns) (hc:c.okB=true) (hn:∀ n ∈ ns,1≤n∧n≤90) (hl:ns.length≤200) (hP:(setsP c ⟨0,0,0,0,0⟩ (0+1) ns)[i]?=some q)
  (hQ:∀ (y76 y77 y78 y79 y80 y81 y82 y83 y84 y85:Value) (g21:Nat) (w':World),St W I w' (HP.pt g21 (.cells #[.int .i64 2,.int .i64 0,.int .i64 (rnum c q),.int .i64 0] 43)::HP.pt g15 (.cells #[.int .i64 c.splay,.int .i64 c.sets,.int .i64 c.size] 26)::l) →
    K ⟨#[x0,x1,x2,x3,.int .i64 (i:Nat),x5,x6,x7,x8,x9,x10,x11,x12,x13,x14,.pointer (some ⟨g15,0,none⟩),x16,.slice AN ns.length cN,x18,x19,x20,.pointer (some ⟨g21,0,none⟩),.int .i64 (Zq850 (setsP c ⟨0,0,0,0,0⟩ (0+1) ns) ns q i),x23,x24,x25,x26,x27,x28,x29,x30,x31,x32,x33,x34,x35,x36,x37,x38,x39,x40,x41,x42,x43,x44,x45,x46,x47,x48,x49,x50,x51,x52,x53,x54,x55,x56,x57,x58,x59,x60,x61,x62,x63,x64,x65,x66,x67,x68,x69,x70,x71,x72,x73,x74,x75,y76,y77,y78,y79,y80,y81,y82,y83,y84,y85,x86,x87,x88,x89,x90,x91,x92,x93,x94,x95,x96,x97,x98,x99,x100,x101,x102,x103,x104,x105,x106,x107,x108,x109,x110,x111,x112,x113,x114,x115,x116,x117,x118,x119,x120,x121,x122,x123,x124,x125,x126,x127,x128,x129,x130,x131,x132,x133,x134,x135,x136,x137,x138,x139,x140,x141,x142,x143,x144,x145,x146,x147,x148,x149,x150,x151,x152,x153,x154,x155,x156,x157,x158,x159,x160,x161,x162,x163],[]⟩ w') :
  ca.wp Tryz.prog (Exit.then K Q) ⟨#[x0,x1,x2,x3,.int .i64 (i:Nat),x5,x6,x7,x8,x9,x10,x11,x12,x13,x14,.pointer (some ⟨g15,0,none⟩),x16,.slice AN ns.length cN,x18,x19,x20,x21,x22,x23,x24,x25,x26,x27,x28,x29,x30,x31,x32,x33,x34,x35,x36,x37,x38,x39,x40,x41,x42,x43,x44,x45,x46,x47,x48,x49,x50,x51,x52,x53,x54,x55,x56,x57,x58,x59,x60,x61,x62,x63,x64,x65,x66,x67,x68,x69,x70,x71,x72,x73,x74,x75,x76,x77,x78,x79,x80,x81,x82,x83,x84,x85,x86,x87,x88,x89,x90,x91,x92,x93,x94,x95,x96,x97,x98,x99,x100,x101,x102,x103,x104,x105,x106,x107,x108,x109,x110,x111,x112,x113,x114,x115,x116,x117,x118,x119,x120,x121,x122,x123,x124,x125,x126,x127,x128,x129,x130,x131,x132,x133,x134,x135,x136,x137,x138,x139,x140,x141,x142,x143,x144,x145,x146,x147,x148,x149,x150,x151,x152,x153,x154,x155,x156,x157,x158,x159,x160,x161,x162,x163],[]⟩ w:=by
 injection hC with hC
 injection hC with hC1 hC2
 subst hC1 hC2
 obtain ⟨P0,hP0⟩:∃ P0,P0=setsP c ⟨0,0,0,0,0⟩ (0+1) ns:=⟨_,rfl⟩
 rw [←hP0] at hP hQ
 have hPl:P0.length=ns.length:=by rw [hP0,setsP_len]
 have HSE:=Zh (show ∀ (w1:World) (L:List HP),St W I w1 L→Calls Tryz.prog 20 #[.agg #[.int .i64 c.splay,.int .i64 c.sets,.int .i64 c.size],.int .i64 0,.slice AN ns.length cN] w1 fun e w'=>∃ (A':Option Addr) (c':Nat),e=.returned (.slice A' P0.length c')∧St W I w' (Zq19 (.slice A' P0.length c') P0::L) from fun w1 L h1=>by
  refine (sets_fineR c 0 AN cN ns h1 hN hc (by omega) hn hl).mono ?_
  rintro e w' ⟨A',c',P,e1,e2,e3⟩
  have e1:P=setsP c ⟨0,0,0,0,0⟩ (0+1) ns:=e1
  rw [←hP0] at e1
  subst e1
  exact ⟨A',c',e2,e3⟩)
 obtain ⟨sa,hsa⟩:∃ x,x=Zq850 P0 ns q i:=⟨_,rfl⟩
 rw [←hsa] at hQ
 have HST:=Zh (fun (w1:World) (L:List HP) (Ap:Option Addr) (cp:Nat) (h1:St W I w1 (Zq19 (.slice Ap P0.length cp) P0::L))=>(show Calls Tryz.prog 21 #[.agg #[.int .i64 c.splay,.int .i64 c.sets,.int .i64 c.size],.slice Ap P0.length cp,.slice AN ns.length cN,.int .i64 i] w1 fun e w'=>e=.returned (.tuple #[.agg #[.int .i64 2,.int .i64 0,.int .i64 (rnum c q),.int .i64 0],.int .i64 sa])∧St W I w' (Zq19 (.slice Ap P0.length cp) P0::L) by
  rw [hsa]
  exact seat16_spec c Ap cp P0 AN cN ns i q h1 hN hP hPl.symm (fun n hn'=>by have:=hn n hn';omega) (by omega)))
 have H0:=Zh h.drew
 have HQ:=Zh hQ
 obtain ⟨rn,hrn⟩:∃ x,x=rnum c q:=⟨_,rfl⟩
 rw [←hrn] at HQ HST
 clear h hN hc hn hl hP hQ hPl hP0 hsa hrn
 go_upto_region 10 with fail
 refine wp_region_treep (fun w'=>w'.cell? ⟨g15,0,none⟩=some (.int .i64 c.splay)∧w'.cell? ⟨g15,1,none⟩=some (.int .i64 c.sets)∧w'.cell? ⟨g15,2,none⟩=some (.int .i64 c.size)) [0,1,2,3,4,5,6,7,8,9,10,11] (Tp.pull [0,1,2,4,5] (Tp.two 3 (Tp.two 6 (Tp.pull [7,8,9] (Tp.one 10 (Tp.one 11 Tp.leaf))) 10 (Tp.one 6 (Tp.pull [7,8,9] (Tp.one 11 Tp.leaf)))) 10 (Tp.one 3 (Tp.one 6 (Tp.pull [7,8,9] (Tp.one 11 Tp.leaf)))))) [12] (by kernel_rfl) (by kernel_rfl) (by (exact Zq62 H0.out)) ?_
 obtain ⟨w0,hw0⟩:∃ x,x=w.drew:=⟨_,rfl⟩
 rw [←hw0] at H0 ⊢
 clear hw0
 unfold wpTp
 (try simp only [pickL,Zl6,Zl7])
 repeat (first|(refine Zq4 _ (Or.inl ⟨by rfl,by (intro w hSw;(try dsimp only at hSw);go_simp;try with_reducible rfl)⟩) ?_;(try simp only [Act.put,List.setIfInBounds_toArray,Zl4,Zl5]))|(refine Zq4 _ (Or.inr ⟨by rfl,rfl⟩) ?_;(try simp only [Act.put,List.setIfInBounds_toArray,Zl4,Zl5]))|fail)
 refine Zq10 ?_
 unfold wpTp
 (try simp only [pickL,Zl6,Zl7])
 refine ⟨?_,?_⟩
 ·have HA:=Zh (HSE.out _ _ H0.out)
  clear H0
  go_wp2_with fail
  refine HA.out.mono ?_
  rintro e w1 ⟨A1,c1,rfl,h1⟩
  clear HA
  have H1:=Zh h1
  go_wp2_with fail
  refine Zq0 (Zq62 (h1.pull 1 _ rfl)) ?_
  clear h1
  unfold wpTp
  (try simp only [pickL,Zl6,Zl7])
  refine ⟨?_,?_⟩
  ·have HB:=Zh (HST.out _ _ _ _ H1.out)
   clear H1
   go_wp2_with fail
   refine HB.out.mono ?_
   rintro e w2 ⟨rfl,h2⟩
   have h2:=h2.drop
   have H2:=Zh h2
   clear HB
   go_wp2_with fail
   refine Zq0 (Zq62 (h2)) ?_
   clear h2
   unfold wpTp
   (try simp only [pickL,Zl6,Zl7])
   repeat (first|(refine Zq4 _ (Or.inl ⟨by rfl,by (intro w hSw;(try dsimp only at hSw);go_simp;try with_reducible rfl)⟩) ?_;(try simp only [Act.put,List.setIfInBounds_toArray,Zl4,Zl5]))|(refine Zq4 _ (Or.inr ⟨by rfl,rfl⟩) ?_;(try simp only [Act.put,List.setIfInBounds_toArray,Zl4,Zl5]))|fail)
   refine Zq10 ?_
   unfold wpTp
   (try simp only [pickL,Zl6,Zl7])
   have h2:=H2.out
   clear H2
   obtain ⟨g21,hg21⟩:∃ g,g=w2.heap.size:=⟨_,rfl⟩
   have h3:=h2.alloc (.cells #[.int .i64 0,.int .i64 0,.int .i64 0,.int .i64 0] 43)
   obtain ⟨w3,hw3⟩:∃ x,x=w2.alloc (.cells #[.int .i64 0,.int .i64 0,.int .i64 0,.int .i64 0] 43):=⟨_,rfl⟩
   rw [←hg21,←hw3] at h3
   have H3:=Zh h3
   clear h3 h2
   go_wp2_with fail
   rw [←hg21,←hw3]
   clear hg21 hw3
   refine Zq0 (Zq62 (H3.out.pull 1 _ rfl)) ?_
   unfold wpTp
   (try simp only [pickL,Zl6,Zl7])
   have f9:=frozen_of_row H3.out.heap
   have k9:=Zq1 H3.out.heap
   have y0:=k9 0
   have y1:=k9 1
   have y2:=k9 2
   have y3:=k9 3
   simp at y0 y1 y2 y3
   have lt9:=H3.out.lt
   clear k9
   go_wp2_with fail
   have h4:=(((H3.out.setCell 0 (.int .i64 2)).setCell 1 (.int .i64 0)).setCell 2 (.int .i64 rn)).setCell 3 (.int .i64 0)
   generalize (World.setCell _ _ _:World)=w4 at h4 ⊢
   have H4:=Zh h4
   refine Zq0 (Zq62 (h4.pull 1 _ rfl)) ?_
   clear h4 f9 y0 y1 y2 y3 lt9
   unfold wpTp
   (try simp only [pickL,Zl6,Zl7])
   go_wp2_with fail
   refine NoPanic.normal ?_
   exact HQ.out _ _ _ _ _ _ _ _ _ _ g21 _ H4.out
  ·have h1:=H1.out
   clear H1
   obtain ⟨g21,hg21⟩:∃ g,g=w1.heap.size:=⟨_,rfl⟩
   have h3:=h1.alloc (.cells #[.int .i64 0,.int .i64 0,.int .i64 0,.int .i64 0] 43)
   obtain ⟨w3,hw3⟩:∃ x,x=w1.alloc (.cells #[.int .i64 0,.int .i64 0,.int .i64 0,.int .i64 0] 43):=⟨_,rfl⟩
   rw [←hg21,←hw3] at h3
   have H3:=Zh h3
   clear h3 h1
   go_wp2_with fail
   rw [←hg21,←hw3]
   clear hg21 hw3
   refine Zq0 (Zq62 (H3.out.pull 2 _ rfl)) ?_
   unfold wpTp
   (try simp only [pickL,Zl6,Zl7])
   have H1:=Zh (H3.out.pull 1 _ rfl)
   clear H3
   have HB:=Zh (HST.out _ _ _ _ H1.out)
   clear H1
   go_wp2_with fail
   refine HB.out.mono ?_
   rintro e w2 ⟨rfl,h2⟩
   have h2:=h2.drop
   have H2:=Zh h2
   clear HB
   go_wp2_with fail
   refine Zq0 (Zq62 (h2.pull 1 _ rfl)) ?_
   clear h2
   unfold wpTp
   (try simp only [pickL,Zl6,Zl7])
   repeat (first|(refine Zq4 _ (Or.inl ⟨by rfl,by (intro w hSw;(try dsimp only at hSw);go_simp;try with_reducible rfl)⟩) ?_;(try simp only [Act.put,List.setIfInBounds_toArray,Zl4,Zl5]))|(refine Zq4 _ (Or.inr ⟨by rfl,rfl⟩) ?_;(try simp only [Act.put,List.setIfInBounds_toArray,Zl4,Zl5]))|fail)
   refine Zq10 ?_
   unfold wpTp
   (try simp only [pickL,Zl6,Zl7])
   have H3:=H2
   clear H2
   obtain ⟨w3,hw3⟩:∃ x,x=w2:=⟨_,rfl⟩
   rw [←hw3] at H3 ⊢
   clear hw3
   have f9:=frozen_of_row H3.out.heap
   have k9:=Zq1 H3.out.heap
   have y0:=k9 0
   have y1:=k9 1
   have y2:=k9 2
   have y3:=k9 3
   simp at y0 y1 y2 y3
   have lt9:=H3.out.lt
   clear k9
   go_wp2_with fail
   have h4:=(((H3.out.setCell 0 (.int .i64 2)).setCell 1 (.int .i64 0)).setCell 2 (.int .i64 rn)).setCell 3 (.int .i64 0)
   generalize (World.setCell _ _ _:World)=w4 at h4 ⊢
   have H4:=Zh h4
   refine Zq0 (Zq62 (h4.pull 1 _ rfl)) ?_
   clear h4 f9 y0 y1 y2 y3 lt9
   unfold wpTp
   (try simp only [pickL,Zl6,Zl7])
   go_wp2_with fail
   refine NoPanic.normal ?_
   exact HQ.out _ _ _ _ _ _ _ _ _ _ g21 _ H4.out
 ·have h0:=H0.out
  clear H0
  obtain ⟨g21,hg21⟩:∃ g,g=w0.heap.size:=⟨_,rfl⟩
  have h3:=h0.alloc (.cells #[.int .i64 0,.int .i64 0,.int .i64 0,.int .i64 0] 43)
  obtain ⟨w3,hw3⟩:∃ x,x=w0.alloc (.cells #[.int .i64 0,.int .i64 0,.int .i64 0,.int .i64 0] 43):=⟨_,rfl⟩
  rw [←hg21,←hw3] at h3
  have H3:=Zh h3
  clear h3 h0
  go_wp2_with fail
  rw [←hg21,←hw3]
  clear hg21 hw3
  refine Zq0 (Zq62 (H3.out.pull 1 _ rfl)) ?_
  unfold wpTp
  (try simp only [pickL,Zl6,Zl7])
  have HA:=Zh (HSE.out _ _ H3.out)
  clear H3
  go_wp2_with fail
  refine HA.out.mono ?_
  rintro e w1 ⟨A1,c1,rfl,h1⟩
  clear HA
  have H1:=Zh h1
  go_wp2_with fail
  refine Zq0 (Zq62 (h1.pull 2 _ rfl)) ?_
  clear h1
  unfold wpTp
  (try simp only [pickL,Zl6,Zl7])
  have HB:=Zh (HST.out _ _ _ _ H1.out)
  clear H1
  go_wp2_with fail
  refine HB.out.mono ?_
  rintro e w2 ⟨rfl,h2⟩
  have h2:=h2.drop
  have H2:=Zh h2
  clear HB
  go_wp2_with fail
  refine Zq0 (Zq62 (h2.pull 1 _ rfl)) ?_
  clear h2
  unfold wpTp
  (try simp only [pickL,Zl6,Zl7])
  repeat (first|(refine Zq4 _ (Or.inl ⟨by rfl,by (intro w hSw;(try dsimp only at hSw);go_simp;try with_reducible rfl)⟩) ?_;(try simp only [Act.put,List.setIfInBounds_toArray,Zl4,Zl5]))|(refine Zq4 _ (Or.inr ⟨by rfl,rfl⟩) ?_;(try simp only [Act.put,List.setIfInBounds_toArray,Zl4,Zl5]))|fail)
  refine Zq10 ?_
  unfold wpTp
  (try simp only [pickL,Zl6,Zl7])
  have H3:=H2
  clear H2
  obtain ⟨w3,hw3⟩:∃ x,x=w2:=⟨_,rfl⟩
  rw [←hw3] at H3 ⊢
  clear hw3
  have f9:=frozen_of_row H3.out.heap
  have k9:=Zq1 H3.out.heap
  have y0:=k9 0
  have y1:=k9 1
  have y2:=k9 2
  have y3:=k9 3
  simp at y0 y1 y2 y3
  have lt9:=H3.out.lt
  clear k9
  go_wp2_with fail
  have h4:=(((H3.out.setCell 0 (.int .i64 2)).setCell 1 (.int .i64 0)).setCell 2 (.int .i64 rn)).setCell 3 (.int .i64 0)
  generalize (World.setCell _ _ _:World)=w4 at h4 ⊢
  have H4:=Zh h4
  refine Zq0 (Zq62 (h4.pull 1 _ rfl)) ?_
  clear h4 f9 y0 y1 y2 y3 lt9
  unfold wpTp
  (try simp only [pickL,Zl6,Zl7])
  go_wp2_with fail
  refine NoPanic.normal ?_
  exact HQ.out _ _ _ _ _ _ _ _ _ _ g21 _ H4.out
end
end Go.Proofs.YtpjchngjhijgmaaGreat
