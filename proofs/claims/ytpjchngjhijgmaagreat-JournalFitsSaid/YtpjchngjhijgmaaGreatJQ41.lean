import Derived.Test.YtpjchngjhijgmaaGreatJQ40
set_option linter.all false
namespace Go.Proofs.YtpjchngjhijgmaaGreat
open Go.RowKit
theorem TM.filled {c:Rg} {ps:List (List Int)} {S:Str} {J:Jn} {k:Nat} (hfd:Fd c 0 ps J k) (hj:JOK S J) (ha:S.armed=false) (hk:Keeps S 90000) (hn:ps.length≤60):TM S J 60:=by
 have hr:=hfd.r
 refine ⟨hj,ha,hk.fewer (by omega),by rw [hr],by rw [hr];rfl,by rw [hr],?_⟩
 have hle:=hfd.le
 have hl:=congrArg List.length (congrArg (List.map (·.data)) hfd.l)
 rw [Zq297,List.length_map,List.length_take] at hl
 omega
theorem Zq536:(Tryz.prog.info? 5).map (fun i=>(i.zero,i.size,i.bytes))=some (some (.int .u8 0),1,1):=by kernel_rfl
theorem Zq843 (w:World):(Instr.makeSlice 46 (.int .i64 90) (.int .i64 90)).run Tryz.prog w=.ok (.slice (some ⟨w.heap.size,0,none⟩) 90 90) (w.alloc (.cells (Array.replicate 90 (.int .u8 0)) 5)):=by
 obtain ⟨i0,hi0,hz0,hz1,hz2⟩:=info_parts Zq536
 have h:=run_makeSlice (P:=Tryz.prog) w 46 5 i0 (.int .u8 0) Tryz.underlying46 hi0 hz0 .i64 .i64 90 90 (by decide) (by decide) (by rw [hz1];decide) (by rw [hz2];decide) (by decide)
 rw [hz1,show madeCells (Value.int .u8 0).cells ((90:Int).toNat*1)=Array.replicate 90 (.int .u8 0) by kernel_rfl] at h
 exact h
section
variable {W w : World} {I : Hp} {l : List HP}
set_option maxRecDepth 4000
set_option maxHeartbeats 8000000
theorem Zq779 {b i:Nat} {v:Value} (h:w.cell? ⟨b,i,none⟩=some v):b<w.heap.size:=by
 by_cases hb:b<w.heap.size
 ·exact hb
 ·exfalso
  unfold World.cell? at h
  simp [Array.getElem?_eq_none (by omega:w.heap.size≤b)] at h
theorem Zq821 {g:Nat} {f:Nat × Nat} (h:St W I w (HP.pt g (.cells (Array.replicate 90 (.int .u8 0)) 5 f)::l)):∃ I',I.sub I'∧BytesI I' (.slice (some ⟨g,0,none⟩) 90 90) (List.replicate 90 0)∧St W I' w l:=by
 obtain ⟨I',hs,hI,h2⟩:=h.freeze
 refine ⟨I',hs,⟨some ⟨g,0,none⟩,90,rfl,rfl,Nat.le_refl _,by unfold maxLen;omega,(fun e=>by cases e),fun _=>⟨g,0,_,_,_,rfl,hI,fun i x hx=>?_⟩⟩,h2⟩
 rw [List.map_replicate,List.getElem?_replicate] at hx
 rw [Nat.zero_add,Array.getElem?_replicate]
 exact hx
theorem Zq780 {ca cb:Code} {Q:Exit→Act→World→Prop} {K:Act→World→Prop} (hK:∀ x y,cb.wp Tryz.prog Q x y→K x y) (hC:(Tryz.f8).body.bind (fromR 25)=some (.seq ca cb)) {x0 x1 x2 x3 x4 x5 x6 x7 x8 x9 x10 x11 x12 x13 x14 x15 x16 x18 x19 x20 x21 x22 x23 x24 x25 x26 x27 x28 x29 x30 x31 x32 x33 x34 x35 x36 x37 x38 x39 x40 x41 x42 x43 x44 x45 x46 x47 x48 x49 x50 x51 x52 x53 x54 x55 x56 x57 x58 x59 x60 x61 x62 x63 x64 x65 x66 x67 x68 x69 x70 x71 x72 x73 x74 x75 x76 x77 x78 x79 x80 x81 x82 x83 x84 x85 x86 x87 x88 x89 x90 x91 x92 x93 x94 x95 x96 x97 x98 x99 x100 x101 x102 x103 x104 x105 x106 x107 x108 x109 x110 x111 x112 x113 x114 x115 x116 x117 x118 x119 x120 x121 x122 x123 x124 x125 x126 x127 x128 x129 x130 x131 x132 x133 x134 x135 x136 x137 x138 x139 x140 x141 x142 x143 x144 x145 x146 x147 x148 x149 x150 x151 x152 x153 x154 x155 x156 x157 x158 x159 x160 x161 x162 x163 x164 x165 x166 x167 x168 x169 x170 x171 x172 x173:Value} {p q:Nat} {S:Str} {J:Jn}
  (h:St W I w (Zq8 p S::jnHP q p J::l)) (hj:JOK S J) (ha:S.armed=false) (hk:Keeps S 300) (hs:setsJ J=1) (hn:J.r.set+J.l.length<1000000∧J.l.length<100000) (he:endJ J≤1000)
  (hQ:∀ (y0 y1 y2 y3 y4 y5 y6 y7 y8 y9 y11 y12 y13 y14 y15 y16 y17 y18 y19 y20 y21 y22 y23 y24 y25 y26 y27 y28 y29 y30 y31 y32 y33 y34 y35 y36 y37 y38 y39 y40 y41 y42 y43 y44 y45 y46 y47 y48 y49 y50 y51 y52 y53 y54 y55 y56 y57 y58 y59 y60 y61 y62 y63 y64 y65 y66 y67 y68 y69 y70 y71 y72 y73 y74 y75 y76 y77 y78 y79 y80 y81 y82 y83 y84 y85 y86 y87 y88 y89 y90 y91 y92 y93 y94 y95 y96 y97 y98 y99 y100 y101 y102 y103 y104 y105 y106 y107 y108 y109 y110 y111 y112 y113 y114 y115 y116 y117 y118 y119 y120 y121 y122 y123 y124 y125 y126 y127 y128 y129 y130 y131 y132 y133 y134 y135 y136 y137 y138 y139 y140 y141 y142 y143 y144 y145 y146 y147 y148 y149 y150 y151 y152 y153 y154 y155 y156 y157 y158 y159 y160 y161 y162 y163 y164 y165 y166 y167 y168 y169 y170 y171 y172 y173:Value) (w':World),Below W.heap.size W w'→Q .ret ⟨#[y0,y1,y2,y3,y4,y5,y6,y7,y8,y9,.bool true,y11,y12,y13,y14,y15,y16,y17,y18,y19,y20,y21,y22,y23,y24,y25,y26,y27,y28,y29,y30,y31,y32,y33,y34,y35,y36,y37,y38,y39,y40,y41,y42,y43,y44,y45,y46,y47,y48,y49,y50,y51,y52,y53,y54,y55,y56,y57,y58,y59,y60,y61,y62,y63,y64,y65,y66,y67,y68,y69,y70,y71,y72,y73,y74,y75,y76,y77,y78,y79,y80,y81,y82,y83,y84,y85,y86,y87,y88,y89,y90,y91,y92,y93,y94,y95,y96,y97,y98,y99,y100,y101,y102,y103,y104,y105,y106,y107,y108,y109,y110,y111,y112,y113,y114,y115,y116,y117,y118,y119,y120,y121,y122,y123,y124,y125,y126,y127,y128,y129,y130,y131,y132,y133,y134,y135,y136,y137,y138,y139,y140,y141,y142,y143,y144,y145,y146,y147,y148,y149,y150,y151,y152,y153,y154,y155,y156,y157,y158,y159,y160,y161,y162,y163,y164,y165,y166,y167,y168,y169,y170,y171,y172,y173],[]⟩ w') :
  ca.wp Tryz.prog (Exit.then K Q) ⟨#[x0,x1,x2,x3,x4,x5,x6,x7,x8,x9,x10,x11,x12,x13,x14,x15,x16,.pointer (some ⟨q,0,none⟩),x18,x19,x20,x21,x22,x23,x24,x25,x26,x27,x28,x29,x30,x31,x32,x33,x34,x35,x36,x37,x38,x39,x40,x41,x42,x43,x44,x45,x46,x47,x48,x49,x50,x51,x52,x53,x54,x55,x56,x57,x58,x59,x60,x61,x62,x63,x64,x65,x66,x67,x68,x69,x70,x71,x72,x73,x74,x75,x76,x77,x78,x79,x80,x81,x82,x83,x84,x85,x86,x87,x88,x89,x90,x91,x92,x93,x94,x95,x96,x97,x98,x99,x100,x101,x102,x103,x104,x105,x106,x107,x108,x109,x110,x111,x112,x113,x114,x115,x116,x117,x118,x119,x120,x121,x122,x123,x124,x125,x126,x127,x128,x129,x130,x131,x132,x133,x134,x135,x136,x137,x138,x139,x140,x141,x142,x143,x144,x145,x146,x147,x148,x149,x150,x151,x152,x153,x154,x155,x156,x157,x158,x159,x160,x161,x162,x163,x164,x165,x166,x167,x168,x169,x170,x171,x172,x173],[]⟩ w:=by
 injection hC with hC
 injection hC with hC1 hC2
 subst hC1 hC2
 have hfit:fitsJ J [((List.replicate 90 (0:Int)).length:Int)]=true:=by
  cases hf:fitsJ J [((List.replicate 90 (0:Int)).length:Int)] with
  | true=>rfl
  | false =>
   have:=Zq487 hj (n:=((List.replicate 90 (0:Int)).length:Int)) (by rw [List.length_replicate];omega) (by omega) hf
   have:=Rg.ok hj.ok.shape
   omega
 obtain ⟨I2,hs2,hb2,h2⟩:=Zq821 (h.alloc (.cells (Array.replicate 90 (.int .u8 0)) 5))
 obtain ⟨S',g,pl,nx,_,e1,e2,e3,_⟩:=hj.append_calm (d:=List.replicate 90 0) ha (by rw [List.length_replicate];omega) (by intro y hy;rw [(List.mem_replicate.1 hy).2];unfold isByte;omega) hfit hn
 have hap:=Zq136 (m:=100) (List.replicate 90 0) (some ⟨w.heap.size,0,none⟩) 90 h2 (hk.fewer (by omega)) hj.jb hb2 (by intro y hy;rw [(List.mem_replicate.1 hy).2];unfold isByte;omega) (hj.six ha (by rw [List.length_replicate];omega) _)
 rw [e1] at hap
 obtain ⟨J2,hJ2⟩:∃ x,x=addJ J (newE J (List.replicate 90 0)) pl g:=⟨_,rfl⟩
 rw [←hJ2] at hap e2
 have hap':Calls Tryz.prog 24 #[.pointer (some ⟨q,0,none⟩),.slice (some ⟨w.heap.size,0,none⟩) 90 90] (w.alloc (.cells (Array.replicate 90 (.int .u8 0)) 5)) fun e w'=>∃ I',I2.sub I'∧e=.returned (.tuple #[.int .i64 (endJ J+1),.int .i64 0])∧St W I' w' (Zq8 p S'::jnHP q p J2::l):=hap
 obtain ⟨w2,hw2⟩:∃ x,x=w.alloc (.cells (Array.replicate 90 (.int .u8 0)) 5):=⟨_,rfl⟩
 have hmk:=Zq843 w
 rw [←hw2] at hap' hmk
 have HAP:=Zh hap'
 have HJ2:=Zh e2
 have HQ:=Zh hQ
 obtain ⟨gb,hgb⟩:∃ x,x=w.heap.size:=⟨_,rfl⟩
 rw [←hgb] at HAP hmk
 clear h hj ha hk hs hn he hQ hfit hs2 hb2 h2 e1 e2 e3 hap hap' hJ2 hw2 hgb
 go_wp2_with fail
 refine HAP.out.mono ?_
 rintro e w3 ⟨I3,hs3,rfl,h3⟩
 have hb0:=Zq639 (J:=J2) (n:=0) (.inl (by omega)) []
 have hb91:=Zq639 (J:=J2) (n:=91) (.inr (by omega)) []
 have h4:=(h3.pull 1 _ rfl).alloc (.cells #[.int .i64 0] 3)
 have hf0:=Zq149 (h4.pull 1 _ rfl) HJ2.out.jb (some ⟨w3.heap.size,0,none⟩) 1 [(0:Int)] (by simp) (fun j x hx=>by
  cases j with
  | zero =>
   simp only [Zl6,Option.some.injEq] at hx
   subst hx
   exact ⟨_,0,rfl,by simp,by simp [Zq1 h4.heap 0]⟩
  | succ j=>simp at hx)
 rw [hb0] at hf0
 have HF0:=Zh hf0
 have H4:=Zh ((h4.pull 1 _ rfl |>.pull 1 _ rfl).drop)
 have HB91:=Zh hb91
 obtain ⟨w5,hw5⟩:∃ x,x=w3:=⟨_,rfl⟩
 rw [←hw5] at HF0 H4 ⊢
 clear h3 hs3 hb0 hb91 h4 hf0 hw5 HAP hmk
 go_wp2_with fail
 refine HF0.out.mono ?_
 rintro e w6 ⟨rfl,hb6⟩
 have h6:=(H4.out.keep hb6).alloc (.cells #[.int .i64 91] 3)
 have hf1:=Zq149 (h6.pull 1 _ rfl) HJ2.out.jb (some ⟨w6.heap.size,0,none⟩) 1 [(91:Int)] (by simp) (fun j x hx=>by
  cases j with
  | zero =>
   simp only [Zl6,Option.some.injEq] at hx
   subst hx
   exact ⟨_,0,rfl,by simp,by simp [Zq1 h6.heap 0]⟩
  | succ j=>simp at hx)
 rw [HB91.out] at hf1
 have HF1:=Zh hf1
 have HB6:=Zh h6.below
 obtain ⟨w7,hw7⟩:∃ x,x=w6:=⟨_,rfl⟩
 rw [←hw7] at HF1 HB6 ⊢
 clear h6 hb6 hf1 hw7 HF0 H4
 go_wp2_with fail
 refine HF1.out.mono ?_
 rintro e w8 ⟨rfl,hb8⟩
 have HB8:=Zh (HB6.out.trans (hb8.mono HB6.out.size))
 clear hb8 HF1 HB6
 go_wp2_with fail
 refine (Zq182 _).mono ?_
 rintro e w9 ⟨rfl,hb9⟩
 have HB9:=Zh (HB8.out.trans (hb9.mono HB8.out.size))
 clear hb9 HB8
 go_wp2_with fail
 exact HQ.out _ _ _ _ _ _ _ _ _ _ _ _ _ _ _ _ _ _ _ _ _ _ _ _ _ _ _ _ _ _ _ _ _ _ _ _ _ _ _ _ _ _ _ _ _ _ _ _ _ _ _ _ _ _ _ _ _ _ _ _ _ _ _ _ _ _ _ _ _ _ _ _ _ _ _ _ _ _ _ _ _ _ _ _ _ _ _ _ _ _ _ _ _ _ _ _ _ _ _ _ _ _ _ _ _ _ _ _ _ _ _ _ _ _ _ _ _ _ _ _ _ _ _ _ _ _ _ _ _ _ _ _ _ _ _ _ _ _ _ _ _ _ _ _ _ _ _ _ _ _ _ _ _ _ _ _ _ _ _ _ _ _ _ _ _ _ _ _ _ _ _ _ _ _ HB9.out
theorem journalFits_walk (a b c:Int) (v3 v4:Value) (ls ms:List (List Int)) (W:World) (hr3:RowsI W.hp v3 ls) (hr4:RowsI W.hp v4 ms) :
  Calls Tryz.prog 8 #[.int .i64 a,.int .i64 b,.int .i64 c,v3,v4] W fun e w'=>e=.returned (.bool true)∧Below W.heap.size W w':=by
 obtain ⟨A3,c3,rfl,hx1,hx2,hx3⟩:=hr3.slice
 clear hx1 hx2 hx3
 obtain ⟨A4,c4,rfl,hx1,hx2,hx3⟩:=hr4.slice
 clear hx1 hx2 hx3
 have HSH3:=Zh (Zq393 _ ls 60 100 W hr3)
 have HSH4:=Zh (Zq393 _ ms 30 100 W hr4)
 have HBY3:=Zh (show ∀ p ∈ ls,∀ y ∈ p,isByte y by obtain ⟨_,_,_,_,hq⟩:=hr3;exact fun p hp=>(hq p hp).1)
 have HBY4:=Zh (show ∀ p ∈ ms,∀ y ∈ p,isByte y by obtain ⟨_,_,_,_,hq⟩:=hr4;exact fun p hp=>(hq p hp).1)
 have HR3:=Zh hr3
 have HR4:=Zh hr4
 clear hr3 hr4
 obtain ⟨s3,hs3⟩:∃ x,x=Zq403 ls 60 100:=⟨_,rfl⟩
 obtain ⟨s4,hs4⟩:∃ x,x=Zq403 ms 30 100:=⟨_,rfl⟩
 rw [←hs3] at HSH3
 rw [←hs4] at HSH4
 have HS3:=Zh hs3
 have HS4:=Zh hs4
 clear hs3 hs4
 go_enter Tryz.func8,Tryz.ntmps8
 go_wp2_with fail
 refine HSH3.out.mono ?_
 rintro e w1 ⟨rfl,rfl⟩
 clear HSH3
 cases s3 with
 | false =>
  go_wp2_with fail
  refine (Zq182 _).mono ?_
  rintro e w9 ⟨rfl,hb9⟩
  have HB9:=Zh hb9
  clear hb9
  go_wp2_with fail
  go_ret
  exact ⟨rfl,HB9.out⟩
 | true =>
 go_wp2_with fail
 refine HSH4.out.mono ?_
 rintro e w1 ⟨rfl,rfl⟩
 clear HSH4
 cases s4 with
 | false =>
  go_wp2_with fail
  refine (Zq182 _).mono ?_
  rintro e w9 ⟨rfl,hb9⟩
  have HB9:=Zh hb9
  clear hb9
  go_wp2_with fail
  go_ret
  exact ⟨rfl,HB9.out⟩
 | true =>
 have hshort:∀ (L:List (List Int)) (n:Int),true=Zq403 L n 100→(L.length:Int)≤n:=fun L n h=>by
  unfold Zq403 at h
  have:=(Bool.and_eq_true_iff.1 h.symm).2
  rwa [decide_eq_true_eq] at this
 have hl3:ls.length≤60:=by have:=hshort ls 60 HS3.out;omega
 have hl4:ms.length≤30:=by have:=hshort ms 30 HS4.out;omega
 clear hshort
 obtain ⟨C,hC⟩:∃ x,x=ringK a b c:=⟨_,rfl⟩
 have HCO:=Zh (show C.okB=true by rw [hC];exact Zq777 a b c)
 have hrk:=Zq708 a b c W
 rw [←hC] at hrk
 unfold Rg.val at hrk
 have HRK:=Zh hrk
 clear hrk hC
 go_wp2_with fail
 refine HRK.out.mono ?_
 rintro e w2 ⟨rfl,hb2⟩
 have h2:=((St.init W).keep hb2).alloc (.cells #[.int .i64 C.splay,.int .i64 C.sets,.int .i64 C.size] 26)
 obtain ⟨g11,hg11⟩:∃ g,g=w2.heap.size:=⟨_,rfl⟩
 rw [←hg11] at h2
 have H2:=Zh h2
 have HG:=Zh (Zq709 (at':=0) HCO.out (by omega))
 have HROW3:=Zh (Zq295 _ ls h2 HR3.out (by omega))
 clear h2 hb2 HRK
 go_upto_region 4 with fail
 rw [←hg11]
 have h2:=H2.out
 generalize (World.alloc _ _:World)=w3 at h2 HROW3 ⊢
 clear h2 H2 hg11
 go_wp2_with fail
 refine HROW3.out.mono ?_
 rintro e w2 ⟨I2,B3,k3,B4,k4,ps,ns,hs2,hps,hns,rfl,hr2,hi2,h2⟩
 have hpf:∀ p ∈ ps,(1≤p.length∧p.length≤90)∧∀ y ∈ p,isByte y:=by rw [hps];exact Zq296 HBY3.out
 have hpl:ps.length≤60:=by rw [hps,List.length_map];exact hl3
 have HROW4:=Zh (Zq295 _ ms h2 (HR4.out.mono hs2) (by omega))
 have HPF:=Zh hpf
 have HRP:=Zh hr2
 clear hps hns hr2 hi2 h2 hpf HROW3 HR3 hs2 hl3 HR4
 go_wp2_with fail
 refine HROW4.out.mono ?_
 rintro e w4 ⟨I4,D3,j3,D4,j4,qs,ns2,hs4,hps,hns,rfl,hr4,hi4,h4⟩
 have hqf:∀ p ∈ qs,(1≤p.length∧p.length≤90)∧∀ y ∈ p,isByte y:=by rw [hps];exact Zq296 HBY4.out
 have hql:qs.length≤30:=by rw [hps,List.length_map];exact hl4
 have hrp:=HRP.out.mono hs4
 obtain ⟨vs,hvl,hvr,hvb,_⟩:=id hrp
 have hfil:=Zq392 C 0 (.slice B3 ps.length k3) ps vs h4 hvr (fun i p hp=>by
  obtain ⟨x,hx⟩:∃ x,vs[i]?=some x:=⟨_,List.getElem?_eq_getElem (by have:=(List.getElem?_eq_some_iff.1 hp).1;omega)⟩
  exact ⟨x,hx,hvb i x p hx hp⟩) HPF.out (by omega) HG.out
 unfold Rg.val at hfil
 have HFIL:=Zh hfil
 have HQF:=Zh hqf
 have HRQ:=Zh hr4
 have HIQ:=Zh hi4
 have HNS:=Zh hns
 obtain ⟨z0,z1,z2⟩:=Zq62 h4
 clear hps hns hr4 hi4 h4 hqf hs4 hrp hvl hvr hvb hfil HROW4 HRP hl4
 go_wp2_with fail
 refine HFIL.out.mono ?_
 rintro e w5 ⟨I5,p,q,S,J,k,hs5,rfl,h5,hj5,ha5,hk5,S0,hj0,ha0,hf0⟩
 obtain ⟨hfd,hsafe,_,_⟩:=Zq778 HG.out hj0 ha0 HPF.out (by omega) hf0
 have HT5:=Zh (TM.filled hfd hj5 ha5 hk5 hpl)
 have HSH5:=Zh (show J.r.shape=C by rw [hfd.r])
 have hnsl:ns2.length=qs.length:=by rw [HNS.out,Zq642]
 have hfs:=Zq149 (h5.pull 1 _ rfl) hj5.jb D4 j4 ns2 (by omega) (fun i x hx=>by
  obtain ⟨b,off,e1,hc⟩:=(show IntsI I5 (.slice D4 ns2.length j4) ns2 from RowI.mono hs5 HIQ.out).cells hx
  have hc1:=hc (Hp.sub.refl _) h5
  exact ⟨b,off,e1,Zq779 hc1,hc1⟩)
 obtain ⟨F,hF⟩:∃ F,F=fitsJ J ns2:=⟨_,rfl⟩
 rw [←hF] at hfs
 have HFS:=Zh hfs
 have HFE:=Zh (show F=fitsJ J (Zq126 qs) by rw [hF,HNS.out])
 have H5:=Zh h5
 have HRQ5:=Zh (HRQ.out.mono hs5)
 clear hs5 h5 hj5 ha5 hk5 hj0 ha0 hf0 hfd hsafe hnsl hfs hF z0 z1 z2 HFIL HG HCO HRQ HIQ HPF
 go_wp2_with fail
 refine HFS.out.mono ?_
 rintro e w6 ⟨rfl,hb6⟩
 have H6:=Zh (H5.out.keep hb6)
 clear hb6 HFS H5
 go_upto_region 11 with fail
 refine Zq711 (by assumption) (by kernel_rfl) H6.out HRQ5.out HT5.out HSH5.out HFE.out hql HQF.out ?_
 intro _ _ _ _ _ _ _ _ _ _ _ _ _ _ _ _ _ _ _ _ _ _ _ _ _ _ _ _ _ _ _ _ _ _ _ _ _ _ _ _ _ _ _ _ _ _ _ _ _ _ _ _ _ _ _ _ _ _ _ _ _ _ _ _ _ _ _ _ _ _ _ _ _ _ _ _ _ _ _ _ _ _ _ _ _ _ _ _ _ _ _ _ _ _ _ _ _ _ _ _ _ _ _ _ _ _ _ _ _ _ _ _ _ _ _ _ _ _ _ _ _ _ _ _ _ _ _ _ _ _ _ _ _ _ _ _ _ _ _ _ _ _ _ _ _ _ _ _ _ _ _ _ _ _ _ _ _ _ _ _ _ _ _ _ _ _ _ _ _ _ _ I8 w8 S8 J8 ok hok hs8 h8 ht8 hc8
 subst hok
 obtain ⟨S9,hfl,ht9⟩:=ht8.flush
 have hflu:=Zq517 h8 ht8.ks ht8.ok.jb
 rw [hfl] at hflu
 have HFLU:=Zh hflu
 have HT9:=Zh ht9
 have hxx:(ok==ok)=true:=by cases ok <;> rfl
 clear hs8 h8 ht8 hc8 hfl hflu ht9 H6 HT5 HSH5 HFE HRQ5 HQF
 go_wp2_with fail
 refine HFLU.out.mono ?_
 rintro e w9 ⟨I9,hs9,rfl,h9⟩
 obtain ⟨J9,hJ9⟩:∃ x,x=safeJ J8:=⟨_,rfl⟩
 have hsf:J9.safe=endJ J9:=by rw [hJ9];rfl
 rw [←hJ9] at h9 HT9
 have htr:=Zq533 (m:=85000) h9 HT9.out.ok HT9.out.calm (HT9.out.ks.fewer (by omega))
 obtain ⟨hs1,he1⟩:=HT9.out.ok.trim_one hsf HT9.out.cls HT9.out.first
 obtain ⟨L9,hL9⟩:∃ x,x=leftJ J9:=⟨_,rfl⟩
 have hlen:L9.l.length≤90∧L9.r.set+L9.l.length≤1000:=by
  rw [hL9]
  have hl:=HT9.out.len
  have h0:=HT9.out.set
  have hin:=HT9.out.ok.at.from_
  unfold leftJ
  split
  ·rw [h0];omega
  ·rename_i hd
   rcases HT9.out.ok.done with e|⟨n,e,n1,n2,n3,n4,_⟩
   ·rw [e] at hd;exact absurd rfl hd
   ·show (J9.l.drop (doneJ J9).1).length≤90∧(doneJ J9).2+((J9.l.drop (doneJ J9).1).length:Int)≤1000
    rw [List.length_drop]
    omega
 rw [←hL9] at htr hs1 he1
 have HTR:=Zh htr
 have HS1:=Zh hs1
 have HLN:=Zh hlen
 have HE1:=Zh (show endJ L9≤1000 by rw [he1,HT9.out.ends];have:=HT9.out.len;omega)
 clear hs9 h9 hsf htr hs1 he1 hlen hL9 hJ9 HFLU
 go_wp2_with fail
 refine HTR.out.mono ?_
 rintro e w10 ⟨I10,S10,hs10,rfl,h10,hj10,ha10,hk10⟩
 have hse:=Zq254 (h10.pull 1 _ rfl) hj10.jb
 rw [HS1.out] at hse
 have HSE:=Zh hse
 have H10:=Zh h10
 have HJ10:=Zh hj10
 have HA10:=Zh ha10
 have HK10:=Zh hk10
 clear hs10 h10 hj10 ha10 hk10 hse HTR
 go_wp2_with fail
 refine HSE.out.mono ?_
 rintro e w11 ⟨rfl,hb11⟩
 have H11:=Zh (H10.out.keep hb11)
 clear hb11 HSE H10
 go_upto_region 25 with fail
 refine Zq780 (by assumption) (by kernel_rfl) H11.out HJ10.out HA10.out (HK10.out.fewer (by omega)) HS1.out (by have:=HLN.out;omega) HE1.out ?_
 intro _ _ _ _ _ _ _ _ _ _ _ _ _ _ _ _ _ _ _ _ _ _ _ _ _ _ _ _ _ _ _ _ _ _ _ _ _ _ _ _ _ _ _ _ _ _ _ _ _ _ _ _ _ _ _ _ _ _ _ _ _ _ _ _ _ _ _ _ _ _ _ _ _ _ _ _ _ _ _ _ _ _ _ _ _ _ _ _ _ _ _ _ _ _ _ _ _ _ _ _ _ _ _ _ _ _ _ _ _ _ _ _ _ _ _ _ _ _ _ _ _ _ _ _ _ _ _ _ _ _ _ _ _ _ _ _ _ _ _ _ _ _ _ _ _ _ _ _ _ _ _ _ _ _ _ _ _ _ _ _ _ _ _ _ _ _ _ _ _ _ _ _ _ w12 hb12
 have HB12:=Zh hb12
 clear hb12
 go_ret
 exact ⟨rfl,HB12.out⟩
end
end Go.Proofs.YtpjchngjhijgmaaGreat
