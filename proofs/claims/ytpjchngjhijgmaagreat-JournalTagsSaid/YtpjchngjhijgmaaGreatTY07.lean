import Derived.Test.YtpjchngjhijgmaaGreatTY06
set_option linter.all false
namespace Go.Proofs.YtpjchngjhijgmaaGreat
open Go.RowKit
section
variable {W w : World} {I : Hp} {l : List HP}
set_option maxRecDepth 4000
set_option maxHeartbeats 8000000
theorem tags_mid {ca cb:Code} {Q:Exit→Act→World→Prop} {K:Act→World→Prop} (hK:∀ x y,cb.wp Tryz.prog Q x y→K x y) (hC:(Tryz.f7).body.bind (fromR 17)=some (.seq ca cb)) {x0 x1 x2 x3 x5 x6 x7 x8 x9 x10 x14 x15 x16 x17 x18 x19 x20 x21 x22 x23 x24 x25 x26 x27 x28 x29 x30 x31 x32 x33 x34 x35 x36 x37 x38 x39 x40 x41 x42 x43 x44 x45 x46 x47 x48 x49 x50 x51 x52 x53 x54 x55 x56 x57 x58 x59 x60 x61 x62 x63 x64 x65 x66 x67 x68 x69 x70 x71 x72 x73 x74 x75 x76 x77 x78 x79 x80 x81 x82 x83 x84 x85 x86 x87 x88 x89 x90 x91 x92 x93 x94 x95 x96 x97 x98 x99 x100 x101 x102 x103 x104 x105 x106 x107 x108 x109 x110 x111 x112 x113 x114 x115 x116 x117 x118 x119 x120 x121 x122 x123 x124 x125 x126 x127 x128 x129 x130 x131 x132 x133 x134 x135 x136 x137 x138 x139 x140 x141 x142 x143 x144 x145 x146 x147 x148 x149 x150 x151 x152 x153 x154 x155 x156 x157 x158 x159 x160 x161 x162 x163 x164 x165 x166:Value} {p q c n:Nat} {d:Int} {A:Option Addr} {S:Str} {J:Jn}
  (h:St W I w (HP.row 3 1 (.slice A J.l.length c) J.l.length ((J.l.map (·.tag)).map intV)::Zq11 p S::jnHP q p J::l)) (ht:TG S J n) (hn:n≤40)
  (hQ:∀ (y0 y1 y2 y3 y4 y5 y6 y7 y8 y9 y11 y12 y13 y14 y15 y16 y17 y18 y19 y20 y21 y22 y23 y24 y25 y26 y27 y28 y29 y30 y31 y32 y33 y34 y35 y36 y37 y38 y39 y40 y41 y42 y43 y44 y45 y46 y47 y48 y49 y50 y51 y52 y53 y54 y55 y56 y57 y58 y59 y60 y61 y62 y63 y64 y65 y66 y67 y68 y69 y70 y71 y72 y73 y74 y75 y76 y77 y78 y79 y80 y81 y82 y83 y84 y85 y86 y87 y88 y89 y90 y91 y92 y93 y94 y95 y96 y97 y98 y99 y100 y101 y102 y103 y104 y105 y106 y107 y108 y109 y110 y111 y112 y113 y114 y115 y116 y117 y118 y119 y120 y121 y122 y123 y124 y125 y126 y127 y128 y129 y130 y131 y132 y133 y134 y135 y136 y137 y138 y139 y140 y141 y142 y143 y144 y145 y146 y147 y148 y149 y150 y151 y152 y153 y154 y155 y156 y157 y158 y159 y160 y161 y162 y163 y164 y165 y166:Value) (w':World),Below W.heap.size W w'→Q .ret ⟨#[y0,y1,y2,y3,y4,y5,y6,y7,y8,y9,.bool true,y11,y12,y13,y14,y15,y16,y17,y18,y19,y20,y21,y22,y23,y24,y25,y26,y27,y28,y29,y30,y31,y32,y33,y34,y35,y36,y37,y38,y39,y40,y41,y42,y43,y44,y45,y46,y47,y48,y49,y50,y51,y52,y53,y54,y55,y56,y57,y58,y59,y60,y61,y62,y63,y64,y65,y66,y67,y68,y69,y70,y71,y72,y73,y74,y75,y76,y77,y78,y79,y80,y81,y82,y83,y84,y85,y86,y87,y88,y89,y90,y91,y92,y93,y94,y95,y96,y97,y98,y99,y100,y101,y102,y103,y104,y105,y106,y107,y108,y109,y110,y111,y112,y113,y114,y115,y116,y117,y118,y119,y120,y121,y122,y123,y124,y125,y126,y127,y128,y129,y130,y131,y132,y133,y134,y135,y136,y137,y138,y139,y140,y141,y142,y143,y144,y145,y146,y147,y148,y149,y150,y151,y152,y153,y154,y155,y156,y157,y158,y159,y160,y161,y162,y163,y164,y165,y166],[]⟩ w') :
  ca.wp Tryz.prog (Exit.then K Q) ⟨#[x0,x1,x2,x3,.int .i64 d,x5,x6,x7,x8,x9,x10,.pointer (some ⟨p,0,none⟩),.pointer (some ⟨q,0,none⟩),.slice A J.l.length c,x14,x15,x16,x17,x18,x19,x20,x21,x22,x23,x24,x25,x26,x27,x28,x29,x30,x31,x32,x33,x34,x35,x36,x37,x38,x39,x40,x41,x42,x43,x44,x45,x46,x47,x48,x49,x50,x51,x52,x53,x54,x55,x56,x57,x58,x59,x60,x61,x62,x63,x64,x65,x66,x67,x68,x69,x70,x71,x72,x73,x74,x75,x76,x77,x78,x79,x80,x81,x82,x83,x84,x85,x86,x87,x88,x89,x90,x91,x92,x93,x94,x95,x96,x97,x98,x99,x100,x101,x102,x103,x104,x105,x106,x107,x108,x109,x110,x111,x112,x113,x114,x115,x116,x117,x118,x119,x120,x121,x122,x123,x124,x125,x126,x127,x128,x129,x130,x131,x132,x133,x134,x135,x136,x137,x138,x139,x140,x141,x142,x143,x144,x145,x146,x147,x148,x149,x150,x151,x152,x153,x154,x155,x156,x157,x158,x159,x160,x161,x162,x163,x164,x165,x166],[]⟩ w:=by
 injection hC with hC
 injection hC with hC1 hC2
 subst hC1 hC2
 obtain ⟨S6,hbe,hfl,hj6,ha6,hw6,hl6⟩:=ht.ok.flush_calm ht.calm
 have HFLS:=Zh (show ∀ (I1:Hp) (w1:World) (L:List HP),St W I1 w1 (Zq11 p S::jnHP q p J::L)→Calls Tryz.prog 17 #[.pointer (some ⟨q,0,none⟩)] w1 fun e w'=>∃ I',I1.sub I'∧e=.returned (.int .i64 0)∧St W I' w' (Zq11 p S6::jnHP q p (safeJ J)::L) from fun I1 w1 L h1=>by
  have hflu:=Zq234 h1 ht.ks ht.ok.jb
  rwa [hfl] at hflu)
 have HK6:=Zh (show Keeps S6 60000 by have:=Zq76 ht.ks;rw [hbe] at this;exact this.fewer (by omega))
 have HJ6:=Zh hj6
 have HA6:=Zh ha6
 have hend:=ht.ends
 have HF:=Zh (show J.r.first=1∧J.l.length≤40 from ⟨ht.first,Nat.le_trans ht.len hn⟩)
 have hen:=Zq93 (h.pull 2 _ rfl) ht.ok.jb
 rw [hend] at hen
 have HE:=Zh hen
 have HT:=Zh ht
 have H0:=Zh (h.pull 2 _ rfl)
 have HQ:=Zh hQ
 have HEND:=Zh hend
 have hl40:(J.l.length:Int)≤40:=by have:=HF.out.2;omega
 have HN:=Zh hn
 clear h ht hQ hbe hfl hj6 ha6 hw6 hl6 hend hen hn
 go_wp2_with fail
 refine HE.out.mono ?_
 rintro e w1 ⟨rfl,hb1⟩
 have H1:=Zh (H0.out.keep hb1)
 clear hb1 HE H0
 by_cases hpos:0<J.l.length
 ·have hpos1:(0:Int)<(J.l.length:Int):=by omega
  have hne0:¬ (J.l.length:Int)=0:=by omega
  obtain ⟨y,hy⟩:∃ y,d % 256=y:=⟨_,rfl⟩
  have hand:bits .and .i64 d 255=y:=(Zq602 d).trans hy
  obtain ⟨k,hk⟩:∃ k,y % (J.l.length:Int)=k:=⟨_,rfl⟩
  have hmod:Int.tmod y (J.l.length:Int)=k:=by rw [Int.tmod_eq_emod_of_nonneg (by omega)];exact hk
  have hk0:0≤k:=by rw [←hk];exact Int.emod_nonneg _ hne0
  have hk1:k<(J.l.length:Int):=by rw [←hk];exact Int.emod_lt_of_pos _ hpos1
  have wk:IntKind.i64.wrap k=k:=by rw [IntKind.wrap_i64];omega
  have HBAD:=Zh (HT.out.bad (k:=k) ⟨hk0,by rw [HEND.out];exact hk1⟩)
  have HCH:=Zh (jchain_spec H1.out (by have:=HT.out.few;omega))
  clear hy hk
  go_upto_region 20 with fail
  go_wp2_with fail
  refine HCH.out.mono ?_
  rintro e w2 ⟨I2,v2,hs2,rfl,hr2,h2⟩
  obtain ⟨A2,c2,rfl,hx⟩:=id hr2
  clear hx
  have HCT:=Zh (cutc_spec A2 c2 J.r.tags k h2 hr2 (by have:=HT.out.few;omega))
  clear hr2 h2 hs2 HCH H1
  go_wp2_with fail
  refine HCT.out.mono ?_
  rintro e w3 ⟨A3,c3,rfl,h3⟩
  have hcl:(Zq48 J.r.tags k).length≤30:=Nat.le_trans (List.takeWhile_prefix _).length_le HT.out.few
  obtain ⟨v4,w4,hr4,h4⟩:=St.tags_append 65 (h3.keep (Zq6 w3 (.cells #[.int .i64 1048576,.int .i64 1,.int .i64 0,.int .i64 k] 80))) (Zq888 w3 ⟨1048576,1,0,k⟩) (by omega)
  obtain ⟨A4,c4,rfl⟩:=Zq17 h4.row_owns
  rw [flat_snoc] at h4
  have hbad:=HBAD.out
  obtain ⟨bt,hbt⟩:∃ b,b=Zq48 J.r.tags k++[(⟨1048576,1,0,k⟩:Tag)]:=⟨_,rfl⟩
  have hbl:(Zq48 J.r.tags k).length+1=bt.length:=by rw [hbt];simp
  rw [hbl] at hr4 h4
  rw [←hbt] at h4 hbad
  have hb31:bt.length≤31:=by omega
  clear hbt
  obtain ⟨I5,hs5,hr5,h5⟩:=h4.freeze_row
  have hlead:=jlead_spec (m:=0) A4 c4 bt (some J.r) (h5.pull 2 _ rfl) (HT.out.ks.fewer (by have:=HN.out;omega)) HT.out.ok.jb hr5 (by omega) HT.out.ok.jrec
  rw [hbad] at hlead
  have HLD:=Zh hlead
  have HR4:=Zh hr4
  clear h3 h4 h5 hr5 hs5 hr4 hlead hbl hcl hbad HCT HBAD
  go_wp2_with (at_builtin;refine Lib.wpList_append_run _ rfl (.tmp 111) (.tmp 114) 65 65 rfl _ _ rfl rfl _ _ HR4.out ?_)
  refine HLD.out.mono ?_
  rintro e w6 ⟨I6,hs6,rfl,h6⟩
  have HFLU:=Zh (HFLS.out I6 w6 _ h6)
  clear h6 hs6 HLD HFLS HT
  go_wp2_with fail
  refine HFLU.out.mono ?_
  rintro e w26 ⟨I26,hs26,rfl,h26⟩
  have H26:=Zh h26
  clear h26 hs26 HFLU
  go_upto_region 25 with fail
  refine tags_rest (by assumption) (by kernel_rfl) H26.out HJ6.out HA6.out HK6.out HF.out.1 HF.out.2 ?_
  intro _ _ _ _ _ _ _ _ _ _ _ _ _ _ _ _ _ _ _ _ _ _ _ _ _ _ _ _ _ _ _ _ _ _ _ _ _ _ _ _ _ _ _ _ _ _ _ _ _ _ _ _ _ _ _ _ _ _ _ _ _ _ _ _ _ _ _ _ _ _ _ _ _ _ _ _ _ _ _ _ _ _ _ _ _ _ _ _ _ _ _ _ _ _ _ _ _ _ _ _ _ _ _ _ _ _ _ _ _ _ _ _ _ _ _ _ _ _ _ _ _ _ _ _ _ _ _ _ _ _ _ _ _ _ _ _ _ _ _ _ _ _ _ _ _ _ _ _ _ _ _ _ _ _ _ _ _ _ _ _ _ _ _ _ _ _ w27 hb27
  exact HQ.out _ _ _ _ _ _ _ _ _ _ _ _ _ _ _ _ _ _ _ _ _ _ _ _ _ _ _ _ _ _ _ _ _ _ _ _ _ _ _ _ _ _ _ _ _ _ _ _ _ _ _ _ _ _ _ _ _ _ _ _ _ _ _ _ _ _ _ _ _ _ _ _ _ _ _ _ _ _ _ _ _ _ _ _ _ _ _ _ _ _ _ _ _ _ _ _ _ _ _ _ _ _ _ _ _ _ _ _ _ _ _ _ _ _ _ _ _ _ _ _ _ _ _ _ _ _ _ _ _ _ _ _ _ _ _ _ _ _ _ _ _ _ _ _ _ _ _ _ _ _ _ _ _ _ _ _ _ _ _ _ _ _ _ _ _ _ w27 hb27
 ·have hpos1:¬ (0:Int)<(J.l.length:Int):=by omega
  have HFLU:=Zh (HFLS.out I w1 _ (H1.out.pull 2 _ rfl))
  clear HFLS HT H1
  go_wp2_with fail
  refine HFLU.out.mono ?_
  rintro e w26 ⟨I26,hs26,rfl,h26⟩
  have H26:=Zh h26
  clear h26 hs26 HFLU
  go_upto_region 25 with fail
  refine tags_rest (by assumption) (by kernel_rfl) H26.out HJ6.out HA6.out HK6.out HF.out.1 HF.out.2 ?_
  intro _ _ _ _ _ _ _ _ _ _ _ _ _ _ _ _ _ _ _ _ _ _ _ _ _ _ _ _ _ _ _ _ _ _ _ _ _ _ _ _ _ _ _ _ _ _ _ _ _ _ _ _ _ _ _ _ _ _ _ _ _ _ _ _ _ _ _ _ _ _ _ _ _ _ _ _ _ _ _ _ _ _ _ _ _ _ _ _ _ _ _ _ _ _ _ _ _ _ _ _ _ _ _ _ _ _ _ _ _ _ _ _ _ _ _ _ _ _ _ _ _ _ _ _ _ _ _ _ _ _ _ _ _ _ _ _ _ _ _ _ _ _ _ _ _ _ _ _ _ _ _ _ _ _ _ _ _ _ _ _ _ _ _ _ _ _ w27 hb27
  exact HQ.out _ _ _ _ _ _ _ _ _ _ _ _ _ _ _ _ _ _ _ _ _ _ _ _ _ _ _ _ _ _ _ _ _ _ _ _ _ _ _ _ _ _ _ _ _ _ _ _ _ _ _ _ _ _ _ _ _ _ _ _ _ _ _ _ _ _ _ _ _ _ _ _ _ _ _ _ _ _ _ _ _ _ _ _ _ _ _ _ _ _ _ _ _ _ _ _ _ _ _ _ _ _ _ _ _ _ _ _ _ _ _ _ _ _ _ _ _ _ _ _ _ _ _ _ _ _ _ _ _ _ _ _ _ _ _ _ _ _ _ _ _ _ _ _ _ _ _ _ _ _ _ _ _ _ _ _ _ _ _ _ _ _ _ _ _ _ w27 hb27
end
end Go.Proofs.YtpjchngjhijgmaaGreat
