import Derived.Test.YtpjchngjhijgmaaGreatTU06
set_option linter.all false
namespace Go.Proofs.YtpjchngjhijgmaaGreat
open Go.RowKit
section
variable {W w : World} {I : Hp} {l : List HP}
set_option maxRecDepth 4000
set_option maxHeartbeats 8000000
theorem trims_cls {ca cb:Code} {Q:Exit→Act→World→Prop} {K:Act→World→Prop} (hK:∀ x y,cb.wp Tryz.prog Q x y→K x y) (hC:(Tryz.f9).body.bind (fromR 19)=some (.seq ca cb)) {x0 x1 x2 x3 x4 x8 x9 x10 x11 x12 x13 x14 x15 x16 x17 x18 x19 x23 x24 x25 x26 x27 x28 x29 x30 x31 x32 x33 x34 x35 x36 x37 x38 x39 x40 x41 x42 x43 x44 x45 x46 x47 x48 x49 x50 x51 x52 x53 x54 x55 x56 x57 x58 x59 x60 x61 x62 x63 x64 x65 x66 x67 x68 x69 x70 x71 x72 x73 x74 x75 x76 x77 x78 x79 x80 x81 x82 x83 x84 x85 x86 x87 x88 x89 x90 x91 x92 x93 x94 x95 x96 x97 x98 x99 x100 x101 x102 x103 x104 x105 x106 x107 x108 x109 x110 x111 x112 x113 x114 x115 x116 x117 x118 x119 x120 x121 x122 x123 x124 x125 x126 x127 x128 x129 x130 x131 x132 x133 x134 x135 x136 x137 x138 x139 x140 x141 x142 x143 x144 x145 x146 x147 x148 x149 x150 x151 x152 x153 x154 x155 x156 x157 x158 x159 x160 x161 x162 x163 x164 x165 x166 x167 x168 x169 x170 x171 x172 x173 x174 x175 x176 x177 x178 x179 x180 x181 x182 x183 x184 x185 x186 x187 x188 x189 x190 x191 x192 x193 x194 x195 x196 x197 x198 x199 x200 x201 x202 x203 x204 x205 x206 x207 x208 x209 x210 x211 x212 x213 x214 x215 x216 x217 x218 x219 x220 x221 x222 x223 x224 x225 x226 x227 x228 x229 x230 x231 x232 x233 x234 x235 x236 x237 x238 x239 x240 x241 x242 x243 x244 x245 x246 x247 x248 x249 x250 x251 x252 x253 x254 x255:Value} {p q c22 m i:Nat} {one two:Int} {off:Bool} {A22:Option Addr} {S:Str} {J:Jn}
  (h:St W I w (Zq8 p S::jnHP q p J::Zq184 (.slice A22 m c22) (J.l.map (·.data))::l)) (ht:TM S J i) (hi:i≤60) (hm:m=J.l.length)
  (hQ:∀ (y0 y1 y2 y3 y4 y5 y6 y7 y8 y9 y10 y11 y12 y13 y14 y15 y17 y18 y19 y20 y21 y22 y23 y24 y25 y26 y27 y28 y29 y30 y31 y32 y33 y34 y35 y36 y37 y38 y39 y40 y41 y42 y43 y44 y45 y46 y47 y48 y49 y50 y51 y52 y53 y54 y55 y56 y57 y58 y59 y60 y61 y62 y63 y64 y65 y66 y67 y68 y69 y70 y71 y72 y73 y74 y75 y76 y77 y78 y79 y80 y81 y82 y83 y84 y85 y86 y87 y88 y89 y90 y91 y92 y93 y94 y95 y96 y97 y98 y99 y100 y101 y102 y103 y104 y105 y106 y107 y108 y109 y110 y111 y112 y113 y114 y115 y116 y117 y118 y119 y120 y121 y122 y123 y124 y125 y126 y127 y128 y129 y130 y131 y132 y133 y134 y135 y136 y137 y138 y139 y140 y141 y142 y143 y144 y145 y146 y147 y148 y149 y150 y151 y152 y153 y154 y155 y156 y157 y158 y159 y160 y161 y162 y163 y164 y165 y166 y167 y168 y169 y170 y171 y172 y173 y174 y175 y176 y177 y178 y179 y180 y181 y182 y183 y184 y185 y186 y187 y188 y189 y190 y191 y192 y193 y194 y195 y196 y197 y198 y199 y200 y201 y202 y203 y204 y205 y206 y207 y208 y209 y210 y211 y212 y213 y214 y215 y216 y217 y218 y219 y220 y221 y222 y223 y224 y225 y226 y227 y228 y229 y230 y231 y232 y233 y234 y235 y236 y237 y238 y239 y240 y241 y242 y243 y244 y245 y246 y247 y248 y249 y250 y251 y252 y253 y254 y255:Value) (w':World),Below W.heap.size W w'→Q .ret ⟨#[y0,y1,y2,y3,y4,y5,y6,y7,y8,y9,y10,y11,y12,y13,y14,y15,.bool true,y17,y18,y19,y20,y21,y22,y23,y24,y25,y26,y27,y28,y29,y30,y31,y32,y33,y34,y35,y36,y37,y38,y39,y40,y41,y42,y43,y44,y45,y46,y47,y48,y49,y50,y51,y52,y53,y54,y55,y56,y57,y58,y59,y60,y61,y62,y63,y64,y65,y66,y67,y68,y69,y70,y71,y72,y73,y74,y75,y76,y77,y78,y79,y80,y81,y82,y83,y84,y85,y86,y87,y88,y89,y90,y91,y92,y93,y94,y95,y96,y97,y98,y99,y100,y101,y102,y103,y104,y105,y106,y107,y108,y109,y110,y111,y112,y113,y114,y115,y116,y117,y118,y119,y120,y121,y122,y123,y124,y125,y126,y127,y128,y129,y130,y131,y132,y133,y134,y135,y136,y137,y138,y139,y140,y141,y142,y143,y144,y145,y146,y147,y148,y149,y150,y151,y152,y153,y154,y155,y156,y157,y158,y159,y160,y161,y162,y163,y164,y165,y166,y167,y168,y169,y170,y171,y172,y173,y174,y175,y176,y177,y178,y179,y180,y181,y182,y183,y184,y185,y186,y187,y188,y189,y190,y191,y192,y193,y194,y195,y196,y197,y198,y199,y200,y201,y202,y203,y204,y205,y206,y207,y208,y209,y210,y211,y212,y213,y214,y215,y216,y217,y218,y219,y220,y221,y222,y223,y224,y225,y226,y227,y228,y229,y230,y231,y232,y233,y234,y235,y236,y237,y238,y239,y240,y241,y242,y243,y244,y245,y246,y247,y248,y249,y250,y251,y252,y253,y254,y255],[]⟩ w') :
  ca.wp Tryz.prog (Exit.then K Q) ⟨#[x0,x1,x2,x3,x4,.int .i64 one,.int .i64 two,.bool off,x8,x9,x10,x11,x12,x13,x14,x15,x16,x17,x18,x19,.pointer (some ⟨q,0,none⟩),.int .i64 (m:Nat),.slice A22 m c22,x23,x24,x25,x26,x27,x28,x29,x30,x31,x32,x33,x34,x35,x36,x37,x38,x39,x40,x41,x42,x43,x44,x45,x46,x47,x48,x49,x50,x51,x52,x53,x54,x55,x56,x57,x58,x59,x60,x61,x62,x63,x64,x65,x66,x67,x68,x69,x70,x71,x72,x73,x74,x75,x76,x77,x78,x79,x80,x81,x82,x83,x84,x85,x86,x87,x88,x89,x90,x91,x92,x93,x94,x95,x96,x97,x98,x99,x100,x101,x102,x103,x104,x105,x106,x107,x108,x109,x110,x111,x112,x113,x114,x115,x116,x117,x118,x119,x120,x121,x122,x123,x124,x125,x126,x127,x128,x129,x130,x131,x132,x133,x134,x135,x136,x137,x138,x139,x140,x141,x142,x143,x144,x145,x146,x147,x148,x149,x150,x151,x152,x153,x154,x155,x156,x157,x158,x159,x160,x161,x162,x163,x164,x165,x166,x167,x168,x169,x170,x171,x172,x173,x174,x175,x176,x177,x178,x179,x180,x181,x182,x183,x184,x185,x186,x187,x188,x189,x190,x191,x192,x193,x194,x195,x196,x197,x198,x199,x200,x201,x202,x203,x204,x205,x206,x207,x208,x209,x210,x211,x212,x213,x214,x215,x216,x217,x218,x219,x220,x221,x222,x223,x224,x225,x226,x227,x228,x229,x230,x231,x232,x233,x234,x235,x236,x237,x238,x239,x240,x241,x242,x243,x244,x245,x246,x247,x248,x249,x250,x251,x252,x253,x254,x255],[]⟩ w:=by
 injection hC with hC
 injection hC with hC1 hC2
 subst hC1 hC2
 have hlen:=ht.len
 have hm60:m≤60:=by omega
 obtain ⟨x1,hx1⟩:∃ y,one % 256=y:=⟨_,rfl⟩
 obtain ⟨x2,hx2⟩:∃ y,two % 256=y:=⟨_,rfl⟩
 have and1:bits .and .i64 one 255=x1:=(Zq539 one).trans hx1
 have and2:bits .and .i64 two 255=x2:=(Zq539 two).trans hx2
 obtain ⟨M,hM⟩:∃ M:Int,M=(m:Int)+1:=⟨_,rfl⟩
 have hwM:IntKind.i64.wrap ((m:Int)+1)=M:=by rw [IntKind.wrap_i64];omega
 have hM0:¬ M=0:=by omega
 obtain ⟨a,hya⟩:∃ k,x1 % M=k:=⟨_,rfl⟩
 obtain ⟨b,hyb⟩:∃ k,x2 % M=k:=⟨_,rfl⟩
 have hm1:Int.tmod x1 M=a:=by rw [Int.tmod_eq_emod_of_nonneg (by omega)];exact hya
 have hm2:Int.tmod x2 M=b:=by rw [Int.tmod_eq_emod_of_nonneg (by omega)];exact hyb
 have ha0:0≤a∧a<M:=by rw [←hya];exact ⟨Int.emod_nonneg _ hM0,Int.emod_lt_of_pos _ (by omega)⟩
 have hb0:0≤b∧b<M:=by rw [←hyb];exact ⟨Int.emod_nonneg _ hM0,Int.emod_lt_of_pos _ (by omega)⟩
 have hwa:IntKind.i64.wrap a=a:=by rw [IntKind.wrap_i64];omega
 have hwb:IntKind.i64.wrap b=b:=by rw [IntKind.wrap_i64];omega
 obtain ⟨J1,J2,J3,⟨k1,k2⟩,⟨k3,k4⟩,⟨k5,k6⟩,k7,k8,k9,k10⟩:=ht.three (a:=a) (b:=b) off (by omega) (by omega) (by omega)
 have hj0:=ht.ok.safe
 have hs1:=add16_spec 1 a (m:=88000) h.drew ht.ok ht.calm (ht.ks.fewer (by omega))
 rw [k2,k1] at hs1
 have HS1:=Zh hs1
 have K3:=Zh k3
 have K4:=Zh k4
 have K5:=Zh k5
 have K6:=Zh k6
 have K7:=Zh k7
 have K8:=Zh k8
 have K9:=Zh k9
 have K10:=Zh k10
 have HMM:=Zh hm
 have HLEN:=Zh (show J.l.length≤60 by omega)
 have HSF:=Zh hj0
 have HAB:=Zh (And.intro ha0.1 hb0.1)
 have HQ:=Zh hQ
 clear h ht hi hm hQ hlen hx1 hx2 hya hyb k1 k2 k3 k4 k5 k6 k7 k8 k9 k10 hj0 hs1 hM ha0 hb0
 go_wp2_with fail
 refine Zq11 [0,1,2,3,4,5,6,7,8,9,10,11] [] [] (by kernel_rfl) (by kernel_rfl) ?_
 simp only [pickL,Zl6,Zl7]
 repeat (refine Zq14 _ (Or.inl ⟨by rfl,by intro w;go_simp;try with_reducible rfl⟩) ?_;(try simp only [Act.put,List.setIfInBounds_toArray,Zl4,Zl5]))
 refine Zq17 ?_
 repeat still_step
 refine wpStill_nil ?_
 refine NoPanic.normal ?_
 go_wp2_with fail
 refine HS1.out.mono ?_
 rintro e w1 ⟨I1,S1,hs1,rfl,h1,hj1,ha1,hk1⟩
 dsimp only
 have hs2:=add16_spec 2 b (m:=86000) h1 hj1 ha1 (hk1.fewer (by omega))
 rw [K4.out,K3.out] at hs2
 have HS2:=Zh hs2
 clear hs1 h1 hj1 ha1 hk1 hs2 HS1 K3 K4
 go_wp2_with fail
 refine HS2.out.mono ?_
 rintro e w2 ⟨I2,S2,hs2,rfl,h2,hj2,ha2,hk2⟩
 dsimp only
 have hs3:=turn16_spec 2 off (m:=84000) h2 hj2 ha2 (hk2.fewer (by omega))
 rw [K6.out,K5.out] at hs3
 have HS3:=Zh hs3
 clear hs2 h2 hj2 ha2 hk2 hs3 HS2 K5 K6
 go_wp2_with fail
 refine HS3.out.mono ?_
 rintro e w3 ⟨I3,S3,hs3,rfl,h3,hj3,ha3,hk3⟩
 dsimp only
 have hsf:=Zq597 (h3.pull 1 _ rfl) hj3.jb
 rw [K9.out] at hsf
 have HSA:=Zh hsf
 have H3:=Zh h3
 have HJ3:=Zh hj3
 have HA3:=Zh ha3
 have HK3:=Zh hk3
 clear hs3 h3 hj3 ha3 hk3 hsf HS3
 go_wp2_with fail
 refine HSA.out.mono ?_
 rintro e w4 ⟨rfl,hb4⟩
 dsimp only
 have h4:=H3.out.keep hb4
 rw [←K7.out] at h4
 have H4:=Zh h4
 have HMM3:=Zh (show m=J3.l.length by rw [K7.out];exact HMM.out)
 have HLEN3:=Zh (show J3.l.length≤60 by rw [K7.out];exact HLEN.out)
 clear h4 hb4 HSA H3
 cases off with
 | true =>
  have hps:posD J3=min a J.safe:=by rw [K10.out];rfl
  obtain ⟨ps,hpd⟩:∃ x,x=min a J.safe:=⟨_,rfl⟩
  rw [←hpd] at hps
  have HPS:=Zh hps
  have HP0:=Zh (show 0≤ps by have:=HSF.out.1;have:=HAB.out.1;omega)
  clear hps
  go_upto_region 25 with fail
  rw [←hpd]
  clear hpd
  refine trims_mid (by assumption) (by kernel_rfl) H4.out HJ3.out HA3.out (HK3.out.fewer (by omega)) K8.out HPS.out HLEN3.out HMM3.out HP0.out ?_
  intro _ _ _ _ _ _ _ _ _ _ _ _ _ _ _ _ _ _ _ _ _ _ _ _ _ _ _ _ _ _ _ _ _ _ _ _ _ _ _ _ _ _ _ _ _ _ _ _ _ _ _ _ _ _ _ _ _ _ _ _ _ _ _ _ _ _ _ _ _ _ _ _ _ _ _ _ _ _ _ _ _ _ _ _ _ _ _ _ _ _ _ _ _ _ _ _ _ _ _ _ _ _ _ _ _ _ _ _ _ _ _ _ _ _ _ _ _ _ _ _ _ _ _ _ _ _ _ _ _ _ _ _ _ _ _ _ _ _ _ _ _ _ _ _ _ _ _ _ _ _ _ _ _ _ _ _ _ _ _ _ _ _ _ _ _ _ _ _ _ _ _ _ _ _ _ _ _ _ _ _ _ _ _ _ _ _ _ _ _ _ _ _ _ _ _ _ _ _ _ _ _ _ _ _ _ _ _ _ _ _ _ _ _ _ _ _ _ _ _ _ _ _ _ _ _ _ _ _ _ _ _ _ _ _ _ _ _ _ _ _ _ _ _ _ _ _ _ _ _ _ _ _ _ _ _ w9 hb9
  exact HQ.out _ _ _ _ _ _ _ _ _ _ _ _ _ _ _ _ _ _ _ _ _ _ _ _ _ _ _ _ _ _ _ _ _ _ _ _ _ _ _ _ _ _ _ _ _ _ _ _ _ _ _ _ _ _ _ _ _ _ _ _ _ _ _ _ _ _ _ _ _ _ _ _ _ _ _ _ _ _ _ _ _ _ _ _ _ _ _ _ _ _ _ _ _ _ _ _ _ _ _ _ _ _ _ _ _ _ _ _ _ _ _ _ _ _ _ _ _ _ _ _ _ _ _ _ _ _ _ _ _ _ _ _ _ _ _ _ _ _ _ _ _ _ _ _ _ _ _ _ _ _ _ _ _ _ _ _ _ _ _ _ _ _ _ _ _ _ _ _ _ _ _ _ _ _ _ _ _ _ _ _ _ _ _ _ _ _ _ _ _ _ _ _ _ _ _ _ _ _ _ _ _ _ _ _ _ _ _ _ _ _ _ _ _ _ _ _ _ _ _ _ _ _ _ _ _ _ _ _ _ _ _ _ _ _ _ _ _ _ _ _ _ _ _ _ _ _ _ _ _ _ _ _ _ _ _ _ hb9
 | false =>
  have hps:posD J3=min a (min J.safe b):=by rw [K10.out,←Int.min_assoc];rfl
  obtain ⟨ps,hpd⟩:∃ x,x=min a (min J.safe b):=⟨_,rfl⟩
  rw [←hpd] at hps
  have HPS:=Zh hps
  have HP0:=Zh (show 0≤ps by have:=HSF.out.1;have:=HAB.out.1;have:=HAB.out.2;omega)
  clear hps
  go_upto_region 25 with fail
  rw [←hpd]
  clear hpd
  refine trims_mid (by assumption) (by kernel_rfl) H4.out HJ3.out HA3.out (HK3.out.fewer (by omega)) K8.out HPS.out HLEN3.out HMM3.out HP0.out ?_
  intro _ _ _ _ _ _ _ _ _ _ _ _ _ _ _ _ _ _ _ _ _ _ _ _ _ _ _ _ _ _ _ _ _ _ _ _ _ _ _ _ _ _ _ _ _ _ _ _ _ _ _ _ _ _ _ _ _ _ _ _ _ _ _ _ _ _ _ _ _ _ _ _ _ _ _ _ _ _ _ _ _ _ _ _ _ _ _ _ _ _ _ _ _ _ _ _ _ _ _ _ _ _ _ _ _ _ _ _ _ _ _ _ _ _ _ _ _ _ _ _ _ _ _ _ _ _ _ _ _ _ _ _ _ _ _ _ _ _ _ _ _ _ _ _ _ _ _ _ _ _ _ _ _ _ _ _ _ _ _ _ _ _ _ _ _ _ _ _ _ _ _ _ _ _ _ _ _ _ _ _ _ _ _ _ _ _ _ _ _ _ _ _ _ _ _ _ _ _ _ _ _ _ _ _ _ _ _ _ _ _ _ _ _ _ _ _ _ _ _ _ _ _ _ _ _ _ _ _ _ _ _ _ _ _ _ _ _ _ _ _ _ _ _ _ _ _ _ _ _ _ _ _ _ _ _ w9 hb9
  exact HQ.out _ _ _ _ _ _ _ _ _ _ _ _ _ _ _ _ _ _ _ _ _ _ _ _ _ _ _ _ _ _ _ _ _ _ _ _ _ _ _ _ _ _ _ _ _ _ _ _ _ _ _ _ _ _ _ _ _ _ _ _ _ _ _ _ _ _ _ _ _ _ _ _ _ _ _ _ _ _ _ _ _ _ _ _ _ _ _ _ _ _ _ _ _ _ _ _ _ _ _ _ _ _ _ _ _ _ _ _ _ _ _ _ _ _ _ _ _ _ _ _ _ _ _ _ _ _ _ _ _ _ _ _ _ _ _ _ _ _ _ _ _ _ _ _ _ _ _ _ _ _ _ _ _ _ _ _ _ _ _ _ _ _ _ _ _ _ _ _ _ _ _ _ _ _ _ _ _ _ _ _ _ _ _ _ _ _ _ _ _ _ _ _ _ _ _ _ _ _ _ _ _ _ _ _ _ _ _ _ _ _ _ _ _ _ _ _ _ _ _ _ _ _ _ _ _ _ _ _ _ _ _ _ _ _ _ _ _ _ _ _ _ _ _ _ _ _ _ _ _ _ _ _ _ _ _ _ hb9
theorem journalTrims_walk (a b c safe one two:Int) (off:Bool) (v3:Value) (ls:List (List Int)) (W:World) (hr3:RowsI W.hp v3 ls) :
  Calls Tryz.prog 9 #[.int .i64 a,.int .i64 b,.int .i64 c,v3,.int .i64 safe,.int .i64 one,.int .i64 two,.bool off] W fun e w'=>e=.returned (.bool true)∧Below W.heap.size W w':=by
 obtain ⟨A3,c3,rfl,hx1,hx2,hx3⟩:=hr3.slice
 clear hx1 hx2 hx3
 have HSH3:=Zh (Zq393 _ ls 60 100 W hr3)
 have HBY3:=Zh (show ∀ p ∈ ls,∀ y ∈ p,isByte y by obtain ⟨_,_,_,_,hq⟩:=hr3;exact fun p hp=>(hq p hp).1)
 have HR3:=Zh hr3
 clear hr3
 obtain ⟨s3,hs3⟩:∃ x,x=Zq403 ls 60 100:=⟨_,rfl⟩
 rw [←hs3] at HSH3
 have HS3:=Zh hs3
 clear hs3
 go_enter Tryz.func9,Tryz.ntmps9
 go_wp2_with fail
 refine HSH3.out.mono ?_
 rintro e w1 ⟨rfl,rfl⟩
 dsimp only
 clear HSH3
 cases s3 with
 | false =>
  go_wp2_with fail
  refine (Zq182 _).mono ?_
  rintro e w9 ⟨rfl,hb9⟩
  dsimp only
  have HB9:=Zh hb9
  clear hb9
  go_wp2_with fail
  go_ret
  exact ⟨rfl,HB9.out⟩
 | true =>
 have hl3:ls.length≤60:=by
  have h:=HS3.out
  unfold Zq403 at h
  have:=(Bool.and_eq_true_iff.1 h.symm).2
  rw [decide_eq_true_eq] at this
  omega
 have HROW3:=Zh (Zq295 _ ls (St.init W) HR3.out (by omega))
 go_wp2_with fail
 refine HROW3.out.mono ?_
 rintro e w2 ⟨I2,B3,k3,B4,k4,ps,ns,hs2,hps,hns,rfl,hr2,hi2,h2⟩
 dsimp only
 have hpf:∀ p ∈ ps,(1≤p.length∧p.length≤90)∧∀ y ∈ p,isByte y:=by rw [hps];exact Zq296 HBY3.out
 have hpl:ps.length≤60:=by rw [hps,List.length_map];exact hl3
 obtain ⟨C,hC⟩:∃ x,x=ringK a b c:=⟨_,rfl⟩
 have HCO:=Zh (show C.okB=true by rw [hC];exact Zq777 a b c)
 have hrk:=Zq708 a b c w2
 rw [←hC] at hrk
 unfold Rg.val at hrk
 have HRK:=Zh hrk
 have HPF:=Zh hpf
 have HRP:=Zh hr2
 have H2:=Zh h2
 clear hps hns hr2 hi2 h2 hpf hrk hC HROW3 HR3 hs2 hl3
 go_wp2_with fail
 refine HRK.out.mono ?_
 rintro e w4 ⟨rfl,hb4⟩
 dsimp only
 have h4:=H2.out.keep hb4
 have HG:=Zh (Zq709 (at':=0) HCO.out (by omega))
 have hfil:=Zq392 C 0 (.slice none 0 0) [] [] h4 (Zq763 _ _) (fun i p hp=>by simp at hp) (fun p hp=>by cases hp) (by decide) HG.out
 unfold Rg.val at hfil
 have HFIL:=Zh hfil
 clear hb4 h4 hfil H2 HRK
 go_wp2_with fail
 refine HFIL.out.mono ?_
 rintro e w5 ⟨I5,p,q,S,J,k,hs5,rfl,h5,hj5,ha5,hk5,S0,hj0,ha0,hf0⟩
 dsimp only
 have hf0:(S0,Zq64 (Zq99 C 0 [tag1]),0)=(S,J,k):=hf0
 simp only [Prod.mk.injEq] at hf0
 obtain ⟨rfl,rfl,rfl⟩:=hf0
 have HT:=Zh (TM.start HG.out hj0 ha0 hk5)
 have H5:=Zh h5
 have HR5:=Zh (HRP.out.mono hs5)
 obtain ⟨y,hy⟩:∃ y,safe % 256=y:=⟨_,rfl⟩
 have hand:bits .and .i64 safe 255=y:=(Zq539 safe).trans hy
 obtain ⟨M,hM⟩:∃ M:Int,M=(ps.length:Int)+1:=⟨_,rfl⟩
 have hwM:IntKind.i64.wrap ((ps.length:Int)+1)=M:=by rw [IntKind.wrap_i64];omega
 have hM0:¬ M=0:=by omega
 obtain ⟨sf,hsf⟩:∃ k,y % M=k:=⟨_,rfl⟩
 have hmod:Int.tmod y M=sf:=by rw [Int.tmod_eq_emod_of_nonneg (by omega)];exact hsf
 have hwk:IntKind.i64.wrap sf=sf:=by
  have h1:=Int.emod_nonneg y hM0
  have h2:=Int.emod_lt_of_pos y (show 0<M by omega)
  rw [IntKind.wrap_i64];omega
 clear hs5 h5 hj5 ha5 hk5 hj0 ha0 HFIL HG HCO HRP HBY3 hy hM hsf
 go_upto_region 9 with fail
 refine trims_loop1 (by assumption) (by kernel_rfl) H5.out HR5.out HT.out hpl HPF.out ?_
 intro _ _ _ _ _ _ _ _ _ _ _ _ _ _ _ _ _ _ _ _ _ _ _ _ _ _ _ _ _ _ _ _ _ _ _ _ _ _ _ _ _ _ _ _ _ _ _ _ _ _ _ _ _ _ _ _ _ _ _ _ _ _ _ _ _ _ _ _ _ _ _ _ _ _ _ _ _ _ _ _ _ _ _ _ _ _ _ _ _ _ _ _ _ _ _ _ _ _ _ _ _ _ _ _ _ _ _ _ _ _ _ _ _ _ _ _ _ _ _ _ _ _ _ _ _ _ _ _ _ _ _ _ _ _ _ _ _ _ _ _ _ _ _ _ _ _ _ _ _ _ _ _ _ _ _ _ _ _ _ _ _ _ _ _ _ _ _ _ _ _ _ _ _ _ _ _ _ _ _ _ _ _ _ _ _ _ _ _ _ _ _ _ _ _ _ _ _ _ _ _ _ _ _ _ _ _ _ _ _ _ _ _ _ _ _ _ _ _ _ _ _ _ _ _ _ _ _ _ _ _ _ _ _ _ _ _ _ _ _ _ _ _ _ _ _ _ _ _ _ _ I8 w8 S8 J8 A8 c8 n8 hn8 hs8 h8 ht8
 have H8:=Zh (h8.pull 1 _ rfl |>.pull 2 _ rfl |>.pull 1 _ rfl)
 have HT8:=Zh ht8
 have HN8:=Zh hn8
 clear hs8 h8 ht8 hn8 H5 HT HR5 HPF
 go_upto_region 19 with fail
 refine trims_cls (by assumption) (by kernel_rfl) (by rw [HN8.out];exact H8.out) HT8.out hpl HN8.out ?_
 intro _ _ _ _ _ _ _ _ _ _ _ _ _ _ _ _ _ _ _ _ _ _ _ _ _ _ _ _ _ _ _ _ _ _ _ _ _ _ _ _ _ _ _ _ _ _ _ _ _ _ _ _ _ _ _ _ _ _ _ _ _ _ _ _ _ _ _ _ _ _ _ _ _ _ _ _ _ _ _ _ _ _ _ _ _ _ _ _ _ _ _ _ _ _ _ _ _ _ _ _ _ _ _ _ _ _ _ _ _ _ _ _ _ _ _ _ _ _ _ _ _ _ _ _ _ _ _ _ _ _ _ _ _ _ _ _ _ _ _ _ _ _ _ _ _ _ _ _ _ _ _ _ _ _ _ _ _ _ _ _ _ _ _ _ _ _ _ _ _ _ _ _ _ _ _ _ _ _ _ _ _ _ _ _ _ _ _ _ _ _ _ _ _ _ _ _ _ _ _ _ _ _ _ _ _ _ _ _ _ _ _ _ _ _ _ _ _ _ _ _ _ _ _ _ _ _ _ _ _ _ _ _ _ _ _ _ _ _ _ _ _ _ _ _ _ _ _ _ _ _ _ _ _ _ _ w9 hb9
 have HB9:=Zh hb9
 clear hb9
 go_ret
 exact ⟨rfl,HB9.out⟩
end
end Go.Proofs.YtpjchngjhijgmaaGreat
