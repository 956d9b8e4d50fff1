import Derived.Test.YtpjchngjhijgmaaGreatJM36
set_option linter.all false
namespace Go.Proofs.YtpjchngjhijgmaaGreat
open Go.RowKit
def newE (J:Jn) (d:List Int):En:=⟨tagOf J.r.tags (endJ J+1),endJ J+1,d⟩
def madeS (S:Str) (k:K4):Int × Str:=if whyS S k≠0 then makeS S k else (0,S)
def Zq99 (S:Str) (J:Jn) (d:List Int):(Int × Int) × Str × Jn :=
 if mayJ S J≠0 then ((0,mayJ S J),S,mayJ2 S J)
 else if d.length<1∨90<d.length then ((0,1),S,J)
 else if fitsJ J [(d.length:Int)]=false then ((0,6),S,J)
 else if (madeS S (keyOf J.r.shape (rput J.r.shape J.fill (endJ J+1) d.length).2.1)).1≠0 then
  ((0,(madeS S (keyOf J.r.shape (rput J.r.shape J.fill (endJ J+1) d.length).2.1)).1),(madeS S (keyOf J.r.shape (rput J.r.shape J.fill (endJ J+1) d.length).2.1)).2,endsJ J (madeS S (keyOf J.r.shape (rput J.r.shape J.fill (endJ J+1) d.length).2.1)).1)
 else if (Zq56 (madeS S (keyOf J.r.shape (rput J.r.shape J.fill (endJ J+1) d.length).2.1)).2 (keyOf J.r.shape (rput J.r.shape J.fill (endJ J+1) d.length).2.1) (Zq46 (newE J d))).1≠0 then
  ((0,(Zq56 (madeS S (keyOf J.r.shape (rput J.r.shape J.fill (endJ J+1) d.length).2.1)).2 (keyOf J.r.shape (rput J.r.shape J.fill (endJ J+1) d.length).2.1) (Zq46 (newE J d))).1),
    (Zq56 (madeS S (keyOf J.r.shape (rput J.r.shape J.fill (endJ J+1) d.length).2.1)).2 (keyOf J.r.shape (rput J.r.shape J.fill (endJ J+1) d.length).2.1) (Zq46 (newE J d))).2,
    endsJ J (Zq56 (madeS S (keyOf J.r.shape (rput J.r.shape J.fill (endJ J+1) d.length).2.1)).2 (keyOf J.r.shape (rput J.r.shape J.fill (endJ J+1) d.length).2.1) (Zq46 (newE J d))).1)
 else ((endJ J+1,0),(Zq56 (madeS S (keyOf J.r.shape (rput J.r.shape J.fill (endJ J+1) d.length).2.1)).2 (keyOf J.r.shape (rput J.r.shape J.fill (endJ J+1) d.length).2.1) (Zq46 (newE J d))).2,
  addJ J (newE J d) (rput J.r.shape J.fill (endJ J+1) d.length).2.1 (rput J.r.shape J.fill (endJ J+1) d.length).1)
section
variable {W w w' : World} {I : Hp} {l : List HP} {p q : Nat} {J : Jn} {S : Str}
set_option maxRecDepth 8000
set_option maxHeartbeats 8000000
theorem Zq744 {C:Code} (hC:(Tryz.f24).body.bind (fromR 18)=some C) {Q:Exit→Act→World→Prop} {x1 x2 x3 x4 x5 x6 x10 x13 x15 x16 x17 x18 x19 x20 x21 x22 x23 x24 x25 x26 x27 x28 x29 x30 x31 x32 x33 x34 x35 x36 x37 x38 x39 x40 x41 x42 x43 x44 x45 x46 x47 x48 x49 x50 x51 x52 x53 x54 x55 x56 x57 x58 x59 x60 x61 x62 x63 x64 x65 x66 x67 x68 x69 x70 x71 x72 x73 x74 x75 x76 x77 x78 x79 x80 x81 x82 x83 x84 x85 x86 x87 x88 x89 x90 x91 x92 x93 x94 x95 x96 x97 x98 x99 x100 x101 x102 x103 x104 x105 x106 x107 x108 x109 x110 x111 x112 x113 x114 x115 x116 x117 x118 x119 x120 x121 x122 x123 x124 x125 x126 x127 x128 x129 x130 x131 x132 x133 x134 x135 x136 x137 x138 x139 x140 x141 x142 x143 x144 x145 x146 x147 x148 x149 x150:Value} {g8 g11 g12 g14:Nat} {tg sq s1 v0 v1 v2 v3 pa po:Int} {d fb:List Int} {Ad Af:Option Addr} {cd cf:Nat} {k:K4} {m:Nat}
  (h:St W I w (Zq10 p S::jnHP q p J::HP.pt g8 (.cells #[.int .i64 tg,.int .i64 sq,.slice Ad d.length cd] 50)::HP.pt g11 (.cells #[.int .i64 s1,.int .i64 v0,.int .i64 v1,.int .i64 v2,.int .i64 v3] 108)::HP.pt g12 (.cells #[.int .i64 pa,.int .i64 po] 41)::HP.pt g14 (.cells #[.int .i64 k.kind,.int .i64 k.img,.int .i64 k.num,.int .i64 k.snap] 43)::l)) (hk:Keeps S m) (hl:J.at_.length=J.l.length) (hn:J.l.length≤100000) (hd:BytesI I (.slice Ad d.length cd) d) (hdb:∀ y ∈ d,isByte y)
  (hf:BytesI I (.slice Af fb.length cf) fb) (hfl:fb.length≤1000) (h6:(Zq56 S k fb).1≠6)
  (hQ1:(Zq56 S k fb).1≠0→∀ (y0 y1 y2 y3 y6 y7 y8 y9 y10 y11 y12 y13 y14 y15 y16 y17 y18 y19 y20 y21 y22 y23 y24 y25 y26 y27 y28 y29 y30 y31 y32 y33 y34 y35 y36 y37 y38 y39 y40 y41 y42 y43 y44 y45 y46 y47 y48 y49 y50 y51 y52 y53 y54 y55 y56 y57 y58 y59 y60 y61 y62 y63 y64 y65 y66 y67 y68 y69 y70 y71 y72 y73 y74 y75 y76 y77 y78 y79 y80 y81 y82 y83 y84 y85 y86 y87 y88 y89 y90 y91 y92 y93 y94 y95 y96 y97 y98 y99 y100 y101 y102 y103 y104 y105 y106 y107 y108 y109 y110 y111 y112 y113 y114 y115 y116 y117 y118 y119 y120 y121 y122 y123 y124 y125 y126 y127 y128 y129 y130 y131 y132 y133 y134 y135 y136 y137 y138 y139 y140 y141 y142 y143 y144 y145 y146 y147 y148 y149 y150:Value) (I':Hp) (w':World),I.sub I'→St W I' w' (Zq10 p (Zq56 S k fb).2::jnHP q p (endsJ J (Zq56 S k fb).1)::l)→Q .ret ⟨#[y0,y1,y2,y3,.int .i64 0,.int .i64 (Zq56 S k fb).1,y6,y7,y8,y9,y10,y11,y12,y13,y14,y15,y16,y17,y18,y19,y20,y21,y22,y23,y24,y25,y26,y27,y28,y29,y30,y31,y32,y33,y34,y35,y36,y37,y38,y39,y40,y41,y42,y43,y44,y45,y46,y47,y48,y49,y50,y51,y52,y53,y54,y55,y56,y57,y58,y59,y60,y61,y62,y63,y64,y65,y66,y67,y68,y69,y70,y71,y72,y73,y74,y75,y76,y77,y78,y79,y80,y81,y82,y83,y84,y85,y86,y87,y88,y89,y90,y91,y92,y93,y94,y95,y96,y97,y98,y99,y100,y101,y102,y103,y104,y105,y106,y107,y108,y109,y110,y111,y112,y113,y114,y115,y116,y117,y118,y119,y120,y121,y122,y123,y124,y125,y126,y127,y128,y129,y130,y131,y132,y133,y134,y135,y136,y137,y138,y139,y140,y141,y142,y143,y144,y145,y146,y147,y148,y149,y150],[]⟩ w')
  (hQ2:(Zq56 S k fb).1=0→∀ (y1 y2 y3 y4 y5 y6 y9 y10 y13 y14 y15 y16 y17 y18 y19 y20 y21 y22 y23 y24 y25 y26 y27 y28 y29 y30 y31 y32 y33 y34 y35 y36 y37 y38 y39 y40 y41 y42 y43 y44 y45 y46 y47 y48 y49 y50 y51 y52 y53 y54 y55 y56 y57 y58 y59 y60 y61 y62 y63 y64 y65 y66 y67 y68 y69 y70 y71 y72 y73 y74 y75 y76 y77 y78 y79 y80 y81 y82 y83 y84 y85 y86 y87 y88 y89 y90 y91 y92 y93 y94 y95 y96 y97 y98 y99 y100 y101 y102 y103 y104 y105 y106 y107 y108 y109 y110 y111 y112 y113 y114 y115 y116 y117 y118 y119 y120 y121 y122 y123 y124 y125 y126 y127 y128 y129 y130 y131 y132 y133 y134 y135 y136 y137 y138 y139 y140 y141 y142 y143 y144 y145 y146 y147 y148 y149 y150:Value) (I':Hp) (w':World),I.sub I'→St W I' w' (Zq10 p (Zq56 S k fb).2::jnHP q p J::HP.pt g8 (.cells #[.int .i64 tg,.int .i64 sq,.slice Ad d.length cd] 50)::HP.pt g11 (.cells #[.int .i64 s1,.int .i64 v0,.int .i64 v1,.int .i64 v2,.int .i64 v3] 108)::HP.pt g12 (.cells #[.int .i64 pa,.int .i64 po] 41)::l)→Q .normal ⟨#[.pointer (some ⟨q,0,none⟩),y1,y2,y3,y4,y5,y6,.int .i64 sq,.pointer (some ⟨g8,0,none⟩),y9,y10,.pointer (some ⟨g11,0,none⟩),.pointer (some ⟨g12,0,none⟩),y13,y14,y15,y16,y17,y18,y19,y20,y21,y22,y23,y24,y25,y26,y27,y28,y29,y30,y31,y32,y33,y34,y35,y36,y37,y38,y39,y40,y41,y42,y43,y44,y45,y46,y47,y48,y49,y50,y51,y52,y53,y54,y55,y56,y57,y58,y59,y60,y61,y62,y63,y64,y65,y66,y67,y68,y69,y70,y71,y72,y73,y74,y75,y76,y77,y78,y79,y80,y81,y82,y83,y84,y85,y86,y87,y88,y89,y90,y91,y92,y93,y94,y95,y96,y97,y98,y99,y100,y101,y102,y103,y104,y105,y106,y107,y108,y109,y110,y111,y112,y113,y114,y115,y116,y117,y118,y119,y120,y121,y122,y123,y124,y125,y126,y127,y128,y129,y130,y131,y132,y133,y134,y135,y136,y137,y138,y139,y140,y141,y142,y143,y144,y145,y146,y147,y148,y149,y150],[]⟩ w') :
  C.wp Tryz.prog Q ⟨#[.pointer (some ⟨q,0,none⟩),x1,x2,x3,x4,x5,x6,.int .i64 sq,.pointer (some ⟨g8,0,none⟩),.slice Af fb.length cf,x10,.pointer (some ⟨g11,0,none⟩),.pointer (some ⟨g12,0,none⟩),x13,.pointer (some ⟨g14,0,none⟩),x15,x16,x17,x18,x19,x20,x21,x22,x23,x24,x25,x26,x27,x28,x29,x30,x31,x32,x33,x34,x35,x36,x37,x38,x39,x40,x41,x42,x43,x44,x45,x46,x47,x48,x49,x50,x51,x52,x53,x54,x55,x56,x57,x58,x59,x60,x61,x62,x63,x64,x65,x66,x67,x68,x69,x70,x71,x72,x73,x74,x75,x76,x77,x78,x79,x80,x81,x82,x83,x84,x85,x86,x87,x88,x89,x90,x91,x92,x93,x94,x95,x96,x97,x98,x99,x100,x101,x102,x103,x104,x105,x106,x107,x108,x109,x110,x111,x112,x113,x114,x115,x116,x117,x118,x119,x120,x121,x122,x123,x124,x125,x126,x127,x128,x129,x130,x131,x132,x133,x134,x135,x136,x137,x138,x139,x140,x141,x142,x143,x144,x145,x146,x147,x148,x149,x150],[]⟩ w:=by
 injection hC with hC
 subst hC
 have hap:=Zq540 k (.slice Af fb.length cf) fb h.drew hk (Zq29 h.drew hf) (by omega)
 obtain ⟨x0,lq⟩:=(h.drew.pull 1 _ rfl).jn_ptr
 obtain ⟨x1,x2,x3,x4⟩:=Zq410 (h.drew.pull 5 _ rfl)
 obtain ⟨⟨a,S9⟩,ha⟩:∃ x,x=Zq56 S k fb:=⟨_,rfl⟩
 rw [←ha] at hap h6 hQ1 hQ2
 have HAP:=Zh hap
 have HQ1:=Zh hQ1
 have HQ2:=Zh hQ2
 have HL:=Zh hl
 have HN:=Zh hn
 have HD:=Zh hd
 have HDB:=Zh hdb
 obtain ⟨k0,k1,k2,k3⟩:=k
 simp only [K4.val] at HAP
 simp only at x1 x2 x3 x4
 clear h hap hQ1 hQ2 hl hn hd hdb hf hfl ha
 go_upto_region 18 with fail
 refine Zq11 [0,1,2,5] [3,4] [6,7] (by kernel_rfl) (by kernel_rfl) ?_
 simp only [pickL,Zl6,Zl7]
 repeat (refine Zq13 _ (Or.inl ⟨by rfl,by intro w;go_simp;try with_reducible rfl⟩) ?_;(try simp only [Act.put,List.setIfInBounds_toArray,Zl4,Zl5]))
 refine Zq15 ?_
 repeat still_step
 refine wpStill_nil ?_
 clear x0 x1 x2 x3 x4 lq
 go_wp2_with fail
 refine HAP.out.mono ?_
 rintro e w2 ⟨I2,s2,rfl,h2⟩
 have H2:=Zh h2
 have S2:=Zh s2
 clear h2 s2 HAP
 by_cases ha0:a=0
 ·subst ha0
  have HQ3:=Zh (HQ2.out (by first|rfl|trivial))
  clear HQ1 HQ2
  go_wp2_with fail
  refine NoPanic.normal ?_
  go_wp2_with fail
  exact HQ3.out _ _ _ _ _ _ _ _ _ _ _ _ _ _ _ _ _ _ _ _ _ _ _ _ _ _ _ _ _ _ _ _ _ _ _ _ _ _ _ _ _ _ _ _ _ _ _ _ _ _ _ _ _ _ _ _ _ _ _ _ _ _ _ _ _ _ _ _ _ _ _ _ _ _ _ _ _ _ _ _ _ _ _ _ _ _ _ _ _ _ _ _ _ _ _ _ _ _ _ _ _ _ _ _ _ _ _ _ _ _ _ _ _ _ _ _ _ _ _ _ _ _ _ _ _ _ _ _ _ _ _ _ _ _ _ _ _ _ _ _ _ _ _ _ _ _ I2 w2 S2.out (St.perm (m:=HP.pt g14 (.cells #[.int .i64 k0,.int .i64 k1,.int .i64 k2,.int .i64 k3] 43)::Zq10 p S9::jnHP q p J::HP.pt g8 (.cells #[.int .i64 tg,.int .i64 sq,.slice Ad d.length cd] 50)::HP.pt g11 (.cells #[.int .i64 s1,.int .i64 v0,.int .i64 v1,.int .i64 v2,.int .i64 v3] 108)::HP.pt g12 (.cells #[.int .i64 pa,.int .i64 po] 41)::l) H2.out (by ((try simp only [Zl0,Zl1,Zl2,Zl3]);repeat (first|with_reducible exact List.Perm.refl _|(apply Zq4;(· repeat (first|with_reducible exact Zq3|with_reducible apply Zq2))))))).drop
 ·have HQ3:=Zh (HQ1.out ha0)
  have hne:(a != 0)=true:=by simpa using ha0
  have hn6:(a==6)=false:=by simpa using h6
  have HE:=Zh (Zq161 a (H2.out.pull 1 _ rfl))
  clear HQ1 HQ2
  go_wp2_with fail
  refine NoPanic.normal ?_
  go_upto_region 20 with fail
  go_quiet (fail)
  go_upto_region 22 with fail
  go_wp2_with fail
  have H3:=Zh ((H2.out.drewN nq).pull 1 _ rfl)
  refine (Zq161 a H3.out).mono ?_
  rintro e w4 ⟨rfl,h4⟩
  have H4:=Zh (h4.pull 1 _ rfl)
  clear h4 H3
  go_wp2_with fail
  refine HQ3.out _ _ _ _ _ _ _ _ _ _ _ _ _ _ _ _ _ _ _ _ _ _ _ _ _ _ _ _ _ _ _ _ _ _ _ _ _ _ _ _ _ _ _ _ _ _ _ _ _ _ _ _ _ _ _ _ _ _ _ _ _ _ _ _ _ _ _ _ _ _ _ _ _ _ _ _ _ _ _ _ _ _ _ _ _ _ _ _ _ _ _ _ _ _ _ _ _ _ _ _ _ _ _ _ _ _ _ _ _ _ _ _ _ _ _ _ _ _ _ _ _ _ _ _ _ _ _ _ _ _ _ _ _ _ _ _ _ _ _ _ _ _ _ _ _ _ _ _ _ I2 w4 S2.out (St.perm (m:=HP.pt g8 (.cells #[.int .i64 tg,.int .i64 sq,.slice Ad d.length cd] 50)::HP.pt g11 (.cells #[.int .i64 s1,.int .i64 v0,.int .i64 v1,.int .i64 v2,.int .i64 v3] 108)::HP.pt g12 (.cells #[.int .i64 pa,.int .i64 po] 41)::HP.pt g14 (.cells #[.int .i64 k0,.int .i64 k1,.int .i64 k2,.int .i64 k3] 43)::Zq10 p S9::jnHP q p (endsJ J a)::l) H4.out (by ((try simp only [Zl0,Zl1,Zl2,Zl3]);repeat (first|with_reducible exact List.Perm.refl _|(apply Zq4;(· repeat (first|with_reducible exact Zq3|with_reducible apply Zq2))))))).drop.drop.drop.drop
theorem Zq745 {C:Code} (hC:(Tryz.f24).body.bind (fromR 14)=some C) {Q:Exit→Act→World→Prop} {x1 x2 x3 x4 x5 x6 x10 x13 x15 x17 x18 x19 x20 x21 x22 x23 x24 x25 x26 x27 x28 x29 x30 x31 x32 x33 x34 x35 x36 x37 x38 x39 x40 x41 x42 x43 x44 x45 x46 x47 x48 x49 x50 x51 x52 x53 x54 x55 x56 x57 x58 x59 x60 x61 x62 x63 x64 x65 x66 x67 x68 x69 x70 x71 x72 x73 x74 x75 x76 x77 x78 x79 x80 x81 x82 x83 x84 x85 x86 x87 x88 x89 x90 x91 x92 x93 x94 x95 x96 x97 x98 x99 x100 x101 x102 x103 x104 x105 x106 x107 x108 x109 x110 x111 x112 x113 x114 x115 x116 x117 x118 x119 x120 x121 x122 x123 x124 x125 x126 x127 x128 x129 x130 x131 x132 x133 x134 x135 x136 x137 x138 x139 x140 x141 x142 x143 x144 x145 x146 x147 x148 x149 x150:Value} {g8 g11 g12 g14:Nat} {sq wy:Int} {fb:List Int} {Af:Option Addr} {cf:Nat} {k:K4} {m:Nat}
  (h:St W I w (Zq10 p S::jnHP q p J::HP.pt g14 (.cells #[.int .i64 k.kind,.int .i64 k.img,.int .i64 k.num,.int .i64 k.snap] 43)::l)) (hk:Keeps S m) (hwy:wy=whyS S k)
  (hQ1:(madeS S k).1≠0→∀ (y0 y1 y2 y3 y6 y7 y8 y9 y10 y11 y12 y13 y14 y15 y16 y17 y18 y19 y20 y21 y22 y23 y24 y25 y26 y27 y28 y29 y30 y31 y32 y33 y34 y35 y36 y37 y38 y39 y40 y41 y42 y43 y44 y45 y46 y47 y48 y49 y50 y51 y52 y53 y54 y55 y56 y57 y58 y59 y60 y61 y62 y63 y64 y65 y66 y67 y68 y69 y70 y71 y72 y73 y74 y75 y76 y77 y78 y79 y80 y81 y82 y83 y84 y85 y86 y87 y88 y89 y90 y91 y92 y93 y94 y95 y96 y97 y98 y99 y100 y101 y102 y103 y104 y105 y106 y107 y108 y109 y110 y111 y112 y113 y114 y115 y116 y117 y118 y119 y120 y121 y122 y123 y124 y125 y126 y127 y128 y129 y130 y131 y132 y133 y134 y135 y136 y137 y138 y139 y140 y141 y142 y143 y144 y145 y146 y147 y148 y149 y150:Value) (I':Hp) (w':World),I.sub I'→St W I' w' (Zq10 p (madeS S k).2::jnHP q p (endsJ J (madeS S k).1)::HP.pt g14 (.cells #[.int .i64 k.kind,.int .i64 k.img,.int .i64 k.num,.int .i64 k.snap] 43)::l)→Q .ret ⟨#[y0,y1,y2,y3,.int .i64 0,.int .i64 (madeS S k).1,y6,y7,y8,y9,y10,y11,y12,y13,y14,y15,y16,y17,y18,y19,y20,y21,y22,y23,y24,y25,y26,y27,y28,y29,y30,y31,y32,y33,y34,y35,y36,y37,y38,y39,y40,y41,y42,y43,y44,y45,y46,y47,y48,y49,y50,y51,y52,y53,y54,y55,y56,y57,y58,y59,y60,y61,y62,y63,y64,y65,y66,y67,y68,y69,y70,y71,y72,y73,y74,y75,y76,y77,y78,y79,y80,y81,y82,y83,y84,y85,y86,y87,y88,y89,y90,y91,y92,y93,y94,y95,y96,y97,y98,y99,y100,y101,y102,y103,y104,y105,y106,y107,y108,y109,y110,y111,y112,y113,y114,y115,y116,y117,y118,y119,y120,y121,y122,y123,y124,y125,y126,y127,y128,y129,y130,y131,y132,y133,y134,y135,y136,y137,y138,y139,y140,y141,y142,y143,y144,y145,y146,y147,y148,y149,y150],[]⟩ w')
  (hQ2:(madeS S k).1=0→∀ (y1 y2 y3 y4 y5 y6 y10 y13 y15 y16 y17 y18 y19 y20 y21 y22 y23 y24 y25 y26 y27 y28 y29 y30 y31 y32 y33 y34 y35 y36 y37 y38 y39 y40 y41 y42 y43 y44 y45 y46 y47 y48 y49 y50 y51 y52 y53 y54 y55 y56 y57 y58 y59 y60 y61 y62 y63 y64 y65 y66 y67 y68 y69 y70 y71 y72 y73 y74 y75 y76 y77 y78 y79 y80 y81 y82 y83 y84 y85 y86 y87 y88 y89 y90 y91 y92 y93 y94 y95 y96 y97 y98 y99 y100 y101 y102 y103 y104 y105 y106 y107 y108 y109 y110 y111 y112 y113 y114 y115 y116 y117 y118 y119 y120 y121 y122 y123 y124 y125 y126 y127 y128 y129 y130 y131 y132 y133 y134 y135 y136 y137 y138 y139 y140 y141 y142 y143 y144 y145 y146 y147 y148 y149 y150:Value) (I':Hp) (w':World),I.sub I'→St W I' w' (Zq10 p (madeS S k).2::jnHP q p J::HP.pt g14 (.cells #[.int .i64 k.kind,.int .i64 k.img,.int .i64 k.num,.int .i64 k.snap] 43)::l)→Q .normal ⟨#[.pointer (some ⟨q,0,none⟩),y1,y2,y3,y4,y5,y6,.int .i64 sq,.pointer (some ⟨g8,0,none⟩),.slice Af fb.length cf,y10,.pointer (some ⟨g11,0,none⟩),.pointer (some ⟨g12,0,none⟩),y13,.pointer (some ⟨g14,0,none⟩),y15,y16,y17,y18,y19,y20,y21,y22,y23,y24,y25,y26,y27,y28,y29,y30,y31,y32,y33,y34,y35,y36,y37,y38,y39,y40,y41,y42,y43,y44,y45,y46,y47,y48,y49,y50,y51,y52,y53,y54,y55,y56,y57,y58,y59,y60,y61,y62,y63,y64,y65,y66,y67,y68,y69,y70,y71,y72,y73,y74,y75,y76,y77,y78,y79,y80,y81,y82,y83,y84,y85,y86,y87,y88,y89,y90,y91,y92,y93,y94,y95,y96,y97,y98,y99,y100,y101,y102,y103,y104,y105,y106,y107,y108,y109,y110,y111,y112,y113,y114,y115,y116,y117,y118,y119,y120,y121,y122,y123,y124,y125,y126,y127,y128,y129,y130,y131,y132,y133,y134,y135,y136,y137,y138,y139,y140,y141,y142,y143,y144,y145,y146,y147,y148,y149,y150],[]⟩ w') :
  C.wp Tryz.prog Q ⟨#[.pointer (some ⟨q,0,none⟩),x1,x2,x3,x4,x5,x6,.int .i64 sq,.pointer (some ⟨g8,0,none⟩),.slice Af fb.length cf,x10,.pointer (some ⟨g11,0,none⟩),.pointer (some ⟨g12,0,none⟩),x13,.pointer (some ⟨g14,0,none⟩),x15,.int .i64 wy,x17,x18,x19,x20,x21,x22,x23,x24,x25,x26,x27,x28,x29,x30,x31,x32,x33,x34,x35,x36,x37,x38,x39,x40,x41,x42,x43,x44,x45,x46,x47,x48,x49,x50,x51,x52,x53,x54,x55,x56,x57,x58,x59,x60,x61,x62,x63,x64,x65,x66,x67,x68,x69,x70,x71,x72,x73,x74,x75,x76,x77,x78,x79,x80,x81,x82,x83,x84,x85,x86,x87,x88,x89,x90,x91,x92,x93,x94,x95,x96,x97,x98,x99,x100,x101,x102,x103,x104,x105,x106,x107,x108,x109,x110,x111,x112,x113,x114,x115,x116,x117,x118,x119,x120,x121,x122,x123,x124,x125,x126,x127,x128,x129,x130,x131,x132,x133,x134,x135,x136,x137,x138,x139,x140,x141,x142,x143,x144,x145,x146,x147,x148,x149,x150],[]⟩ w:=by
 injection hC with hC
 subst hC
 have hms:madeS S k=if wy≠0 then makeS S k else (0,S):=by rw [hwy];rfl
 by_cases hw0:wy=0
 ·have HM2:=Zh (hms.trans (if_neg (by simp [hw0])))
  subst hw0
  have hq:=hQ2 (by rw [HM2.out])
  rw [HM2.out] at hq
  have HQ:=Zh hq
  have H:=Zh h
  clear hQ1 hQ2 hq h hms hwy hk
  go_wp2_with fail
  exact HQ.out _ _ _ _ _ _ _ _ _ _ _ _ _ _ _ _ _ _ _ _ _ _ _ _ _ _ _ _ _ _ _ _ _ _ _ _ _ _ _ _ _ _ _ _ _ _ _ _ _ _ _ _ _ _ _ _ _ _ _ _ _ _ _ _ _ _ _ _ _ _ _ _ _ _ _ _ _ _ _ _ _ _ _ _ _ _ _ _ _ _ _ _ _ _ _ _ _ _ _ _ _ _ _ _ _ _ _ _ _ _ _ _ _ _ _ _ _ _ _ _ _ _ _ _ _ _ _ _ _ _ _ _ _ _ _ _ _ _ _ _ _ _ _ _ I w (Hp.sub.refl _) H.out
 ·have hne:(wy != 0)=true:=by simpa using hw0
  have hm2:=hms.trans (if_pos hw0)
  rw [hm2] at hQ1 hQ2
  have hmk:=Zq488 k h.drew hk
  obtain ⟨x0,lq⟩:=(h.drew.pull 1 _ rfl).jn_ptr
  obtain ⟨x1,x2,x3,x4⟩:=Zq410 (h.drew.pull 2 _ rfl)
  obtain ⟨⟨a,S9⟩,ha⟩:∃ x,x=makeS S k:=⟨_,rfl⟩
  rw [←ha] at hmk hQ1 hQ2
  have HMK:=Zh hmk
  have HQ1:=Zh hQ1
  have HQ2:=Zh hQ2
  obtain ⟨k0,k1,k2,k3⟩:=k
  simp only [K4.val] at HMK
  simp only at x1 x2 x3 x4
  clear h hmk hQ1 hQ2 ha hm2 hms hwy hk hw0
  go_upto_region 15 with fail
  refine Zq11 [0,1,2] [3,4] [5,6] (by kernel_rfl) (by kernel_rfl) ?_
  simp only [pickL,Zl6,Zl7]
  repeat (refine Zq13 _ (Or.inl ⟨by rfl,by intro w;go_simp;try with_reducible rfl⟩) ?_;(try simp only [Act.put,List.setIfInBounds_toArray,Zl4,Zl5]))
  refine Zq15 ?_
  repeat still_step
  refine wpStill_nil ?_
  clear x0 x1 x2 x3 x4 lq
  go_wp2_with fail
  refine HMK.out.mono ?_
  rintro e w2 ⟨I2,s2,rfl,h2⟩
  have H2:=Zh h2
  have S2:=Zh s2
  clear h2 s2 HMK
  by_cases ha0:a=0
  ·subst ha0
   have HQ3:=Zh (HQ2.out (by first|rfl|trivial))
   clear HQ1 HQ2
   go_wp2_with fail
   refine NoPanic.normal ?_
   go_wp2_with fail
   exact HQ3.out _ _ _ _ _ _ _ _ _ _ _ _ _ _ _ _ _ _ _ _ _ _ _ _ _ _ _ _ _ _ _ _ _ _ _ _ _ _ _ _ _ _ _ _ _ _ _ _ _ _ _ _ _ _ _ _ _ _ _ _ _ _ _ _ _ _ _ _ _ _ _ _ _ _ _ _ _ _ _ _ _ _ _ _ _ _ _ _ _ _ _ _ _ _ _ _ _ _ _ _ _ _ _ _ _ _ _ _ _ _ _ _ _ _ _ _ _ _ _ _ _ _ _ _ _ _ _ _ _ _ _ _ _ _ _ _ _ _ _ _ _ _ _ _ I2 w2 S2.out H2.out
  ·have HQ3:=Zh (HQ1.out ha0)
   have hne2:(a != 0)=true:=by simpa using ha0
   have HE:=Zh (Zq161 a (H2.out.pull 1 _ rfl))
   clear HQ1 HQ2
   go_wp2_with fail
   refine NoPanic.normal ?_
   go_wp2_with fail
   refine HE.out.mono ?_
   rintro e w4 ⟨rfl,h4⟩
   have H4:=Zh (h4.pull 1 _ rfl)
   clear h4 HE
   go_wp2_with fail
   exact HQ3.out _ _ _ _ _ _ _ _ _ _ _ _ _ _ _ _ _ _ _ _ _ _ _ _ _ _ _ _ _ _ _ _ _ _ _ _ _ _ _ _ _ _ _ _ _ _ _ _ _ _ _ _ _ _ _ _ _ _ _ _ _ _ _ _ _ _ _ _ _ _ _ _ _ _ _ _ _ _ _ _ _ _ _ _ _ _ _ _ _ _ _ _ _ _ _ _ _ _ _ _ _ _ _ _ _ _ _ _ _ _ _ _ _ _ _ _ _ _ _ _ _ _ _ _ _ _ _ _ _ _ _ _ _ _ _ _ _ _ _ _ _ _ _ _ _ _ _ _ _ I2 w4 S2.out H4.out
end
end Go.Proofs.YtpjchngjhijgmaaGreat
