import Derived.Test.YtpjchngjhijgmaaGreatJM46
set_option linter.all false
namespace Go.Proofs.YtpjchngjhijgmaaGreat
open Go.RowKit
section
variable {W w : World} {I : Hp} {l : List HP}
set_option maxRecDepth 4000
set_option maxHeartbeats 8000000
theorem Zq766 {ca cb:Code} {Q:Exit→Act→World→Prop} {K:Act→World→Prop} (hK:∀ x y,cb.wp Tryz.prog Q x y→K x y) (hC:(Tryz.f6).body.bind (fromR 7)=some (.seq ca cb)) {x0 x3 x5 x6 x7 x8 x10 x11 x12 x13 x14 x15 x16 x17 x18 x19 x20 x21 x22 x23 x24 x25 x26 x27 x28 x29 x30 x31 x32 x33 x34 x35 x36 x37 x38 x39 x40 x41 x42 x43 x44 x45 x46 x47 x48 x49 x50 x51 x52 x53 x54 x55 x56 x57 x58 x59 x60 x61 x62 x63 x64 x65 x66 x67 x68 x69 x70 x71 x72 x73 x74 x75 x76 x77 x78 x79 x80 x81 x82 x83 x84 x85 x86 x87 x88 x89 x90 x91 x92 x93 x94 x95 x96 x97 x98 x99 x100 x101 x102 x103 x104 x105 x106 x107 x108 x109 x110 x111 x112 x113 x114 x115 x116 x117 x118 x119 x120 x121 x122 x123 x124 x125 x126 x127 x128 x129 x130 x131 x132 x133 x134 x135 x136 x137 x138 x139 x140:Value} {p g4 ct:Nat} {at':Int} {c:Rg} {ts:List Tag} {At:Option Addr}
  (h:St W I w (Zq10 p (newS 1048576)::HP.pt g4 (.cells #[.int .i64 c.splay,.int .i64 c.sets,.int .i64 c.size] 26)::l)) (ht:RowI I 4 (.slice At ts.length ct) ts.length (flat ts)) (hn:ts.length≤50)
  (hQ:∀ (y0 y1 y2 y3 y4 y5 y6 y7 y9 y10 y11 y12 y13 y14 y15 y16 y17 y18 y19 y20 y21 y22 y23 y24 y25 y26 y27 y28 y29 y30 y31 y32 y33 y34 y35 y36 y37 y38 y39 y40 y41 y42 y43 y44 y45 y46 y47 y48 y49 y50 y51 y52 y53 y54 y55 y56 y57 y58 y59 y60 y61 y62 y63 y64 y65 y66 y67 y68 y69 y70 y71 y72 y73 y74 y75 y76 y77 y78 y79 y80 y81 y82 y83 y84 y85 y86 y87 y88 y89 y90 y91 y92 y93 y94 y95 y96 y97 y98 y99 y100 y101 y102 y103 y104 y105 y106 y107 y108 y109 y110 y111 y112 y113 y114 y115 y116 y117 y118 y119 y120 y121 y122 y123 y124 y125 y126 y127 y128 y129 y130 y131 y132 y133 y134 y135 y136 y137 y138 y139 y140:Value) (w':World),Below W.heap.size W w'→Q .ret ⟨#[y0,y1,y2,y3,y4,y5,y6,y7,.bool true,y9,y10,y11,y12,y13,y14,y15,y16,y17,y18,y19,y20,y21,y22,y23,y24,y25,y26,y27,y28,y29,y30,y31,y32,y33,y34,y35,y36,y37,y38,y39,y40,y41,y42,y43,y44,y45,y46,y47,y48,y49,y50,y51,y52,y53,y54,y55,y56,y57,y58,y59,y60,y61,y62,y63,y64,y65,y66,y67,y68,y69,y70,y71,y72,y73,y74,y75,y76,y77,y78,y79,y80,y81,y82,y83,y84,y85,y86,y87,y88,y89,y90,y91,y92,y93,y94,y95,y96,y97,y98,y99,y100,y101,y102,y103,y104,y105,y106,y107,y108,y109,y110,y111,y112,y113,y114,y115,y116,y117,y118,y119,y120,y121,y122,y123,y124,y125,y126,y127,y128,y129,y130,y131,y132,y133,y134,y135,y136,y137,y138,y139,y140],[]⟩ w') :
  ca.wp Tryz.prog (Exit.then K Q) ⟨#[x0,.int .i64 at',.slice At ts.length ct,x3,.pointer (some ⟨g4,0,none⟩),x5,x6,x7,x8,.pointer (some ⟨p,0,none⟩),x10,x11,x12,x13,x14,x15,x16,x17,x18,x19,x20,x21,x22,x23,x24,x25,x26,x27,x28,x29,x30,x31,x32,x33,x34,x35,x36,x37,x38,x39,x40,x41,x42,x43,x44,x45,x46,x47,x48,x49,x50,x51,x52,x53,x54,x55,x56,x57,x58,x59,x60,x61,x62,x63,x64,x65,x66,x67,x68,x69,x70,x71,x72,x73,x74,x75,x76,x77,x78,x79,x80,x81,x82,x83,x84,x85,x86,x87,x88,x89,x90,x91,x92,x93,x94,x95,x96,x97,x98,x99,x100,x101,x102,x103,x104,x105,x106,x107,x108,x109,x110,x111,x112,x113,x114,x115,x116,x117,x118,x119,x120,x121,x122,x123,x124,x125,x126,x127,x128,x129,x130,x131,x132,x133,x134,x135,x136,x137,x138,x139,x140],[]⟩ w:=by
 injection hC with hC
 injection hC with hC1 hC2
 subst hC1 hC2
 have HFA:=Zh (Zq719 (.slice none 0 0) [] 0 h (Zq336 I) (by simp) (fun _=>(Zq92 1048576).inv.fewer (by show 0≤_;omega)))
 have hkf:Keeps (fallS (newS 1048576) [] 0).1 100000:=Zq298 [] 0 (Zq92 1048576)
 have hof:(fallS (newS 1048576) [] 0).1.on=false:=by
  unfold fallS
  rw [if_pos (show (newS 1048576).on=true from rfl)]
  rfl
 obtain ⟨S1,hS1⟩:∃ x,x=(fallS (newS 1048576) [] 0).1:=⟨_,rfl⟩
 rw [←hS1] at HFA hkf hof
 have HKF:=Zh hkf
 have HOF:=Zh hof
 have HT:=Zh ht
 have HQ:=Zh hQ
 have HN:=Zh hn
 clear h ht hn hQ hkf hof hS1
 go_wp2_with fail
 refine HFA.out.mono ?_
 rintro e w2 ⟨I2,hs2,rfl,h2⟩
 have HO:=Zh (Zq741 h2 HOF.out)
 have H2:=Zh h2
 have HT2:=Zh (RowI.mono hs2 HT.out:RowI I2 4 (.slice At ts.length ct) ts.length (flat ts))
 clear h2 hs2 HFA HT
 go_wp2_with fail
 refine HO.out.mono ?_
 rintro e w3 ⟨rfl,rfl⟩
 obtain ⟨z0,z1,z2⟩:=Zq40 (H2.out.pull 1 _ rfl)
 have hmk:=Zq686 c at' (.slice At ts.length ct) ts H2.out HT2.out (by have:=HN.out;omega) HOF.out (HKF.out.fewer (by omega))
 unfold Rg.val at hmk
 have HMK:=Zh hmk
 clear hmk HO
 go_wp2_with fail
 refine HMK.out.mono ?_
 rintro e w4 ⟨I4,hs4,rfl,h4⟩
 have HW:=Zh (Zq687 h4 HOF.out (HKF.out.fewer (by omega)))
 clear h4 hs4 HMK H2 z0 z1 z2
 go_wp2_with fail
 refine HW.out.mono ?_
 rintro e w5 ⟨I5,hs5,rfl,h5⟩
 have HB5:=Zh h5.below
 clear h5 hs5 HW
 go_wp2_with fail
 refine (Zq150 _).mono ?_
 rintro e w9 ⟨rfl,hb9⟩
 have HB9:=Zh (HB5.out.trans (hb9.mono HB5.out.size))
 clear hb9 HB5
 go_wp2_with fail
 exact HQ.out _ _ _ _ _ _ _ _ _ _ _ _ _ _ _ _ _ _ _ _ _ _ _ _ _ _ _ _ _ _ _ _ _ _ _ _ _ _ _ _ _ _ _ _ _ _ _ _ _ _ _ _ _ _ _ _ _ _ _ _ _ _ _ _ _ _ _ _ _ _ _ _ _ _ _ _ _ _ _ _ _ _ _ _ _ _ _ _ _ _ _ _ _ _ _ _ _ _ _ _ _ _ _ _ _ _ _ _ _ _ _ _ _ _ _ _ _ _ _ _ _ _ _ _ _ _ _ _ _ _ _ _ _ _ _ _ _ _ _ _ _ HB9.out
theorem Zq767 {ca cb:Code} {Q:Exit→Act→World→Prop} {K:Act→World→Prop} (hK:∀ x y,cb.wp Tryz.prog Q x y→K x y) (hC:(Tryz.f6).body.bind (fromR 13)=some (.seq ca cb)) {x0 x1 x2 x3 x4 x5 x6 x7 x8 x10 x11 x12 x14 x15 x16 x17 x18 x19 x20 x21 x22 x23 x24 x25 x26 x27 x28 x29 x30 x31 x32 x33 x34 x35 x36 x37 x38 x39 x40 x41 x42 x43 x44 x45 x46 x47 x48 x49 x50 x51 x52 x53 x54 x55 x56 x57 x58 x59 x60 x61 x62 x63 x64 x65 x66 x67 x68 x69 x70 x71 x72 x73 x74 x75 x76 x77 x78 x79 x80 x81 x82 x83 x84 x85 x86 x87 x88 x89 x90 x91 x92 x93 x94 x95 x96 x97 x98 x99 x100 x101 x102 x103 x104 x105 x106 x107 x108 x109 x110 x111 x112 x113 x114 x115 x116 x117 x118 x119 x120 x121 x122 x123 x124 x125 x126 x127 x128 x129 x130 x131 x132 x133 x134 x135 x136 x137 x138 x139 x140:Value} {p:Nat}
  (h:St W I w (Zq10 p (newS 1048576)::l))
  (hQ:∀ (y0 y1 y2 y3 y4 y5 y6 y7 y9 y10 y11 y12 y13 y14 y15 y16 y17 y18 y19 y20 y21 y22 y23 y24 y25 y26 y27 y28 y29 y30 y31 y32 y33 y34 y35 y36 y37 y38 y39 y40 y41 y42 y43 y44 y45 y46 y47 y48 y49 y50 y51 y52 y53 y54 y55 y56 y57 y58 y59 y60 y61 y62 y63 y64 y65 y66 y67 y68 y69 y70 y71 y72 y73 y74 y75 y76 y77 y78 y79 y80 y81 y82 y83 y84 y85 y86 y87 y88 y89 y90 y91 y92 y93 y94 y95 y96 y97 y98 y99 y100 y101 y102 y103 y104 y105 y106 y107 y108 y109 y110 y111 y112 y113 y114 y115 y116 y117 y118 y119 y120 y121 y122 y123 y124 y125 y126 y127 y128 y129 y130 y131 y132 y133 y134 y135 y136 y137 y138 y139 y140:Value) (w':World),Below W.heap.size W w'→Q .ret ⟨#[y0,y1,y2,y3,y4,y5,y6,y7,.bool true,y9,y10,y11,y12,y13,y14,y15,y16,y17,y18,y19,y20,y21,y22,y23,y24,y25,y26,y27,y28,y29,y30,y31,y32,y33,y34,y35,y36,y37,y38,y39,y40,y41,y42,y43,y44,y45,y46,y47,y48,y49,y50,y51,y52,y53,y54,y55,y56,y57,y58,y59,y60,y61,y62,y63,y64,y65,y66,y67,y68,y69,y70,y71,y72,y73,y74,y75,y76,y77,y78,y79,y80,y81,y82,y83,y84,y85,y86,y87,y88,y89,y90,y91,y92,y93,y94,y95,y96,y97,y98,y99,y100,y101,y102,y103,y104,y105,y106,y107,y108,y109,y110,y111,y112,y113,y114,y115,y116,y117,y118,y119,y120,y121,y122,y123,y124,y125,y126,y127,y128,y129,y130,y131,y132,y133,y134,y135,y136,y137,y138,y139,y140],[]⟩ w') :
  ca.wp Tryz.prog (Exit.then K Q) ⟨#[x0,x1,x2,x3,x4,x5,x6,x7,x8,.pointer (some ⟨p,0,none⟩),x10,x11,x12,.int .i64 1,x14,x15,x16,x17,x18,x19,x20,x21,x22,x23,x24,x25,x26,x27,x28,x29,x30,x31,x32,x33,x34,x35,x36,x37,x38,x39,x40,x41,x42,x43,x44,x45,x46,x47,x48,x49,x50,x51,x52,x53,x54,x55,x56,x57,x58,x59,x60,x61,x62,x63,x64,x65,x66,x67,x68,x69,x70,x71,x72,x73,x74,x75,x76,x77,x78,x79,x80,x81,x82,x83,x84,x85,x86,x87,x88,x89,x90,x91,x92,x93,x94,x95,x96,x97,x98,x99,x100,x101,x102,x103,x104,x105,x106,x107,x108,x109,x110,x111,x112,x113,x114,x115,x116,x117,x118,x119,x120,x121,x122,x123,x124,x125,x126,x127,x128,x129,x130,x131,x132,x133,x134,x135,x136,x137,x138,x139,x140],[]⟩ w:=by
 injection hC with hC
 injection hC with hC1 hC2
 subst hC1 hC2
 have ho:=Zq278 h rfl (Zq92 1048576).inv (Zq231.norec rfl)
 rw [Zq231.none4 rfl] at ho
 have HO:=Zh ho
 have HQ:=Zh hQ
 clear h ho hQ
 go_wp2_with fail
 refine HO.out.mono ?_
 rintro e w2 ⟨rfl,h2⟩
 have HW:=Zh (Zq234 (m:=0) h2 Zq231 rfl ((Zq92 1048576).fewer (by omega)))
 clear h2 HO
 go_wp2_with fail
 refine HW.out.mono ?_
 rintro e w3 ⟨I3,S3,hs3,rfl,h3,_,_,_,_⟩
 have HB3:=Zh h3.below
 clear h3 hs3 HW
 go_wp2_with fail
 refine (Zq150 _).mono ?_
 rintro e w9 ⟨rfl,hb9⟩
 have HB9:=Zh (HB3.out.trans (hb9.mono HB3.out.size))
 clear hb9 HB3
 go_wp2_with fail
 exact HQ.out _ _ _ _ _ _ _ _ _ _ _ _ _ _ _ _ _ _ _ _ _ _ _ _ _ _ _ _ _ _ _ _ _ _ _ _ _ _ _ _ _ _ _ _ _ _ _ _ _ _ _ _ _ _ _ _ _ _ _ _ _ _ _ _ _ _ _ _ _ _ _ _ _ _ _ _ _ _ _ _ _ _ _ _ _ _ _ _ _ _ _ _ _ _ _ _ _ _ _ _ _ _ _ _ _ _ _ _ _ _ _ _ _ _ _ _ _ _ _ _ _ _ _ _ _ _ _ _ _ _ _ _ _ _ _ _ _ _ _ _ _ HB9.out
theorem Zq688 {ca cb:Code} {Q:Exit→Act→World→Prop} {K:Act→World→Prop} (hK:∀ x y,cb.wp Tryz.prog Q x y→K x y) (hC:(Tryz.f6).body.bind (fromR 15)=some (.seq ca cb)) {x0 x3 x5 x6 x7 x8 x10 x11 x14 x15 x16 x17 x18 x19 x20 x21 x22 x23 x24 x25 x26 x27 x28 x29 x30 x31 x32 x33 x34 x35 x36 x37 x38 x39 x40 x41 x42 x43 x44 x45 x46 x47 x48 x49 x50 x51 x52 x53 x54 x55 x56 x57 x58 x59 x60 x61 x62 x63 x64 x65 x66 x67 x68 x69 x70 x71 x72 x73 x74 x75 x76 x77 x78 x79 x80 x81 x82 x83 x84 x85 x86 x87 x88 x89 x90 x91 x92 x93 x94 x95 x96 x97 x98 x99 x100 x101 x102 x103 x104 x105 x106 x107 x108 x109 x110 x111 x112 x113 x114 x115 x116 x117 x118 x119 x120 x121 x122 x123 x124 x125 x126 x127 x128 x129 x130 x131 x132 x133 x134 x135 x136 x137 x138 x139 x140:Value} {p q2 g4 ct:Nat} {at':Int} {c:Rg} {ts:List Tag} {At:Option Addr} {S:Str}
  (h:St W I w (Zq10 p S::rjHP q2 (Zq218 c at' ts)::HP.pt g4 (.cells #[.int .i64 c.splay,.int .i64 c.sets,.int .i64 c.size] 26)::l)) (ht:RowI I 4 (.slice At ts.length ct) ts.length (flat ts)) (hn:ts.length≤50) (hg:goodM c at' ts=true) (hj:JOK S (Zq107 c at' ts)) (ha:S.armed=false) (hk:Keeps S 90000)
  (hQ:∀ (y0 y1 y2 y3 y4 y5 y6 y7 y9 y10 y11 y12 y13 y14 y15 y16 y17 y18 y19 y20 y21 y22 y23 y24 y25 y26 y27 y28 y29 y30 y31 y32 y33 y34 y35 y36 y37 y38 y39 y40 y41 y42 y43 y44 y45 y46 y47 y48 y49 y50 y51 y52 y53 y54 y55 y56 y57 y58 y59 y60 y61 y62 y63 y64 y65 y66 y67 y68 y69 y70 y71 y72 y73 y74 y75 y76 y77 y78 y79 y80 y81 y82 y83 y84 y85 y86 y87 y88 y89 y90 y91 y92 y93 y94 y95 y96 y97 y98 y99 y100 y101 y102 y103 y104 y105 y106 y107 y108 y109 y110 y111 y112 y113 y114 y115 y116 y117 y118 y119 y120 y121 y122 y123 y124 y125 y126 y127 y128 y129 y130 y131 y132 y133 y134 y135 y136 y137 y138 y139 y140:Value) (w':World),Below W.heap.size W w'→Q .ret ⟨#[y0,y1,y2,y3,y4,y5,y6,y7,.bool true,y9,y10,y11,y12,y13,y14,y15,y16,y17,y18,y19,y20,y21,y22,y23,y24,y25,y26,y27,y28,y29,y30,y31,y32,y33,y34,y35,y36,y37,y38,y39,y40,y41,y42,y43,y44,y45,y46,y47,y48,y49,y50,y51,y52,y53,y54,y55,y56,y57,y58,y59,y60,y61,y62,y63,y64,y65,y66,y67,y68,y69,y70,y71,y72,y73,y74,y75,y76,y77,y78,y79,y80,y81,y82,y83,y84,y85,y86,y87,y88,y89,y90,y91,y92,y93,y94,y95,y96,y97,y98,y99,y100,y101,y102,y103,y104,y105,y106,y107,y108,y109,y110,y111,y112,y113,y114,y115,y116,y117,y118,y119,y120,y121,y122,y123,y124,y125,y126,y127,y128,y129,y130,y131,y132,y133,y134,y135,y136,y137,y138,y139,y140],[]⟩ w') :
  ca.wp Tryz.prog (Exit.then K Q) ⟨#[x0,.int .i64 at',.slice At ts.length ct,x3,.pointer (some ⟨g4,0,none⟩),x5,x6,x7,x8,.pointer (some ⟨p,0,none⟩),x10,x11,.pointer (some ⟨q2,0,none⟩),.int .i64 0,x14,x15,x16,x17,x18,x19,x20,x21,x22,x23,x24,x25,x26,x27,x28,x29,x30,x31,x32,x33,x34,x35,x36,x37,x38,x39,x40,x41,x42,x43,x44,x45,x46,x47,x48,x49,x50,x51,x52,x53,x54,x55,x56,x57,x58,x59,x60,x61,x62,x63,x64,x65,x66,x67,x68,x69,x70,x71,x72,x73,x74,x75,x76,x77,x78,x79,x80,x81,x82,x83,x84,x85,x86,x87,x88,x89,x90,x91,x92,x93,x94,x95,x96,x97,x98,x99,x100,x101,x102,x103,x104,x105,x106,x107,x108,x109,x110,x111,x112,x113,x114,x115,x116,x117,x118,x119,x120,x121,x122,x123,x124,x125,x126,x127,x128,x129,x130,x131,x132,x133,x134,x135,x136,x137,x138,x139,x140],[]⟩ w:=by
 injection hC with hC
 injection hC with hC1 hC2
 subst hC1 hC2
 have HO:=Zh (Zq567 (m:=80000) h hj.any ha (hk.fewer (by omega)))
 have HSIM:=Zh (Zq765 hg)
 have HLE:=Zh (show (Zq66 (Zq107 c at' ts)).l.length≤1000∧(Zq66 (Zq107 c at' ts)).r.tags.length≤1000∧(Zq66 (Zq107 c at' ts)).r.cls.length≤1000 by
  refine ⟨by show ([]:List En).length≤1000;simp,?_,by show ([]:List Cl).length≤1000;simp⟩
  show (Zq36 ts _).length≤1000
  exact Nat.le_trans (List.takeWhile_prefix _).length_le (by omega))
 obtain ⟨J,hJ⟩:∃ x,x=Zq66 (Zq107 c at' ts):=⟨_,rfl⟩
 rw [←hJ] at HO HSIM HLE
 have HT:=Zh ht
 have HN:=Zh hn
 have HG:=Zh hg
 have HQ:=Zh hQ
 clear h ht hn hg hj ha hk hQ hJ
 go_wp2_with fail
 refine HO.out.mono ?_
 rintro e w2 ⟨I2,q,S2,hs2,rfl,h2,hj2,ha2,hl2,hk2⟩
 have HS:=Zh (Zq570 h2 hj2 HSIM.out HLE.out.1 HLE.out.2.1 HLE.out.2.2)
 have HJ2:=Zh hj2
 have HA2:=Zh ha2
 have HK2:=Zh hk2
 have HT2:=Zh (RowI.mono hs2 HT.out:RowI I2 4 (.slice At ts.length ct) ts.length (flat ts))
 clear h2 hs2 hj2 ha2 hl2 hk2 HO HT
 go_wp2_with fail
 refine HS.out.mono ?_
 rintro e w3 ⟨I3,hs3,rfl,h3⟩
 obtain ⟨z0,z1,z2⟩:=Zq40 (h3.pull 3 _ rfl)
 have HT3:=Zh (RowI.mono hs3 HT2.out:RowI I3 4 (.slice At ts.length ct) ts.length (flat ts))
 have hmk:=Zq470 c at' (.slice At ts.length ct) ts h3 HT3.out (by have:=HN.out;omega) HJ2.out.live HJ2.out.jrec (HK2.out.fewer (by omega)) HG.out
 unfold Rg.val at hmk
 have HMK:=Zh hmk
 clear h3 hs3 hmk HS HT2
 go_wp2_with fail
 refine HMK.out.mono ?_
 rintro e w4 ⟨I4,hs4,rfl,h4⟩
 have HT4:=Zh (RowI.mono hs4 HT3.out:RowI I4 4 (.slice At ts.length ct) ts.length (flat ts))
 have HW:=Zh (Zq234 (m:=70000) h4 HJ2.out.live HA2.out (HK2.out.fewer (by omega)))
 clear h4 hs4 HMK HT3 z0 z1 z2
 go_wp2_with fail
 refine HW.out.mono ?_
 rintro e w5 ⟨I5,S5,hs5,rfl,h5,hl5,ha5,hn5,hk5⟩
 have HT5:=Zh (RowI.mono hs5 HT4.out:RowI I5 4 (.slice At ts.length ct) ts.length (flat ts))
 have ho:=Zq278 h5 hl5.on hk5.inv (hl5.norec hn5)
 rw [hl5.none4 hn5] at ho
 have HO:=Zh ho
 have HL5:=Zh hl5
 have HA5:=Zh ha5
 have HK5:=Zh hk5
 clear h5 hs5 hl5 ha5 hn5 hk5 ho HW HT4
 go_wp2_with fail
 refine HO.out.mono ?_
 rintro e w6 ⟨rfl,h6⟩
 have HW:=Zh (Zq234 (m:=60000) h6 HL5.out HA5.out (HK5.out.fewer (by omega)))
 clear h6 HO
 go_wp2_with fail
 refine HW.out.mono ?_
 rintro e w7 ⟨I7,S7,hs7,rfl,h7,hl7,ha7,hn7,hk7⟩
 obtain ⟨z0,z1,z2⟩:=Zq40 (h7.pull 3 _ rfl)
 have HT7:=Zh (RowI.mono hs7 HT5.out:RowI I7 4 (.slice At ts.length ct) ts.length (flat ts))
 have hmk:=Zq320 (m:=50000) c at' (.slice At ts.length ct) ts h7 HT7.out (by have:=HN.out;omega) hl7 ha7 hn7 (hk7.fewer (by omega)) HG.out
 unfold Rg.val at hmk
 have HMK:=Zh hmk
 clear h7 hs7 hl7 ha7 hn7 hk7 hmk HW HT5
 go_wp2_with fail
 refine HMK.out.mono ?_
 rintro e w8 ⟨I8,S8,hs8,rfl,h8,_,_,_⟩
 obtain ⟨z0,z1,z2⟩:=Zq40 (h8.pull 3 _ rfl)
 have hnl:=Zq742 c at' At ts.length ct w8
 unfold Rg.val at hnl
 have HNL:=Zh hnl
 have HB8:=Zh h8.below
 clear h8 hs8 hnl HMK
 go_wp2_with fail
 refine HNL.out.mono ?_
 rintro e w9 ⟨rfl,hb9⟩
 have HB9:=Zh (HB8.out.trans (hb9.mono HB8.out.size))
 clear hb9 HB8 z0 z1 z2
 go_wp2_with fail
 refine (Zq150 _).mono ?_
 rintro e w10 ⟨rfl,hb10⟩
 have HB10:=Zh (HB9.out.trans (hb10.mono HB9.out.size))
 clear hb10 HB9
 go_wp2_with fail
 exact HQ.out _ _ _ _ _ _ _ _ _ _ _ _ _ _ _ _ _ _ _ _ _ _ _ _ _ _ _ _ _ _ _ _ _ _ _ _ _ _ _ _ _ _ _ _ _ _ _ _ _ _ _ _ _ _ _ _ _ _ _ _ _ _ _ _ _ _ _ _ _ _ _ _ _ _ _ _ _ _ _ _ _ _ _ _ _ _ _ _ _ _ _ _ _ _ _ _ _ _ _ _ _ _ _ _ _ _ _ _ _ _ _ _ _ _ _ _ _ _ _ _ _ _ _ _ _ _ _ _ _ _ _ _ _ _ _ _ _ _ _ _ _ HB10.out
theorem journalMakes_walk (c:Rg) (at':Int) (off:Bool) (v2:Value) (ts:List Tag) (W:World) (ht:RowI W.hp 4 v2 ts.length (flat ts)) (hl:ts.length≤maxLen) :
  Calls Tryz.prog 6 #[c.val,.int .i64 at',v2,.bool off] W fun e w'=>e=.returned (.bool true)∧Below W.heap.size W w':=by
 obtain ⟨At,ct,rfl,_⟩:=id ht
 have HT:=Zh ht
 unfold maxLen at hl
 have hl':(ts.length:Int)≤9223372036854775807:=by omega
 have h1:=(St.init W).alloc (.cells #[.int .i64 c.splay,.int .i64 c.sets,.int .i64 c.size] 26)
 obtain ⟨g4,hg4⟩:∃ g,g=W.heap.size:=⟨_,rfl⟩
 obtain ⟨w1,hw1⟩:∃ x,x=W.alloc (.cells #[.int .i64 c.splay,.int .i64 c.sets,.int .i64 c.size] 26):=⟨_,rfl⟩
 rw [←hg4,←hw1] at h1
 have H1:=Zh h1
 have HB1:=Zh h1.below
 simp only [Rg.val]
 clear ht hl h1
 go_enter Tryz.func6,Tryz.ntmps6
 go_upto_region 1 with fail
 rw [←hg4,←hw1]
 have HG4:=Zh hg4
 clear hg4 hw1
 by_cases h50:50<ts.length
 ·have d1:decide ((50:Int)<(ts.length:Int))=true:=decide_eq_true (by omega)
  have d1n:decide (50<ts.length)=true:=decide_eq_true h50
  go_wp2_with fail
  refine (Zq150 _).mono ?_
  rintro e w9 ⟨rfl,hb9⟩
  have HB9:=Zh (HB1.out.trans (hb9.mono HB1.out.size))
  clear hb9
  go_wp2_with fail
  go_ret
  exact ⟨rfl,HB9.out⟩
 have d1:decide ((50:Int)<(ts.length:Int))=false:=decide_eq_false (by omega)
 have d1n:decide (50<ts.length)=false:=decide_eq_false h50
 have HNE:=Zh (Zq446 1048576 H1.out)
 go_wp2_with fail
 refine HNE.out.mono ?_
 rintro e w2 ⟨p,rfl,h2⟩
 have H2:=Zh h2
 clear h2 HNE H1 HB1
 cases off with
 | true =>
  go_upto_region 7 with fail
  refine Zq766 (by assumption) (by kernel_rfl) H2.out HT.out (by omega) ?_
  intro _ _ _ _ _ _ _ _ _ _ _ _ _ _ _ _ _ _ _ _ _ _ _ _ _ _ _ _ _ _ _ _ _ _ _ _ _ _ _ _ _ _ _ _ _ _ _ _ _ _ _ _ _ _ _ _ _ _ _ _ _ _ _ _ _ _ _ _ _ _ _ _ _ _ _ _ _ _ _ _ _ _ _ _ _ _ _ _ _ _ _ _ _ _ _ _ _ _ _ _ _ _ _ _ _ _ _ _ _ _ _ _ _ _ _ _ _ _ _ _ _ _ _ _ _ _ _ _ _ _ _ _ _ _ _ _ _ _ _ _ w9 hb9
  have HB9:=Zh hb9
  clear hb9
  go_ret
  exact ⟨rfl,HB9.out⟩
 | false =>
  obtain ⟨z0,z1,z2⟩:=Zq40 (H2.out.pull 1 _ rfl)
  have hrm:=Zq677 c at' At ct ts H2.out HT.out (by omega)
  unfold Rg.val at hrm
  have HRM:=Zh hrm
  clear hrm
  go_wp2_with fail
  refine HRM.out.mono ?_
  rintro e w3 (⟨hg,rfl,h3⟩|⟨hg,I3,q2,hs3,rfl,h3⟩)
  ·obtain ⟨z0,z1,z2⟩:=Zq40 (h3.pull 1 _ rfl)
   have hmk:=Zq685 c at' (.slice At ts.length ct) ts h3 HT.out (by omega) Zq231 rfl ((Zq92 1048576).fewer (by omega)) hg
   unfold Rg.val at hmk
   have HMK:=Zh hmk
   clear h3 hg hmk HRM H2
   go_wp2_with fail
   refine HMK.out.mono ?_
   rintro e w4 ⟨I4,hs4,rfl,h4⟩
   have H4:=Zh h4
   clear h4 hs4 HMK z0 z1 z2
   go_upto_region 13 with fail
   refine Zq767 (by assumption) (by kernel_rfl) H4.out ?_
   intro _ _ _ _ _ _ _ _ _ _ _ _ _ _ _ _ _ _ _ _ _ _ _ _ _ _ _ _ _ _ _ _ _ _ _ _ _ _ _ _ _ _ _ _ _ _ _ _ _ _ _ _ _ _ _ _ _ _ _ _ _ _ _ _ _ _ _ _ _ _ _ _ _ _ _ _ _ _ _ _ _ _ _ _ _ _ _ _ _ _ _ _ _ _ _ _ _ _ _ _ _ _ _ _ _ _ _ _ _ _ _ _ _ _ _ _ _ _ _ _ _ _ _ _ _ _ _ _ _ _ _ _ _ _ _ _ _ _ _ _ w9 hb9
   have HB9:=Zh hb9
   clear hb9
   go_ret
   exact ⟨rfl,HB9.out⟩
  ·have HT3:=Zh (RowI.mono hs3 HT.out:RowI I3 4 (.slice At ts.length ct) ts.length (flat ts))
   obtain ⟨z0,z1,z2⟩:=Zq40 (h3.pull 2 _ rfl)
   have hmk:=Zq320 (m:=90000) c at' (.slice At ts.length ct) ts (h3.pull 1 _ rfl) HT3.out (by omega) Zq231 rfl rfl ((Zq92 1048576).fewer (by omega)) hg
   unfold Rg.val at hmk
   have HMK:=Zh hmk
   have HG:=Zh hg
   clear h3 hs3 hg hmk HRM H2 HT
   go_wp2_with fail
   refine HMK.out.mono ?_
   rintro e w4 ⟨I4,S4,hs4,rfl,h4,hj4,ha4,hk4⟩
   have H4:=Zh h4
   have HJ4:=Zh hj4
   have HA4:=Zh ha4
   have HK4:=Zh hk4
   have HT4:=Zh (RowI.mono hs4 HT3.out:RowI I4 4 (.slice At ts.length ct) ts.length (flat ts))
   clear h4 hs4 hj4 ha4 hk4 HMK HT3 z0 z1 z2
   go_upto_region 15 with fail
   refine Zq688 (by assumption) (by kernel_rfl) H4.out HT4.out (by omega) HG.out HJ4.out HA4.out HK4.out ?_
   intro _ _ _ _ _ _ _ _ _ _ _ _ _ _ _ _ _ _ _ _ _ _ _ _ _ _ _ _ _ _ _ _ _ _ _ _ _ _ _ _ _ _ _ _ _ _ _ _ _ _ _ _ _ _ _ _ _ _ _ _ _ _ _ _ _ _ _ _ _ _ _ _ _ _ _ _ _ _ _ _ _ _ _ _ _ _ _ _ _ _ _ _ _ _ _ _ _ _ _ _ _ _ _ _ _ _ _ _ _ _ _ _ _ _ _ _ _ _ _ _ _ _ _ _ _ _ _ _ _ _ _ _ _ _ _ _ _ _ _ _ w9 hb9
   have HB9:=Zh hb9
   clear hb9
   go_ret
   exact ⟨rfl,HB9.out⟩
end
end Go.Proofs.YtpjchngjhijgmaaGreat
namespace Go.Proofs.YtpjchngjhijgmaaGreat
open Go.RowKit Go.ChangeShapes Go.WideShapes Go.ChangeAt Go.Deep Go.Joins
set_option maxRecDepth 100000
section
variable {H : Type} {enc : TypeId × Value → H} {P : Program} {w : World} {base : Nat} {spare : Nat → Bool} {held : Bool}
theorem Zq880 {α:Type} (mk:α→List Value) (ok:α→Prop) {k:Nat} (hmk:∀ a,(mk a).length=k) (h0:0<k) {t e:TypeId} (ht:P.underlying t=some (.slice e)) (hk:P.cellsOf e=k)
  (hel:∀ fuel cs x,cs.length=k→DataW.trod enc P w base spare held fuel e cs=some x→∃ a,cs=mk a∧ok a) [Nonempty α]
  {v:Value} {d:DataW H} {p:List MemPlace} (h:DataW.Trod enc P w base spare held t v d p) (hs:∃ A n c,v=.slice A n c) :
  ∃ l:List α,RowI w.hp k v l.length (l.flatMap mk)∧(∀ a ∈ l,ok a)∧l.length≤maxLen:=by
 obtain ⟨A,n,c,rfl,hnc,hcm,hA,hcells⟩:=Zq811 ht hk h0 h hs
 rcases Nat.eq_zero_or_pos n with rfl|hn
 ·exact ⟨[],⟨A,c,rfl,by simp,by simp,hcm,fun e=>(hA e).2,fun h=>absurd h (by simp)⟩,fun a ha=>by (cases ha),by simp⟩
 ·obtain ⟨b,off,rfl,hb,hc⟩:=hcells hn
  have key:∀ i,∃ a,i<n→ok a∧∀ j,j<k→w.cell? ⟨b,off+(i*k+j),none⟩=(mk a)[j]?:=fun i=>by
   by_cases hin:i<n
   ·obtain ⟨cs,fuel,x,h1,h2,h3⟩:=hc i hin
    obtain ⟨a,rfl,ha⟩:=hel fuel cs x h2 h1
    exact ⟨a,fun _=>⟨ha,h3⟩⟩
   ·exact ⟨Classical.choice inferInstance,fun h=>absurd h hin⟩
  obtain ⟨f,key⟩:∃ f:Nat→α,∀ i,i<n→ok (f i)∧∀ j,j<k→w.cell? ⟨b,off+(i*k+j),none⟩=(mk (f i))[j]?:=⟨fun i=>Classical.choose (key i),fun i=>Classical.choose_spec (key i)⟩
  have hfirst:∃ u,w.cell? ⟨b,off+(0*k+0),none⟩=some u:=by
   rw [(key 0 hn).2 0 h0]
   exact ⟨_,List.getElem?_eq_getElem (by rw [hmk];exact h0)⟩
  obtain ⟨u,hu⟩:=hfirst
  obtain ⟨cs,t',f',hblk,_⟩:=Zq626 hu
  refine ⟨(List.range n).map f,⟨_,c,by simp,by rw [Zq205 hmk],by simpa using hnc,hcm,(fun e=>by cases e),fun _=>⟨b,off,cs,t',f',rfl,hblk,fun q x hq=>?_⟩⟩,fun a ha=>?_,by simp;omega⟩
  ·have hql:q<((List.range n).map f).length*k:=by
    rw [←Zq205 hmk]
    exact (List.getElem?_eq_some_iff.1 hq).1
   simp only [List.length_map,List.length_range] at hql
   have hqd:q=q / k*k+q % k:=by rw [Nat.mul_comm];exact (Nat.div_add_mod q k).symm
   have hi:q / k<n:=Nat.div_lt_of_lt_mul (by rw [Nat.mul_comm];exact hql)
   have hj:q % k<k:=Nat.mod_lt _ h0
   have hai:((List.range n).map f)[q / k]?=some (f (q / k)):=by simp [hi]
   have h4:=Zq93 hmk _ (q / k) (q % k) _ hai hj
   rw [←hqd,hq] at h4
   have h5:=(key (q / k) hi).2 (q % k) hj
   rw [←h4,←hqd] at h5
   unfold World.cell? at h5
   simpa [hblk] using h5
  ·obtain ⟨i,hi,rfl⟩:=List.mem_map.1 ha
   exact (key i (List.mem_range.1 hi)).1
end
section
variable {H : Type} {enc : TypeId × Value → H} {P : Program} {w : World} {base : Nat} {spare : Nat → Bool} {held : Bool}
theorem Zq832 {t:TypeId} {fs:Array Field} {fuel:Nat} {cs:List Value} {x:DataW H × List MemPlace} (ht:P.underlying t=some (.struct fs)) (h:DataW.trod enc P w base spare held fuel t cs=some x)
  (j:Nat) (f:Field) (hj:fs[j]?=some f):∃ n y,DataW.trod enc P w base spare held n f.type ((cs.drop f.offset).take (P.cellsOf f.type))=some y:=by
 obtain ⟨ys,n,hn,hy,hlen,hyl,hf⟩:=DataW.trod_struct ht h
 have hjl:j<ys.length:=by rw [hyl];exact (Array.getElem?_eq_some_iff.1 hj).1
 exact ⟨n,ys[j],by rw [hf j f hj,List.getElem?_eq_getElem hjl]⟩
end
section
variable {H : Type} {enc : TypeId × Value → H} {P : Program} {w : World} {base : Nat} {spare : Nat → Bool} {held : Bool}
theorem Zq768 {t:TypeId} {fs:Array Field} {fuel:Nat} {cs:List Value} {x:DataW H × List MemPlace} (ht:P.underlying t=some (.struct fs)) (h:DataW.trod enc P w base spare held fuel t cs=some x)
  (j:Nat) (f:Field) (hj:fs[j]?=some f) (h1:P.cellsOf f.type=1) {c:Value} (hc:cs[f.offset]?=some c):∃ n y,DataW.trod enc P w base spare held n f.type [c]=some y:=by
 obtain ⟨n,y,hy⟩:=Zq832 ht h j f hj
 have hd:(cs.drop f.offset).take 1=[c]:=by
  obtain ⟨hlt,he⟩:=List.getElem?_eq_some_iff.1 hc
  rw [List.drop_eq_getElem_cons hlt,he];rfl
 rw [h1,hd] at hy
 exact ⟨n,y,hy⟩
theorem Zq151 {t k:TypeId} {kd:IntKind} {fs:Array Field} {fuel:Nat} {cs:List Value} {x:DataW H × List MemPlace} (ht:P.underlying t=some (.struct fs)) (h:DataW.trod enc P w base spare held fuel t cs=some x)
  (j:Nat) (f:Field) (hj:fs[j]?=some f) (hk:f.type=k) (hu:P.underlying k=some (.int kd)) (h1:P.cellsOf k=1) {c:Value} (hc:cs[f.offset]?=some c):∃ m:Int,c=.int kd m∧(Lit.int kd m).wf=true:=by
 subst hk
 obtain ⟨n,y,hy⟩:=Zq768 ht h j f hj h1 hc
 obtain ⟨m,hm,_,hw⟩:=DataW.trod_int hu hy
 exact ⟨m,by simpa using hm,hw⟩
end
section
variable {H : Type} {enc : TypeId × Value → H} {P : Program} {w : World} {base : Nat} {spare : Nat → Bool} {held : Bool}
end
end Go.Proofs.YtpjchngjhijgmaaGreat
