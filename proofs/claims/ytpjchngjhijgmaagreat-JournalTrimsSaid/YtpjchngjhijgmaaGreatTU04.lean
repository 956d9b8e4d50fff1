import Derived.Test.YtpjchngjhijgmaaGreatTU03
set_option linter.all false
namespace Go.Proofs.YtpjchngjhijgmaaGreat
open Go.RowKit
section
variable {W w : World} {I : Hp} {l : List HP}
set_option maxRecDepth 4000
set_option maxHeartbeats 8000000
theorem trims_app {ca cb:Code} {Q:Exit→Act→World→Prop} {K:Act→World→Prop} (hK:∀ x y,cb.wp Tryz.prog Q x y→K x y) (hC:(Tryz.f9).body.bind (fromR 15)=some (.seq ca cb)) {x0 x1 x2 x3 x4 x5 x6 x7 x8 x9 x10 x11 x12 x13 x14 x15 x16 x18 x19 x24 x25 x26 x27 x28 x29 x30 x31 x32 x33 x34 x35 x36 x37 x38 x39 x40 x41 x42 x43 x44 x45 x46 x47 x48 x49 x50 x51 x52 x53 x54 x55 x56 x57 x58 x59 x60 x61 x62 x63 x64 x65 x66 x67 x68 x69 x70 x71 x72 x73 x74 x75 x76 x77 x78 x79 x80 x81 x82 x83 x84 x85 x86 x87 x88 x89 x90 x91 x92 x93 x94 x95 x96 x97 x98 x99 x100 x101 x102 x103 x104 x105 x106 x107 x108 x109 x110 x111 x112 x113 x114 x115 x116 x117 x118 x119 x120 x121 x122 x123 x124 x125 x126 x127 x128 x129 x130 x131 x132 x133 x134 x135 x136 x137 x138 x139 x140 x141 x142 x143 x144 x145 x146 x147 x148 x149 x150 x151 x152 x153 x154 x155 x156 x157 x158 x159 x160 x161 x162 x163 x164 x165 x166 x167 x168 x169 x170 x171 x172 x173 x174 x175 x176 x177 x178 x179 x180 x181 x182 x183 x184 x185 x186 x187 x188 x189 x190 x191 x192 x193 x194 x195 x196 x197 x198 x199 x200 x201 x202 x203 x204 x205 x206 x207 x208 x209 x210 x211 x212 x213 x214 x215 x216 x217 x218 x219 x220 x221 x222 x223 x224 x225 x226 x227 x228 x229 x230 x231 x232 x233 x234 x235 x236 x237 x238 x239 x240 x241 x242 x243 x244 x245 x246 x247 x248 x249 x250 x251 x252 x253 x254 x255:Value} {p q cL c2 n i:Nat} {ls:List (List Int)} {AL A2:Option Addr} {S:Str} {J:Jn}
  (h:St W I w (Zq8 p S::jnHP q p J::Zq184 (.slice A2 n c2) (J.l.map (·.data))::l)) (hnn:n=J.l.length) (ht:TM S J i) (hR:RowsI I (.slice AL ls.length cL) ls) (hn:ls.length≤60) (hi:i<ls.length) (hp:∀ y ∈ ls,(1≤y.length∧y.length≤90)∧∀ z ∈ y,isByte z)
  (hQ:∀ (y24 y25 y83 y84 y85 y86 y87 y88 y89 y90 y91 y92 y93 y94 y95 y96 y97 y98 y99 y100 y101 y102:Value) (I':Hp) (w':World) (S':Str) (J':Jn) (A':Option Addr) (c' n':Nat),n'=J'.l.length→I.sub I'→St W I' w' (Zq184 (.slice A' n' c') (J'.l.map (·.data))::Zq8 p S'::jnHP q p J'::l)→TM S' J' (i+1) →
    Q .normal ⟨#[x0,x1,x2,x3,x4,x5,x6,x7,x8,x9,x10,x11,x12,x13,x14,x15,x16,.slice AL ls.length cL,x18,x19,.pointer (some ⟨q,0,none⟩),.int .i64 (n':Nat),.slice A' n' c',.int .i64 i,y24,y25,x26,x27,x28,x29,x30,x31,x32,x33,x34,x35,x36,x37,x38,x39,x40,x41,x42,x43,x44,x45,x46,x47,x48,x49,x50,x51,x52,x53,x54,x55,x56,x57,x58,x59,x60,x61,x62,x63,x64,x65,x66,x67,x68,x69,x70,x71,x72,x73,x74,x75,x76,x77,x78,x79,x80,x81,x82,y83,y84,y85,y86,y87,y88,y89,y90,y91,y92,y93,y94,y95,y96,y97,y98,y99,y100,y101,y102,x103,x104,x105,x106,x107,x108,x109,x110,x111,x112,x113,x114,x115,x116,x117,x118,x119,x120,x121,x122,x123,x124,x125,x126,x127,x128,x129,x130,x131,x132,x133,x134,x135,x136,x137,x138,x139,x140,x141,x142,x143,x144,x145,x146,x147,x148,x149,x150,x151,x152,x153,x154,x155,x156,x157,x158,x159,x160,x161,x162,x163,x164,x165,x166,x167,x168,x169,x170,x171,x172,x173,x174,x175,x176,x177,x178,x179,x180,x181,x182,x183,x184,x185,x186,x187,x188,x189,x190,x191,x192,x193,x194,x195,x196,x197,x198,x199,x200,x201,x202,x203,x204,x205,x206,x207,x208,x209,x210,x211,x212,x213,x214,x215,x216,x217,x218,x219,x220,x221,x222,x223,x224,x225,x226,x227,x228,x229,x230,x231,x232,x233,x234,x235,x236,x237,x238,x239,x240,x241,x242,x243,x244,x245,x246,x247,x248,x249,x250,x251,x252,x253,x254,x255],[]⟩ w') :
  ca.wp Tryz.prog (Exit.then K Q) ⟨#[x0,x1,x2,x3,x4,x5,x6,x7,x8,x9,x10,x11,x12,x13,x14,x15,x16,.slice AL ls.length cL,x18,x19,.pointer (some ⟨q,0,none⟩),.int .i64 (n:Nat),.slice A2 n c2,.int .i64 i,x24,x25,x26,x27,x28,x29,x30,x31,x32,x33,x34,x35,x36,x37,x38,x39,x40,x41,x42,x43,x44,x45,x46,x47,x48,x49,x50,x51,x52,x53,x54,x55,x56,x57,x58,x59,x60,x61,x62,x63,x64,x65,x66,x67,x68,x69,x70,x71,x72,x73,x74,x75,x76,x77,x78,x79,x80,x81,x82,x83,x84,x85,x86,x87,x88,x89,x90,x91,x92,x93,x94,x95,x96,x97,x98,x99,x100,x101,x102,x103,x104,x105,x106,x107,x108,x109,x110,x111,x112,x113,x114,x115,x116,x117,x118,x119,x120,x121,x122,x123,x124,x125,x126,x127,x128,x129,x130,x131,x132,x133,x134,x135,x136,x137,x138,x139,x140,x141,x142,x143,x144,x145,x146,x147,x148,x149,x150,x151,x152,x153,x154,x155,x156,x157,x158,x159,x160,x161,x162,x163,x164,x165,x166,x167,x168,x169,x170,x171,x172,x173,x174,x175,x176,x177,x178,x179,x180,x181,x182,x183,x184,x185,x186,x187,x188,x189,x190,x191,x192,x193,x194,x195,x196,x197,x198,x199,x200,x201,x202,x203,x204,x205,x206,x207,x208,x209,x210,x211,x212,x213,x214,x215,x216,x217,x218,x219,x220,x221,x222,x223,x224,x225,x226,x227,x228,x229,x230,x231,x232,x233,x234,x235,x236,x237,x238,x239,x240,x241,x242,x243,x244,x245,x246,x247,x248,x249,x250,x251,x252,x253,x254,x255],[]⟩ w:=by
 injection hC with hC
 injection hC with hC1 hC2
 subst hC1 hC2
 obtain ⟨d,hd⟩:∃ d,ls[i]?=some d:=⟨_,List.getElem?_eq_getElem hi⟩
 obtain ⟨b,off,Ad,cd,rfl,hdb,hdc⟩:=hR.cells hd
 obtain ⟨hd1,hd2⟩:=hp d (List.mem_of_getElem? hd)
 have y0:=hdc (Hp.sub.refl _) h
 have HDC:=Zh (fun (I':Hp) (w':World) (L:List HP) (hs:I.sub I') (hw':St W I' w' L)=>hdc hs hw')
 have HDB:=Zh hdb
 have hap:=Zq136 (m:=90000 - 10*i - 4) d Ad cd h (ht.ks.fewer (by omega)) ht.ok.jb hdb hd2 (ht.ok.six ht.calm (by omega) _)
 have hno:=fun hf=>ht.no (d:=d) hd1 hf
 have hyes:=fun hf=>ht.append (d:=d) (by omega) hd1 hd2 hf
 have hjl:=ht.len
 obtain ⟨⟨⟨rn,re⟩,RS,RJ⟩,hRR⟩:∃ x,x=Zq39 S J d:=⟨_,rfl⟩
 rw [←hRR] at hap hno hyes
 simp only at hap
 have HAP:=Zh hap
 have HNO:=Zh hno
 have HYES:=Zh hyes
 have HT:=Zh ht
 have HN:=Zh hnn
 have HJL:=Zh (show n≤60 by omega)
 have HD2:=Zh hd2
 have HQ:=Zh hQ
 clear h hR hp hQ hd hdb hdc hap hno hyes hRR hd1 hd2 ht hnn hjl
 have hn1:(ls.length:Int)≤60:=by omega
 go_wp2_with fail
 refine HAP.out.mono ?_
 rintro e w6 ⟨I6,hs6,rfl,h6⟩
 dsimp only
 have HS6:=Zh hs6
 have H6:=Zh (h6.pull 2 _ rfl)
 clear hs6 h6 HAP y0
 cases hfit:fitsJ J [(d.length:Int)] with
 | false =>
  have hq:=HNO.out hfit
  simp only [Prod.mk.injEq] at hq
  obtain ⟨⟨rfl,rfl⟩,rfl,rfl⟩:=hq
  clear hfit
  go_wp2_with fail
  exact HQ.out _ _ _ _ _ _ _ _ _ _ _ _ _ _ _ _ _ _ _ _ _ _ I6 w6 RS RJ A2 c2 n HN.out HS6.out H6.out (HT.out.later (by omega))
 | true =>
  obtain ⟨S',g,pl,nx,_,hq,g1,g2⟩:=HYES.out hfit
  simp only [Prod.mk.injEq] at hq
  obtain ⟨⟨rfl,rfl⟩,rfl,rfl⟩:=hq
  have yd:=HDC.out _ _ _ HS6.out H6.out
  obtain ⟨A9,c9,w9,hr9,h9⟩:=St.rows_append (g:=w6.heap.size) rfl H6.out (RowI.mono HS6.out HDB.out) HD2.out (by rw [List.length_map,←HN.out];have:=HJL.out;omega)
  have hlen:(addJ J (newE J d) pl g).l.length=n+1:=by
   have:=congrArg List.length g2
   rw [List.length_map,List.length_append,List.length_map,List.length_singleton,←HN.out] at this
   exact this
  rw [List.length_map,←HN.out] at hr9 h9
  rw [←g2] at h9
  obtain ⟨n9,hn9⟩:∃ n9,n9=n+1:=⟨_,rfl⟩
  have hw9:IntKind.i64.wrap ((n:Int)+1)=(n9:Int):=by rw [IntKind.wrap_i64];have:=HJL.out;omega
  rw [←hn9] at hr9 h9 hlen
  have HR9:=Zh hr9
  have H9:=Zh h9
  have HG1:=Zh g1
  have HLEN:=Zh hlen.symm
  clear hfit g1 g2 hr9 h9 hlen hn9
  go_wp2_with (at_builtin;refine Lib.wpList_append_run _ rfl (.tmp 94) (.tmp 99) 22 22 rfl _ _ rfl rfl _ _ HR9.out ?_)
  exact HQ.out _ _ _ _ _ _ _ _ _ _ _ _ _ _ _ _ _ _ _ _ _ _ I6 _ _ _ A9 c9 n9 HLEN.out HS6.out H9.out HG1.out
theorem trims_loop1 {ca cb:Code} {Q:Exit→Act→World→Prop} {K:Act→World→Prop} (hK:∀ x y,cb.wp Tryz.prog Q x y→K x y) (hC:(Tryz.f9).body.bind (fromR 9)=some (.seq ca cb)) {x0 x1 x2 x3 x5 x6 x7 x8 x9 x10 x11 x12 x13 x14 x15 x16 x18 x19 x23 x24 x25 x26 x27 x28 x29 x30 x31 x32 x33 x34 x35 x36 x37 x38 x39 x40 x41 x42 x43 x44 x45 x46 x47 x48 x49 x50 x51 x52 x53 x54 x55 x56 x57 x58 x59 x60 x61 x62 x63 x64 x65 x66 x67 x68 x69 x70 x71 x72 x73 x74 x75 x76 x77 x78 x79 x80 x81 x82 x83 x84 x85 x86 x87 x88 x89 x90 x91 x92 x93 x94 x95 x96 x97 x98 x99 x100 x101 x102 x103 x104 x105 x106 x107 x108 x109 x110 x111 x112 x113 x114 x115 x116 x117 x118 x119 x120 x121 x122 x123 x124 x125 x126 x127 x128 x129 x130 x131 x132 x133 x134 x135 x136 x137 x138 x139 x140 x141 x142 x143 x144 x145 x146 x147 x148 x149 x150 x151 x152 x153 x154 x155 x156 x157 x158 x159 x160 x161 x162 x163 x164 x165 x166 x167 x168 x169 x170 x171 x172 x173 x174 x175 x176 x177 x178 x179 x180 x181 x182 x183 x184 x185 x186 x187 x188 x189 x190 x191 x192 x193 x194 x195 x196 x197 x198 x199 x200 x201 x202 x203 x204 x205 x206 x207 x208 x209 x210 x211 x212 x213 x214 x215 x216 x217 x218 x219 x220 x221 x222 x223 x224 x225 x226 x227 x228 x229 x230 x231 x232 x233 x234 x235 x236 x237 x238 x239 x240 x241 x242 x243 x244 x245 x246 x247 x248 x249 x250 x251 x252 x253 x254 x255:Value} {p q cL:Nat} {sf:Int} {ls:List (List Int)} {AL:Option Addr} {S:Str} {J:Jn}
  (h:St W I w (Zq8 p S::jnHP q p J::l)) (hR:RowsI I (.slice AL ls.length cL) ls) (ht:TM S J 0) (hn:ls.length≤60) (hp:∀ y ∈ ls,(1≤y.length∧y.length≤90)∧∀ z ∈ y,isByte z)
  (hQ:∀ (y0 y1 y2 y3 y4 y8 y9 y10 y11 y12 y13 y14 y15 y16 y17 y18 y19 y23 y24 y25 y26 y27 y28 y29 y30 y31 y32 y33 y34 y35 y36 y37 y38 y39 y40 y41 y42 y43 y44 y45 y46 y47 y48 y49 y50 y51 y52 y53 y54 y55 y56 y57 y58 y59 y60 y61 y62 y63 y64 y65 y66 y67 y68 y69 y70 y71 y72 y73 y74 y75 y76 y77 y78 y79 y80 y81 y82 y83 y84 y85 y86 y87 y88 y89 y90 y91 y92 y93 y94 y95 y96 y97 y98 y99 y100 y101 y102 y103 y104 y105 y106 y107 y108 y109 y110 y111 y112 y113 y114 y115 y116 y117 y118 y119 y120 y121 y122 y123 y124 y125 y126 y127 y128 y129 y130 y131 y132 y133 y134 y135 y136 y137 y138 y139 y140 y141 y142 y143 y144 y145 y146 y147 y148 y149 y150 y151 y152 y153 y154 y155 y156 y157 y158 y159 y160 y161 y162 y163 y164 y165 y166 y167 y168 y169 y170 y171 y172 y173 y174 y175 y176 y177 y178 y179 y180 y181 y182 y183 y184 y185 y186 y187 y188 y189 y190 y191 y192 y193 y194 y195 y196 y197 y198 y199 y200 y201 y202 y203 y204 y205 y206 y207 y208 y209 y210 y211 y212 y213 y214 y215 y216 y217 y218 y219 y220 y221 y222 y223 y224 y225 y226 y227 y228 y229 y230 y231 y232 y233 y234 y235 y236 y237 y238 y239 y240 y241 y242 y243 y244 y245 y246 y247 y248 y249 y250 y251 y252 y253 y254 y255:Value) (I':Hp) (w':World) (S':Str) (J':Jn) (A':Option Addr) (c' n:Nat),n=J'.l.length→I.sub I'→St W I' w' (Zq184 (.slice A' J'.l.length c') (J'.l.map (·.data))::Zq8 p S'::jnHP q p J'::l)→TM S' J' ls.length →
    Q .normal ⟨#[y0,y1,y2,y3,y4,x5,x6,x7,y8,y9,y10,y11,y12,y13,y14,y15,y16,y17,y18,y19,.pointer (some ⟨q,0,none⟩),.int .i64 (n:Nat),.slice A' n c',y23,y24,y25,y26,y27,y28,y29,y30,y31,y32,y33,y34,y35,y36,y37,y38,y39,y40,y41,y42,y43,y44,y45,y46,y47,y48,y49,y50,y51,y52,y53,y54,y55,y56,y57,y58,y59,y60,y61,y62,y63,y64,y65,y66,y67,y68,y69,y70,y71,y72,y73,y74,y75,y76,y77,y78,y79,y80,y81,y82,y83,y84,y85,y86,y87,y88,y89,y90,y91,y92,y93,y94,y95,y96,y97,y98,y99,y100,y101,y102,y103,y104,y105,y106,y107,y108,y109,y110,y111,y112,y113,y114,y115,y116,y117,y118,y119,y120,y121,y122,y123,y124,y125,y126,y127,y128,y129,y130,y131,y132,y133,y134,y135,y136,y137,y138,y139,y140,y141,y142,y143,y144,y145,y146,y147,y148,y149,y150,y151,y152,y153,y154,y155,y156,y157,y158,y159,y160,y161,y162,y163,y164,y165,y166,y167,y168,y169,y170,y171,y172,y173,y174,y175,y176,y177,y178,y179,y180,y181,y182,y183,y184,y185,y186,y187,y188,y189,y190,y191,y192,y193,y194,y195,y196,y197,y198,y199,y200,y201,y202,y203,y204,y205,y206,y207,y208,y209,y210,y211,y212,y213,y214,y215,y216,y217,y218,y219,y220,y221,y222,y223,y224,y225,y226,y227,y228,y229,y230,y231,y232,y233,y234,y235,y236,y237,y238,y239,y240,y241,y242,y243,y244,y245,y246,y247,y248,y249,y250,y251,y252,y253,y254,y255],[]⟩ w') :
  ca.wp Tryz.prog (Exit.then K Q) ⟨#[x0,x1,x2,x3,.int .i64 sf,x5,x6,x7,x8,x9,x10,x11,x12,x13,x14,x15,x16,.slice AL ls.length cL,x18,x19,.pointer (some ⟨q,0,none⟩),.int .i64 0,.slice none 0 0,x23,x24,x25,x26,x27,x28,x29,x30,x31,x32,x33,x34,x35,x36,x37,x38,x39,x40,x41,x42,x43,x44,x45,x46,x47,x48,x49,x50,x51,x52,x53,x54,x55,x56,x57,x58,x59,x60,x61,x62,x63,x64,x65,x66,x67,x68,x69,x70,x71,x72,x73,x74,x75,x76,x77,x78,x79,x80,x81,x82,x83,x84,x85,x86,x87,x88,x89,x90,x91,x92,x93,x94,x95,x96,x97,x98,x99,x100,x101,x102,x103,x104,x105,x106,x107,x108,x109,x110,x111,x112,x113,x114,x115,x116,x117,x118,x119,x120,x121,x122,x123,x124,x125,x126,x127,x128,x129,x130,x131,x132,x133,x134,x135,x136,x137,x138,x139,x140,x141,x142,x143,x144,x145,x146,x147,x148,x149,x150,x151,x152,x153,x154,x155,x156,x157,x158,x159,x160,x161,x162,x163,x164,x165,x166,x167,x168,x169,x170,x171,x172,x173,x174,x175,x176,x177,x178,x179,x180,x181,x182,x183,x184,x185,x186,x187,x188,x189,x190,x191,x192,x193,x194,x195,x196,x197,x198,x199,x200,x201,x202,x203,x204,x205,x206,x207,x208,x209,x210,x211,x212,x213,x214,x215,x216,x217,x218,x219,x220,x221,x222,x223,x224,x225,x226,x227,x228,x229,x230,x231,x232,x233,x234,x235,x236,x237,x238,x239,x240,x241,x242,x243,x244,x245,x246,x247,x248,x249,x250,x251,x252,x253,x254,x255],[]⟩ w:=by
 injection hC with hC
 injection hC with hC1 hC2
 subst hC1 hC2
 have HJL:=Zh (show J.l=[] from List.eq_nil_of_length_eq_zero (by have:=ht.len;omega))
 have H0:=Zh h.rows_nil
 have HR:=Zh hR
 have HT:=Zh ht
 have HPF:=Zh hp
 have HQ:=Zh hQ
 have hn1:(ls.length:Int)≤60:=by omega
 clear h hR ht hp hQ
 go_wp2_with fail
 go_loopw [21,22,23] (fun a21 a22 a23 wr=>∃ (i:Nat) (I':Hp) (S':Str) (J':Jn) (A':Option Addr) (c':Nat),a23=.int .i64 i∧a22=.slice A' J'.l.length c'∧a21=.int .i64 (J'.l.length:Nat)∧i≤ls.length∧I.sub I'∧St W I' wr (Zq184 (.slice A' J'.l.length c') (J'.l.map (·.data))::Zq8 p S'::jnHP q p J'::l)∧TM S' J' i) (fun _ _ a23 _=>ls.length - (intOf a23).toNat)
 case atStart=>exact ⟨0,I,S,J,none,0,rfl,by rw [HJL.out];rfl,by rw [HJL.out];rfl,Nat.zero_le _,Hp.sub.refl _,by rw [HJL.out];exact H0.out,HT.out⟩
 case round =>
  obtain ⟨i,I2,S2,J2,A2,c2,rfl,rfl,rfl,hi,hs2,h2,ht2⟩:=hrel
  clear H0 HT HJL
  have HS2:=Zh hs2
  have d0:decide ((i:Int)≤(ls.length:Int))=true:=decide_eq_true (by omega)
  have d0n:decide (i≤ls.length)=true:=decide_eq_true hi
  obtain ⟨S3,hfl,ht3⟩:=ht2.flush
  have hflu:=Zq517 (h2.pull 1 _ rfl |>.pull 2 _ rfl |>.pull 1 _ rfl) ht2.ks ht2.ok.jb
  rw [hfl] at hflu
  simp only at hflu
  have HFLU:=Zh hflu
  have HT3:=Zh ht3
  have HT2:=Zh ht2
  have H2:=Zh (h2.pull 1 _ rfl |>.pull 2 _ rfl |>.pull 1 _ rfl)
  obtain ⟨w2,hww⟩:∃ x,x=wr:=⟨_,rfl⟩
  rw [←hww] at HFLU H2 ⊢
  clear hs2 h2 ht2 hfl ht3 hflu hww
  have HBR:=Zh (show ∃ (I4:Hp) (S4:Str) (J4:Jn) (w4:World),w4=w2∧RowKit.Hid (St W I4 w4 (Zq8 p S4::jnHP q p J4::Zq184 (.slice A2 J2.l.length c2) (J2.l.map (·.data))::l))∧RowKit.Hid (TM S4 J4 i)∧RowKit.Hid (J4.l=J2.l)∧RowKit.Hid (I2.sub I4) from ⟨I2,S2,J2,w2,rfl,H2,HT2,Zh rfl,Zh (Hp.sub.refl _)⟩)
  have hcase:(i:Int)=sf∨¬ (i:Int)=sf:=Classical.em _
  rcases hcase with hsf|hsf
  ·subst hsf
   clear HBR
   go_wp2_with fail
   refine HFLU.out.mono ?_
   rintro e w4 ⟨I4,hs4,rfl,h4⟩
   dsimp only
   obtain ⟨S4,J4,H4,T4,HL4,HS4⟩:∃ (S4:Str) (J4:Jn),RowKit.Hid (St W I4 w4 (Zq8 p S4::jnHP q p J4::Zq184 (.slice A2 J2.l.length c2) (J2.l.map (·.data))::l))∧RowKit.Hid (TM S4 J4 i)∧RowKit.Hid (J4.l=J2.l)∧RowKit.Hid (I2.sub I4):=⟨_,_,Zh h4,HT3,Zh rfl,Zh hs4⟩
   clear h4 hs4 HFLU H2 HT2 HT3
   by_cases hil:i=ls.length
   ·subst hil
    have HTE:=T4
    go_wp2_with fail
    exact HQ.out _ _ _ _ _ _ _ _ _ _ _ _ _ _ _ _ _ _ _ _ _ _ _ _ _ _ _ _ _ _ _ _ _ _ _ _ _ _ _ _ _ _ _ _ _ _ _ _ _ _ _ _ _ _ _ _ _ _ _ _ _ _ _ _ _ _ _ _ _ _ _ _ _ _ _ _ _ _ _ _ _ _ _ _ _ _ _ _ _ _ _ _ _ _ _ _ _ _ _ _ _ _ _ _ _ _ _ _ _ _ _ _ _ _ _ _ _ _ _ _ _ _ _ _ _ _ _ _ _ _ _ _ _ _ _ _ _ _ _ _ _ _ _ _ _ _ _ _ _ _ _ _ _ _ _ _ _ _ _ _ _ _ _ _ _ _ _ _ _ _ _ _ _ _ _ _ _ _ _ _ _ _ _ _ _ _ _ _ _ _ _ _ _ _ _ _ _ _ _ _ _ _ _ _ _ _ _ _ _ _ _ _ _ _ _ _ _ _ _ _ _ _ _ _ _ _ _ _ _ _ _ _ _ _ _ _ _ _ _ _ _ _ _ _ _ _ _ _ _ _ I4 _ S4 J4 A2 c2 _ (by rw [HL4.out]) (HS2.out.trans HS4.out) (by rw [HL4.out];exact H4.out.pull 2 _ rfl) HTE.out
   have hlt:i<ls.length:=by omega
   have hneI:((i:Int)==(ls.length:Int))=false:=by simp;omega
   go_upto_region 15 with fail
   refine trims_app (by assumption) (by kernel_rfl) (by rw [HL4.out];exact H4.out) (by rw [HL4.out]) T4.out ((HR.out.mono HS2.out).mono HS4.out) (by omega) hlt HPF.out ?_
   intro z24 z25 z83 z84 z85 z86 z87 z88 z89 z90 z91 z92 z93 z94 z95 z96 z97 z98 z99 z100 z101 z102 I9 w9 S9 J9 A9 c9 n9 hn9 hs9 h9 ht9
   have HN9:=Zh hn9
   have HS9:=Zh (HS2.out.trans (HS4.out.trans hs9))
   have H9:=Zh h9
   have HT9:=Zh ht9
   clear hn9 hs9 h9 ht9 H4 T4 HL4 HS4
   go_wp2_with fail
   go_roundw
   case rel=>exact ⟨i+1,I9,S9,J9,A9,c9,by go_num,by rw [HN9.out],by rw [HN9.out],by omega,HS9.out,by rw [←HN9.out];exact H9.out,HT9.out⟩
   case measure=>first|(simp [intOf];done)|(simp [intOf];omega)|fail
  ·have d1:((i:Int)==sf)=false:=by simp;omega
   obtain ⟨I4,S4,J4,w4,hw4,H4,T4,HL4,HS4⟩:=HBR.out
   rw [←hw4]
   clear HFLU HT3 hw4 HBR H2 HT2
   by_cases hil:i=ls.length
   ·subst hil
    have HTE:=T4
    go_wp2_with fail
    exact HQ.out _ _ _ _ _ _ _ _ _ _ _ _ _ _ _ _ _ _ _ _ _ _ _ _ _ _ _ _ _ _ _ _ _ _ _ _ _ _ _ _ _ _ _ _ _ _ _ _ _ _ _ _ _ _ _ _ _ _ _ _ _ _ _ _ _ _ _ _ _ _ _ _ _ _ _ _ _ _ _ _ _ _ _ _ _ _ _ _ _ _ _ _ _ _ _ _ _ _ _ _ _ _ _ _ _ _ _ _ _ _ _ _ _ _ _ _ _ _ _ _ _ _ _ _ _ _ _ _ _ _ _ _ _ _ _ _ _ _ _ _ _ _ _ _ _ _ _ _ _ _ _ _ _ _ _ _ _ _ _ _ _ _ _ _ _ _ _ _ _ _ _ _ _ _ _ _ _ _ _ _ _ _ _ _ _ _ _ _ _ _ _ _ _ _ _ _ _ _ _ _ _ _ _ _ _ _ _ _ _ _ _ _ _ _ _ _ _ _ _ _ _ _ _ _ _ _ _ _ _ _ _ _ _ _ _ _ _ _ _ _ _ _ _ _ _ _ _ _ _ _ I4 _ S4 J4 A2 c2 _ (by rw [HL4.out]) (HS2.out.trans HS4.out) (by rw [HL4.out];exact H4.out.pull 2 _ rfl) HTE.out
   have hlt:i<ls.length:=by omega
   have hneI:((i:Int)==(ls.length:Int))=false:=by simp;omega
   go_upto_region 15 with fail
   refine trims_app (by assumption) (by kernel_rfl) (by rw [HL4.out];exact H4.out) (by rw [HL4.out]) T4.out ((HR.out.mono HS2.out).mono HS4.out) (by omega) hlt HPF.out ?_
   intro z24 z25 z83 z84 z85 z86 z87 z88 z89 z90 z91 z92 z93 z94 z95 z96 z97 z98 z99 z100 z101 z102 I9 w9 S9 J9 A9 c9 n9 hn9 hs9 h9 ht9
   have HN9:=Zh hn9
   have HS9:=Zh (HS2.out.trans (HS4.out.trans hs9))
   have H9:=Zh h9
   have HT9:=Zh ht9
   clear hn9 hs9 h9 ht9 H4 T4 HL4 HS4
   go_wp2_with fail
   go_roundw
   case rel=>exact ⟨i+1,I9,S9,J9,A9,c9,by go_num,by rw [HN9.out],by rw [HN9.out],by omega,HS9.out,by rw [←HN9.out];exact H9.out,HT9.out⟩
   case measure=>first|(simp [intOf];done)|(simp [intOf];omega)|fail
end
end Go.Proofs.YtpjchngjhijgmaaGreat
