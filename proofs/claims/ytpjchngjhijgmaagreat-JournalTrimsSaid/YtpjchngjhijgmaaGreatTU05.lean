import Derived.Test.YtpjchngjhijgmaaGreatTU04
set_option linter.all false
namespace Go.Proofs.YtpjchngjhijgmaaGreat
open Go.RowKit
section
variable {W w : World} {I : Hp} {l : List HP}
set_option maxRecDepth 4000
set_option maxHeartbeats 8000000
theorem trims_loop2 {ca cb:Code} {Q:Exit→Act→World→Prop} {K:Act→World→Prop} (hK:∀ x y,cb.wp Tryz.prog Q x y→K x y) (hC:(Tryz.f9).body.bind (fromR 34)=some (.seq ca cb)) {x0 x1 x2 x3 x4 x5 x6 x7 x8 x9 x10 x11 x12 x13 x14 x15 x16 x17 x18 x19 x21 x23 x24 x25 x26 x27 x29 x30 x31 x32 x33 x35 x36 x37 x38 x39 x40 x41 x42 x43 x44 x45 x46 x47 x48 x49 x50 x51 x52 x53 x54 x55 x56 x57 x58 x59 x60 x61 x62 x63 x64 x65 x66 x67 x68 x69 x70 x71 x72 x73 x74 x75 x76 x77 x78 x79 x80 x81 x82 x83 x84 x85 x86 x87 x88 x89 x90 x91 x92 x93 x94 x95 x96 x97 x98 x99 x100 x101 x102 x103 x104 x105 x106 x107 x108 x109 x110 x111 x112 x113 x114 x115 x116 x117 x118 x119 x120 x121 x122 x123 x124 x125 x126 x127 x128 x129 x130 x131 x132 x133 x134 x135 x136 x137 x138 x139 x140 x141 x142 x143 x144 x145 x146 x147 x148 x149 x150 x151 x152 x153 x154 x155 x156 x157 x158 x159 x160 x161 x162 x163 x164 x165 x166 x167 x168 x169 x170 x171 x172 x173 x174 x175 x176 x177 x178 x179 x180 x181 x182 x183 x184 x185 x186 x187 x188 x189 x190 x191 x192 x193 x194 x195 x196 x197 x198 x199 x200 x201 x202 x203 x204 x205 x206 x207 x208 x209 x210 x211 x212 x213 x214 x215 x216 x217 x218 x219 x220 x221 x222 x223 x224 x225 x226 x227 x228 x229 x230 x231 x232 x233 x234 x235 x236 x237 x238 x239 x240 x241 x242 x243 x244 x245 x246 x247 x248 x249 x250 x251 x252 x253 x254 x255:Value} {q cX c22 n:Nat} {es:List En} {L:List (List Int)} {AX A22:Option Addr}
  (h:St W I w (Zq26 (.slice AX es.length cX) es::Zq184 (.slice A22 L.length c22) L::l)) (hn:L.length≤300) (hm:es.map (·.data)=L.drop n)
  (hQ:∀ (y0 y1 y2 y3 y4 y5 y6 y7 y8 y9 y10 y11 y12 y13 y14 y15 y16 y17 y18 y19 y21 y22 y23 y24 y25 y26 y27 y28 y29 y30 y31 y32 y33 y34 y35 y36 y37 y38 y39 y40 y41 y42 y43 y44 y45 y46 y47 y48 y49 y50 y51 y52 y53 y54 y55 y56 y57 y58 y59 y60 y61 y62 y63 y64 y65 y66 y67 y68 y69 y70 y71 y72 y73 y74 y75 y76 y77 y78 y79 y80 y81 y82 y83 y84 y85 y86 y87 y88 y89 y90 y91 y92 y93 y94 y95 y96 y97 y98 y99 y100 y101 y102 y103 y104 y105 y106 y107 y108 y109 y110 y111 y112 y113 y114 y115 y116 y117 y118 y119 y120 y121 y122 y123 y124 y125 y126 y127 y128 y129 y130 y131 y132 y133 y134 y135 y136 y137 y138 y139 y140 y141 y142 y143 y144 y145 y146 y147 y148 y149 y150 y151 y152 y153 y154 y155 y156 y157 y158 y159 y160 y161 y162 y163 y164 y165 y166 y167 y168 y169 y170 y171 y172 y173 y174 y175 y176 y177 y178 y179 y180 y181 y182 y183 y184 y185 y186 y187 y188 y189 y190 y191 y192 y193 y194 y195 y196 y197 y198 y199 y200 y201 y202 y203 y204 y205 y206 y207 y208 y209 y210 y211 y212 y213 y214 y215 y216 y217 y218 y219 y220 y221 y222 y223 y224 y225 y226 y227 y228 y229 y230 y231 y232 y233 y234 y235 y236 y237 y238 y239 y240 y241 y242 y243 y244 y245 y246 y247 y248 y249 y250 y251 y252 y253 y254 y255:Value) (w':World),St W I w' (Zq26 (.slice AX es.length cX) es::Zq184 (.slice A22 L.length c22) L::l)→Q .normal ⟨#[y0,y1,y2,y3,y4,y5,y6,y7,y8,y9,y10,y11,y12,y13,y14,y15,y16,y17,y18,y19,.pointer (some ⟨q,0,none⟩),y21,y22,y23,y24,y25,y26,y27,y28,y29,y30,y31,y32,y33,y34,y35,y36,y37,y38,y39,y40,y41,y42,y43,y44,y45,y46,y47,y48,y49,y50,y51,y52,y53,y54,y55,y56,y57,y58,y59,y60,y61,y62,y63,y64,y65,y66,y67,y68,y69,y70,y71,y72,y73,y74,y75,y76,y77,y78,y79,y80,y81,y82,y83,y84,y85,y86,y87,y88,y89,y90,y91,y92,y93,y94,y95,y96,y97,y98,y99,y100,y101,y102,y103,y104,y105,y106,y107,y108,y109,y110,y111,y112,y113,y114,y115,y116,y117,y118,y119,y120,y121,y122,y123,y124,y125,y126,y127,y128,y129,y130,y131,y132,y133,y134,y135,y136,y137,y138,y139,y140,y141,y142,y143,y144,y145,y146,y147,y148,y149,y150,y151,y152,y153,y154,y155,y156,y157,y158,y159,y160,y161,y162,y163,y164,y165,y166,y167,y168,y169,y170,y171,y172,y173,y174,y175,y176,y177,y178,y179,y180,y181,y182,y183,y184,y185,y186,y187,y188,y189,y190,y191,y192,y193,y194,y195,y196,y197,y198,y199,y200,y201,y202,y203,y204,y205,y206,y207,y208,y209,y210,y211,y212,y213,y214,y215,y216,y217,y218,y219,y220,y221,y222,y223,y224,y225,y226,y227,y228,y229,y230,y231,y232,y233,y234,y235,y236,y237,y238,y239,y240,y241,y242,y243,y244,y245,y246,y247,y248,y249,y250,y251,y252,y253,y254,y255],[]⟩ w') :
  ca.wp Tryz.prog (Exit.then K Q) ⟨#[x0,x1,x2,x3,x4,x5,x6,x7,x8,x9,x10,x11,x12,x13,x14,x15,x16,x17,x18,x19,.pointer (some ⟨q,0,none⟩),x21,.slice A22 L.length c22,x23,x24,x25,x26,x27,.int .i64 (n:Nat),x29,x30,x31,x32,x33,.slice AX es.length cX,x35,x36,x37,x38,x39,x40,x41,x42,x43,x44,x45,x46,x47,x48,x49,x50,x51,x52,x53,x54,x55,x56,x57,x58,x59,x60,x61,x62,x63,x64,x65,x66,x67,x68,x69,x70,x71,x72,x73,x74,x75,x76,x77,x78,x79,x80,x81,x82,x83,x84,x85,x86,x87,x88,x89,x90,x91,x92,x93,x94,x95,x96,x97,x98,x99,x100,x101,x102,x103,x104,x105,x106,x107,x108,x109,x110,x111,x112,x113,x114,x115,x116,x117,x118,x119,x120,x121,x122,x123,x124,x125,x126,x127,x128,x129,x130,x131,x132,x133,x134,x135,x136,x137,x138,x139,x140,x141,x142,x143,x144,x145,x146,x147,x148,x149,x150,x151,x152,x153,x154,x155,x156,x157,x158,x159,x160,x161,x162,x163,x164,x165,x166,x167,x168,x169,x170,x171,x172,x173,x174,x175,x176,x177,x178,x179,x180,x181,x182,x183,x184,x185,x186,x187,x188,x189,x190,x191,x192,x193,x194,x195,x196,x197,x198,x199,x200,x201,x202,x203,x204,x205,x206,x207,x208,x209,x210,x211,x212,x213,x214,x215,x216,x217,x218,x219,x220,x221,x222,x223,x224,x225,x226,x227,x228,x229,x230,x231,x232,x233,x234,x235,x236,x237,x238,x239,x240,x241,x242,x243,x244,x245,x246,x247,x248,x249,x250,x251,x252,x253,x254,x255],[]⟩ w:=by
 injection hC with hC
 injection hC with hC1 hC2
 subst hC1 hC2
 have H0:=Zh h
 have HM:=Zh hm
 have HQ:=Zh hQ
 have hle:es.length=L.length - n:=by
  have:=congrArg List.length hm
  rw [List.length_map,List.length_drop] at this
  omega
 have HLE:=Zh hle
 have hn1:(es.length:Int)≤300:=by omega
 clear h hm hQ hle
 go_wp2_with fail
 go_loopw [36] (fun a36 wr=>∃ (i:Nat),a36=.int .i64 i∧i≤es.length∧St W I wr (Zq26 (.slice AX es.length cX) es::Zq184 (.slice A22 L.length c22) L::l)) (fun a36 _=>es.length - (intOf a36).toNat)
 case atStart=>exact ⟨0,rfl,Nat.zero_le _,H0.out⟩
 case round =>
  obtain ⟨i,rfl,hi,h2⟩:=hrel
  clear H0
  by_cases hlt:i<es.length
  ·have d0:decide ((i:Int)<(es.length:Int))=true:=decide_eq_true (by omega)
   obtain ⟨e,he⟩:∃ e,es[i]?=some e:=⟨_,List.getElem?_eq_getElem hlt⟩
   obtain ⟨k,hk⟩:∃ k,k=n+i:=⟨_,rfl⟩
   have hw9:IntKind.i64.wrap ((n:Int)+(i:Int))=(k:Int):=by rw [IntKind.wrap_i64];have:=HLE.out;omega
   have hLi:L[k]?=some e.data:=by
    have h9:(es.map (·.data))[i]?=some e.data:=by rw [List.getElem?_map,he];rfl
    rw [HM.out,List.getElem?_drop,←hk] at h9
    exact h9
   have hlt2:k<L.length:=by have:=HLE.out;omega
   obtain ⟨g1,q1,c1,v1,e1,hg1,hb1,hy1,x0,x1,x2⟩:=h2.ents_cell he
   obtain ⟨g2,q2,c2,v2,e2,hg2,hb2,hy2,y0⟩:=(h2.pull 1 _ rfl).rows_cell hLi
   simp only [Value.slice.injEq] at e1 e2
   obtain ⟨rfl,hx1,hx2⟩:=e1
   obtain ⟨rfl,hx3,hx4⟩:=e2
   clear hx1 hx2 hx3 hx4 x0 x1
   have H2:=Zh h2
   have HB1:=Zh hb1
   have HB2:=Zh hb2
   have HMK:=Zh (show ∀ w',Below wr.heap.size wr w'→(w'.cell? ⟨g1,q1+i*3+2,none⟩=some v1∧w'.cell? ⟨g2,q2+k,none⟩=some v2∧(convert 46 9 v1).run Tryz.prog w'=.ok (.string (strOfNums e.data)) w'∧(convert 46 9 v2).run Tryz.prog w'=.ok (.string (strOfNums e.data)) w') from fun w' hb=>by
    have hc:∀ g o,g<wr.heap.size→w'.cell? ⟨g,o,none⟩=wr.cell? ⟨g,o,none⟩:=fun g o hg=>hb.cell (p:=⟨g,o,none⟩) hg
    have h3:=H2.out.keep hb
    rw [hc _ _ hg1,hc _ _ hg2]
    exact ⟨x2,y0,Zq250 (Zq29 h3 HB1.out),Zq250 (Zq29 h3 HB2.out)⟩)
   obtain ⟨A1,k1,rfl⟩:=hb1.isSl
   obtain ⟨A2,k2,rfl⟩:=hb2.isSl
   obtain ⟨w2,hw2⟩:∃ x,x=wr:=⟨_,rfl⟩
   rw [←hw2] at H2 HMK ⊢
   clear h2 he hLi hb1 hb2 hy1 hy2 hg1 hg2 x2 y0 hw2 hk
   go_upto_region 37 with fail
   refine Zq37 (fun w'=>w'.cell? ⟨g1,q1+i*3+2,none⟩=some (.slice A1 e.data.length k1)∧w'.cell? ⟨g2,q2+k,none⟩=some (.slice A2 e.data.length k2)∧(convert 46 9 (.slice A1 e.data.length k1)).run Tryz.prog w'=.ok (.string (strOfNums e.data)) w'∧(convert 46 9 (.slice A2 e.data.length k2)).run Tryz.prog w'=.ok (.string (strOfNums e.data)) w') [(0,false),(1,false),(2,false),(3,false),(4,false),(5,false),(6,false),(7,false),(8,false),(9,false),(10,false),(11,false),(12,false),(13,false)] [] [] (by kernel_rfl) (by kernel_rfl) (by (intro w' hb;exact HMK.out _ (((Below.refl _ _).drew).trans hb))) ?_
   repeat (first|(refine Zq41 (by rfl) _ (by rfl) (by intro w;go_simp;try with_reducible rfl) ?_;(try simp only [Act.put,List.setIfInBounds_toArray,Zl4,Zl5]))|(refine Zq98 (by rfl) _ (by rfl) (by (intro w hSw;(try dsimp only at hSw);go_simp;try with_reducible rfl)) ?_;(try simp only [Act.put,List.setIfInBounds_toArray,Zl4,Zl5]))|(refine Zq60 (by rfl) (by rfl) ?_;(try simp only [Act.put,List.setIfInBounds_toArray,Zl4,Zl5]))|fail)
   refine Zq266 ?_
   refine Zq421 ?_
   rintro w9 hz9
   have H9:=Zh (H2.out.drew.keep hz9.below)
   clear hz9 H2 HMK HB1 HB2
   go_wp2_with fail
   refine NoPanic.normal ?_
   go_wp2_with fail
   go_roundw
   case rel=>exact ⟨i+1,by go_num,by omega,H9.out⟩
   case measure=>first|(simp [intOf];done)|(simp [intOf];omega)|fail
  ·obtain rfl:i=es.length:=by omega
   have d0:decide (((es.length:Nat):Int)<(es.length:Int))=false:=decide_eq_false (by omega)
   have H2:=Zh h2
   clear h2
   go_wp2_with fail
   exact HQ.out _ _ _ _ _ _ _ _ _ _ _ _ _ _ _ _ _ _ _ _ _ _ _ _ _ _ _ _ _ _ _ _ _ _ _ _ _ _ _ _ _ _ _ _ _ _ _ _ _ _ _ _ _ _ _ _ _ _ _ _ _ _ _ _ _ _ _ _ _ _ _ _ _ _ _ _ _ _ _ _ _ _ _ _ _ _ _ _ _ _ _ _ _ _ _ _ _ _ _ _ _ _ _ _ _ _ _ _ _ _ _ _ _ _ _ _ _ _ _ _ _ _ _ _ _ _ _ _ _ _ _ _ _ _ _ _ _ _ _ _ _ _ _ _ _ _ _ _ _ _ _ _ _ _ _ _ _ _ _ _ _ _ _ _ _ _ _ _ _ _ _ _ _ _ _ _ _ _ _ _ _ _ _ _ _ _ _ _ _ _ _ _ _ _ _ _ _ _ _ _ _ _ _ _ _ _ _ _ _ _ _ _ _ _ _ _ _ _ _ _ _ _ _ _ _ _ _ _ _ _ _ _ _ _ _ _ _ _ _ _ _ _ _ _ _ _ _ _ _ _ _ _ _ _ _ _ H2.out
theorem trims_end {ca cb:Code} {Q:Exit→Act→World→Prop} {K:Act→World→Prop} (hK:∀ x y,cb.wp Tryz.prog Q x y→K x y) (hC:(Tryz.f9).body.bind (fromR 39)=some (.seq ca cb)) {x0 x1 x2 x3 x4 x5 x6 x7 x8 x9 x10 x11 x12 x13 x14 x15 x16 x17 x18 x19 x21 x22 x23 x24 x25 x26 x27 x28 x29 x30 x31 x32 x33 x34 x35 x36 x37 x38 x39 x40 x41 x42 x43 x44 x45 x46 x47 x48 x49 x50 x51 x52 x53 x54 x55 x56 x57 x58 x59 x60 x61 x62 x63 x64 x65 x66 x67 x68 x69 x70 x71 x72 x73 x74 x75 x76 x77 x78 x79 x80 x81 x82 x83 x84 x85 x86 x87 x88 x89 x90 x91 x92 x93 x94 x95 x96 x97 x98 x99 x100 x101 x102 x103 x104 x105 x106 x107 x108 x109 x110 x111 x112 x113 x114 x115 x116 x117 x118 x119 x120 x121 x122 x123 x124 x125 x126 x127 x128 x129 x130 x131 x132 x133 x134 x135 x136 x137 x138 x139 x140 x141 x142 x143 x144 x145 x146 x147 x148 x149 x150 x151 x152 x153 x154 x155 x156 x157 x158 x159 x160 x161 x162 x163 x164 x165 x166 x167 x168 x169 x170 x171 x172 x173 x174 x175 x176 x177 x178 x179 x180 x181 x182 x183 x184 x185 x186 x187 x188 x189 x190 x191 x192 x193 x194 x195 x196 x197 x198 x199 x200 x201 x202 x203 x204 x205 x206 x207 x208 x209 x210 x211 x212 x213 x214 x215 x216 x217 x218 x219 x220 x221 x222 x223 x224 x225 x226 x227 x228 x229 x230 x231 x232 x233 x234 x235 x236 x237 x238 x239 x240 x241 x242 x243 x244 x245 x246 x247 x248 x249 x250 x251 x252 x253 x254 x255:Value} {p q:Nat} {S:Str} {J:Jn}
  (h:St W I w (Zq8 p S::jnHP q p J::l)) (hj:JOK S J) (ha:S.armed=false) (hk:Keeps S 300) (hd:(doneJ J).1=0)
  (hQ:∀ (y0 y1 y2 y3 y4 y5 y6 y7 y8 y9 y10 y11 y12 y13 y14 y15 y17 y18 y19 y20 y21 y22 y23 y24 y25 y26 y27 y28 y29 y30 y31 y32 y33 y34 y35 y36 y37 y38 y39 y40 y41 y42 y43 y44 y45 y46 y47 y48 y49 y50 y51 y52 y53 y54 y55 y56 y57 y58 y59 y60 y61 y62 y63 y64 y65 y66 y67 y68 y69 y70 y71 y72 y73 y74 y75 y76 y77 y78 y79 y80 y81 y82 y83 y84 y85 y86 y87 y88 y89 y90 y91 y92 y93 y94 y95 y96 y97 y98 y99 y100 y101 y102 y103 y104 y105 y106 y107 y108 y109 y110 y111 y112 y113 y114 y115 y116 y117 y118 y119 y120 y121 y122 y123 y124 y125 y126 y127 y128 y129 y130 y131 y132 y133 y134 y135 y136 y137 y138 y139 y140 y141 y142 y143 y144 y145 y146 y147 y148 y149 y150 y151 y152 y153 y154 y155 y156 y157 y158 y159 y160 y161 y162 y163 y164 y165 y166 y167 y168 y169 y170 y171 y172 y173 y174 y175 y176 y177 y178 y179 y180 y181 y182 y183 y184 y185 y186 y187 y188 y189 y190 y191 y192 y193 y194 y195 y196 y197 y198 y199 y200 y201 y202 y203 y204 y205 y206 y207 y208 y209 y210 y211 y212 y213 y214 y215 y216 y217 y218 y219 y220 y221 y222 y223 y224 y225 y226 y227 y228 y229 y230 y231 y232 y233 y234 y235 y236 y237 y238 y239 y240 y241 y242 y243 y244 y245 y246 y247 y248 y249 y250 y251 y252 y253 y254 y255:Value) (w':World),Below W.heap.size W w'→Q .ret ⟨#[y0,y1,y2,y3,y4,y5,y6,y7,y8,y9,y10,y11,y12,y13,y14,y15,.bool true,y17,y18,y19,y20,y21,y22,y23,y24,y25,y26,y27,y28,y29,y30,y31,y32,y33,y34,y35,y36,y37,y38,y39,y40,y41,y42,y43,y44,y45,y46,y47,y48,y49,y50,y51,y52,y53,y54,y55,y56,y57,y58,y59,y60,y61,y62,y63,y64,y65,y66,y67,y68,y69,y70,y71,y72,y73,y74,y75,y76,y77,y78,y79,y80,y81,y82,y83,y84,y85,y86,y87,y88,y89,y90,y91,y92,y93,y94,y95,y96,y97,y98,y99,y100,y101,y102,y103,y104,y105,y106,y107,y108,y109,y110,y111,y112,y113,y114,y115,y116,y117,y118,y119,y120,y121,y122,y123,y124,y125,y126,y127,y128,y129,y130,y131,y132,y133,y134,y135,y136,y137,y138,y139,y140,y141,y142,y143,y144,y145,y146,y147,y148,y149,y150,y151,y152,y153,y154,y155,y156,y157,y158,y159,y160,y161,y162,y163,y164,y165,y166,y167,y168,y169,y170,y171,y172,y173,y174,y175,y176,y177,y178,y179,y180,y181,y182,y183,y184,y185,y186,y187,y188,y189,y190,y191,y192,y193,y194,y195,y196,y197,y198,y199,y200,y201,y202,y203,y204,y205,y206,y207,y208,y209,y210,y211,y212,y213,y214,y215,y216,y217,y218,y219,y220,y221,y222,y223,y224,y225,y226,y227,y228,y229,y230,y231,y232,y233,y234,y235,y236,y237,y238,y239,y240,y241,y242,y243,y244,y245,y246,y247,y248,y249,y250,y251,y252,y253,y254,y255],[]⟩ w') :
  ca.wp Tryz.prog (Exit.then K Q) ⟨#[x0,x1,x2,x3,x4,x5,x6,x7,x8,x9,x10,x11,x12,x13,x14,x15,x16,x17,x18,x19,.pointer (some ⟨q,0,none⟩),x21,x22,x23,x24,x25,x26,x27,x28,x29,x30,x31,x32,x33,x34,x35,x36,x37,x38,x39,x40,x41,x42,x43,x44,x45,x46,x47,x48,x49,x50,x51,x52,x53,x54,x55,x56,x57,x58,x59,x60,x61,x62,x63,x64,x65,x66,x67,x68,x69,x70,x71,x72,x73,x74,x75,x76,x77,x78,x79,x80,x81,x82,x83,x84,x85,x86,x87,x88,x89,x90,x91,x92,x93,x94,x95,x96,x97,x98,x99,x100,x101,x102,x103,x104,x105,x106,x107,x108,x109,x110,x111,x112,x113,x114,x115,x116,x117,x118,x119,x120,x121,x122,x123,x124,x125,x126,x127,x128,x129,x130,x131,x132,x133,x134,x135,x136,x137,x138,x139,x140,x141,x142,x143,x144,x145,x146,x147,x148,x149,x150,x151,x152,x153,x154,x155,x156,x157,x158,x159,x160,x161,x162,x163,x164,x165,x166,x167,x168,x169,x170,x171,x172,x173,x174,x175,x176,x177,x178,x179,x180,x181,x182,x183,x184,x185,x186,x187,x188,x189,x190,x191,x192,x193,x194,x195,x196,x197,x198,x199,x200,x201,x202,x203,x204,x205,x206,x207,x208,x209,x210,x211,x212,x213,x214,x215,x216,x217,x218,x219,x220,x221,x222,x223,x224,x225,x226,x227,x228,x229,x230,x231,x232,x233,x234,x235,x236,x237,x238,x239,x240,x241,x242,x243,x244,x245,x246,x247,x248,x249,x250,x251,x252,x253,x254,x255],[]⟩ w:=by
 injection hC with hC
 injection hC with hC1 hC2
 subst hC1 hC2
 have ht:=Zq533 (m:=100) h hj ha hk
 rw [hd] at ht
 have HT:=Zh ht
 have HQ:=Zh hQ
 clear h hj ha hk hd ht hQ
 go_wp2_with fail
 refine HT.out.mono ?_
 rintro e w2 ⟨I2,S2,hs2,rfl,h2,_,_,_⟩
 dsimp only
 have HB:=Zh h2.below
 clear h2 hs2 HT
 go_wp2_with fail
 refine (Zq182 _).mono ?_
 rintro e w3 ⟨rfl,hb3⟩
 dsimp only
 have HB3:=Zh (HB.out.trans (hb3.mono HB.out.size))
 clear hb3
 go_wp2_with fail
 exact HQ.out _ _ _ _ _ _ _ _ _ _ _ _ _ _ _ _ _ _ _ _ _ _ _ _ _ _ _ _ _ _ _ _ _ _ _ _ _ _ _ _ _ _ _ _ _ _ _ _ _ _ _ _ _ _ _ _ _ _ _ _ _ _ _ _ _ _ _ _ _ _ _ _ _ _ _ _ _ _ _ _ _ _ _ _ _ _ _ _ _ _ _ _ _ _ _ _ _ _ _ _ _ _ _ _ _ _ _ _ _ _ _ _ _ _ _ _ _ _ _ _ _ _ _ _ _ _ _ _ _ _ _ _ _ _ _ _ _ _ _ _ _ _ _ _ _ _ _ _ _ _ _ _ _ _ _ _ _ _ _ _ _ _ _ _ _ _ _ _ _ _ _ _ _ _ _ _ _ _ _ _ _ _ _ _ _ _ _ _ _ _ _ _ _ _ _ _ _ _ _ _ _ _ _ _ _ _ _ _ _ _ _ _ _ _ _ _ _ _ _ _ _ _ _ _ _ _ _ _ _ _ _ _ _ _ _ _ _ _ _ _ _ _ _ _ _ _ _ _ _ _ _ _ _ _ _ _ HB3.out
end
end Go.Proofs.YtpjchngjhijgmaaGreat
