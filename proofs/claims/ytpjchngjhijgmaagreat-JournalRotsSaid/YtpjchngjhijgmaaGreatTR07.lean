import Derived.Test.YtpjchngjhijgmaaGreatTR06
set_option linter.all false
namespace Go.Proofs.YtpjchngjhijgmaaGreat
open Go.RowKit
section
variable {W w : World} {I : Hp} {l : List HP}
set_option maxRecDepth 4000
set_option maxHeartbeats 8000000
theorem cell_ltR {b i:Nat} {v:Value} (h:w.cell? ⟨b,i,none⟩=some v):b<w.heap.size:=by
 by_cases hb:b<w.heap.size
 ·exact hb
 ·exfalso
  unfold World.cell? at h
  simp [Array.getElem?_eq_none (by omega:w.heap.size≤b)] at h
theorem rots_loop {ca cb:Code} {Q:Exit→Act→World→Prop} {K:Act→World→Prop} (hK:∀ x y,cb.wp Tryz.prog Q x y→K x y) (hC:(Tryz.f5).body.bind (fromR 23)=some (.seq ca cb)) {x0 x1 x2 x3 x5 x6 x7 x8 x9 x10 x11 x12 x13 x14 x15 x17 x18 x19 x20 x21 x22 x23 x24 x26 x27 x28 x29 x30 x31 x32 x33 x34 x35 x36 x37 x38 x39 x40 x41 x42 x43 x44 x45 x46 x47 x48 x49 x50 x51 x52 x53 x54 x55 x56 x57 x58 x59 x60 x61 x62 x63 x64 x65 x66 x67 x68 x69 x70 x71 x72 x73 x74 x75 x76 x77 x78 x79 x80 x81 x82 x83 x84 x85 x86 x87 x88 x89 x90 x91 x92 x93 x94 x95 x96 x97 x98 x99 x100 x101 x102 x103 x104 x105 x106 x107 x108 x109 x110 x111 x112 x113 x114 x115 x116 x117 x118 x119 x120 x121 x122 x123 x124 x125 x126 x127 x128 x129 x130 x131 x132 x133 x134 x135 x136 x137 x138 x139 x140 x141 x142 x143 x144 x145 x146 x147 x148 x149 x150 x151 x152 x153 x154 x155 x156 x157 x158 x159 x160 x161 x162 x163:Value} {n cX cR:Nat} {es:List En} {ps:List (List Int)} {AX AR:Option Addr}
  (h:St W I w (Zq26 (.slice AX es.length cX) es::l)) (hR:RowsI I (.slice AR ps.length cR) ps) (hn:n=es.length) (hl:n≤100) (hs:∀ (i:Nat) (e:En),es[i]?=some e→e.seq=(i:Int)+1∧ps[i]?=some e.data)
  (hQ:∀ (y0 y1 y2 y3 y4 y5 y6 y7 y8 y9 y10 y11 y12 y13 y14 y15 y16 y17 y18 y19 y20 y21 y22 y23 y24 y25 y26 y27 y28 y29 y30 y31 y32 y33 y34 y35 y36 y37 y38 y39 y40 y41 y42 y43 y44 y45 y46 y47 y48 y49 y50 y51 y52 y53 y54 y55 y56 y57 y58 y59 y60 y61 y62 y63 y64 y65 y66 y67 y68 y69 y70 y71 y72 y73 y74 y75 y76 y77 y78 y79 y80 y81 y82 y83 y84 y85 y86 y87 y88 y89 y90 y91 y92 y93 y94 y95 y96 y97 y98 y99 y100 y101 y102 y103 y104 y105 y106 y107 y108 y109 y110 y111 y112 y113 y114 y115 y116 y117 y118 y119 y120 y121 y122 y123 y124 y125 y126 y127 y128 y129 y130 y131 y132 y133 y134 y135 y136 y137 y138 y139 y140 y141 y142 y143 y144 y145 y146 y147 y148 y149 y150 y151 y152 y153 y154 y155 y156 y157 y158 y159 y160 y161 y162 y163:Value) (w':World),Below W.heap.size W w'→Q .normal ⟨#[y0,y1,y2,y3,y4,y5,y6,y7,y8,y9,y10,y11,y12,y13,y14,y15,y16,y17,y18,y19,y20,y21,y22,y23,y24,y25,y26,y27,y28,y29,y30,y31,y32,y33,y34,y35,y36,y37,y38,y39,y40,y41,y42,y43,y44,y45,y46,y47,y48,y49,y50,y51,y52,y53,y54,y55,y56,y57,y58,y59,y60,y61,y62,y63,y64,y65,y66,y67,y68,y69,y70,y71,y72,y73,y74,y75,y76,y77,y78,y79,y80,y81,y82,y83,y84,y85,y86,y87,y88,y89,y90,y91,y92,y93,y94,y95,y96,y97,y98,y99,y100,y101,y102,y103,y104,y105,y106,y107,y108,y109,y110,y111,y112,y113,y114,y115,y116,y117,y118,y119,y120,y121,y122,y123,y124,y125,y126,y127,y128,y129,y130,y131,y132,y133,y134,y135,y136,y137,y138,y139,y140,y141,y142,y143,y144,y145,y146,y147,y148,y149,y150,y151,y152,y153,y154,y155,y156,y157,y158,y159,y160,y161,y162,y163],[]⟩ w') :
  ca.wp Tryz.prog (Exit.then K Q) ⟨#[x0,x1,x2,x3,.int .i64 (n:Nat),x5,x6,x7,x8,x9,x10,x11,x12,x13,x14,x15,.slice AR ps.length cR,x17,x18,x19,x20,x21,x22,x23,x24,.slice AX n cX,x26,x27,x28,x29,x30,x31,x32,x33,x34,x35,x36,x37,x38,x39,x40,x41,x42,x43,x44,x45,x46,x47,x48,x49,x50,x51,x52,x53,x54,x55,x56,x57,x58,x59,x60,x61,x62,x63,x64,x65,x66,x67,x68,x69,x70,x71,x72,x73,x74,x75,x76,x77,x78,x79,x80,x81,x82,x83,x84,x85,x86,x87,x88,x89,x90,x91,x92,x93,x94,x95,x96,x97,x98,x99,x100,x101,x102,x103,x104,x105,x106,x107,x108,x109,x110,x111,x112,x113,x114,x115,x116,x117,x118,x119,x120,x121,x122,x123,x124,x125,x126,x127,x128,x129,x130,x131,x132,x133,x134,x135,x136,x137,x138,x139,x140,x141,x142,x143,x144,x145,x146,x147,x148,x149,x150,x151,x152,x153,x154,x155,x156,x157,x158,x159,x160,x161,x162,x163],[]⟩ w:=by
 injection hC with hC
 injection hC with hC1 hC2
 subst hC1 hC2
 subst hn
 have H0:=Zh h
 have HR:=Zh hR
 have HS:=Zh hs
 have HQ:=Zh hQ
 have hn1:(es.length:Int)≤100:=by omega
 clear h hR hs hQ
 go_wp2_with fail
 go_loopw [27] (fun a27 wr=>∃ (i:Nat),a27=.int .i64 i∧i≤es.length∧St W I wr (Zq26 (.slice AX es.length cX) es::l)) (fun a27 _=>es.length - (intOf a27).toNat)
 case atStart=>exact ⟨0,rfl,Nat.zero_le _,H0.out⟩
 case round =>
  obtain ⟨i,rfl,hi,h2⟩:=hrel
  clear H0
  by_cases hlt:i<es.length
  ·have d0:decide ((i:Int)<(es.length:Int))=true:=decide_eq_true (by omega)
   obtain ⟨e,he⟩:∃ e,es[i]?=some e:=⟨_,List.getElem?_eq_getElem hlt⟩
   obtain ⟨hsq,hpi⟩:=HS.out i e he
   have hlt2:i<ps.length:=(List.getElem?_eq_some_iff.1 hpi).1
   have hw9:IntKind.i64.wrap ((i:Int)+1)=(i:Int)+1:=by rw [IntKind.wrap_i64];omega
   obtain ⟨g1,q1,c1,v1,e1,hg1,hb1,hy1,x0,x1,x2⟩:=h2.ents_cell he
   obtain ⟨g2,q2,A2,k2,rfl,hb2,hy2⟩:=HR.out.cells hpi
   have y0:=hy2 (Hp.sub.refl _) h2
   have hg2:=cell_ltR y0
   rw [hsq] at x1
   simp only [Value.slice.injEq] at e1
   obtain ⟨rfl,hx1,hx2⟩:=e1
   clear hx1 hx2 x0
   have H2:=Zh h2
   have HB1:=Zh hb1
   have HB2:=Zh hb2
   obtain ⟨A1,k1,rfl⟩:=hb1.isSl
   have HMK:=Zh (show ∀ w',Below wr.heap.size wr w'→(w'.cell? ⟨g1,q1+i*3+1,none⟩=some (.int .i64 ((i:Int)+1))∧w'.cell? ⟨g1,q1+i*3+2,none⟩=some (.slice A1 e.data.length k1)∧w'.cell? ⟨g2,q2+i,none⟩=some (.slice A2 e.data.length k2)∧(convert 46 9 (.slice A1 e.data.length k1)).run Tryz.prog w'=.ok (.string (strOfNums e.data)) w'∧(convert 46 9 (.slice A2 e.data.length k2)).run Tryz.prog w'=.ok (.string (strOfNums e.data)) w') from fun w' hb=>by
    have hc:∀ g o,g<wr.heap.size→w'.cell? ⟨g,o,none⟩=wr.cell? ⟨g,o,none⟩:=fun g o hg=>hb.cell (p:=⟨g,o,none⟩) hg
    have h3:=H2.out.keep hb
    rw [hc _ _ hg1,hc _ _ hg1,hc _ _ hg2]
    exact ⟨x1,x2,y0,Zq250 (Zq29 h3 HB1.out),Zq250 (Zq29 h3 HB2.out)⟩)
   obtain ⟨w2,hw2⟩:∃ x,x=wr:=⟨_,rfl⟩
   rw [←hw2] at H2 HMK ⊢
   clear h2 he hpi hsq hb1 hb2 hy1 hy2 hg1 hg2 x1 x2 y0 hw2
   go_upto_region 26 with fail
   refine Zq37 (fun w'=>w'.cell? ⟨g1,q1+i*3+1,none⟩=some (.int .i64 ((i:Int)+1))∧w'.cell? ⟨g1,q1+i*3+2,none⟩=some (.slice A1 e.data.length k1)∧w'.cell? ⟨g2,q2+i,none⟩=some (.slice A2 e.data.length k2)∧(convert 46 9 (.slice A1 e.data.length k1)).run Tryz.prog w'=.ok (.string (strOfNums e.data)) w'∧(convert 46 9 (.slice A2 e.data.length k2)).run Tryz.prog w'=.ok (.string (strOfNums e.data)) w') [(0,false),(1,false),(2,false),(3,false),(4,false),(5,false),(6,false),(7,false),(8,false),(9,false),(10,false),(11,false),(12,false),(13,false),(14,false),(15,false),(16,false),(17,false),(18,false),(19,false),(20,false),(21,false)] [] [] (by kernel_rfl) (by kernel_rfl) (by (intro w' hb;exact HMK.out _ (((Below.refl _ _).drew).trans hb))) ?_
   repeat (first|(refine Zq41 (by rfl) _ (by rfl) (by intro w;go_simp;try with_reducible rfl) ?_;(try simp only [Act.put,List.setIfInBounds_toArray,Zl4,Zl5]))|(refine Zq98 (by rfl) _ (by rfl) (by (intro w hSw;(try dsimp only at hSw);go_simp;try with_reducible rfl)) ?_;(try simp only [Act.put,List.setIfInBounds_toArray,Zl4,Zl5]))|(refine Zq60 (by rfl) (by rfl) ?_;(try simp only [Act.put,List.setIfInBounds_toArray,Zl4,Zl5]))|fail)
   refine Zq266 ?_
   refine Zq421 ?_
   rintro w9 hz9
   have H9:=Zh (H2.out.drew.keep hz9.below)
   clear hz9 H2 HMK HB1 HB2
   go_wp2_with fail
   refine NoPanic.normal ?_
   go_wp2_with fail
   go_roundw
   case rel=>exact ⟨i+1,by go_num,by omega,H9.out⟩
   case measure=>first|(simp [intOf];done)|(simp [intOf];omega)|fail
  ·obtain rfl:i=es.length:=by omega
   have d0:decide (((es.length:Nat):Int)<(es.length:Int))=false:=decide_eq_false (by omega)
   have HB:=Zh h2.below
   clear h2
   go_wp2_with fail
   exact HQ.out _ _ _ _ _ _ _ _ _ _ _ _ _ _ _ _ _ _ _ _ _ _ _ _ _ _ _ _ _ _ _ _ _ _ _ _ _ _ _ _ _ _ _ _ _ _ _ _ _ _ _ _ _ _ _ _ _ _ _ _ _ _ _ _ _ _ _ _ _ _ _ _ _ _ _ _ _ _ _ _ _ _ _ _ _ _ _ _ _ _ _ _ _ _ _ _ _ _ _ _ _ _ _ _ _ _ _ _ _ _ _ _ _ _ _ _ _ _ _ _ _ _ _ _ _ _ _ _ _ _ _ _ _ _ _ _ _ _ _ _ _ _ _ _ _ _ _ _ _ _ _ _ _ _ _ _ _ _ _ _ _ _ _ _ _ HB.out
theorem rots_end {ca cb:Code} {Q:Exit→Act→World→Prop} {K:Act→World→Prop} (hK:∀ x y,cb.wp Tryz.prog Q x y→K x y) (hC:(Tryz.f5).body.bind (fromR 17)=some (.seq ca cb)) {x0 x1 x2 x3 x5 x6 x7 x8 x9 x10 x11 x12 x13 x14 x15 x17 x19 x20 x21 x22 x23 x24 x25 x26 x27 x28 x29 x30 x31 x32 x33 x34 x35 x36 x37 x38 x39 x40 x41 x42 x43 x44 x45 x46 x47 x48 x49 x50 x51 x52 x53 x54 x55 x56 x57 x58 x59 x60 x61 x62 x63 x64 x65 x66 x67 x68 x69 x70 x71 x72 x73 x74 x75 x76 x77 x78 x79 x80 x81 x82 x83 x84 x85 x86 x87 x88 x89 x90 x91 x92 x93 x94 x95 x96 x97 x98 x99 x100 x101 x102 x103 x104 x105 x106 x107 x108 x109 x110 x111 x112 x113 x114 x115 x116 x117 x118 x119 x120 x121 x122 x123 x124 x125 x126 x127 x128 x129 x130 x131 x132 x133 x134 x135 x136 x137 x138 x139 x140 x141 x142 x143 x144 x145 x146 x147 x148 x149 x150 x151 x152 x153 x154 x155 x156 x157 x158 x159 x160 x161 x162 x163:Value} {p n cR:Nat} {ps:List (List Int)} {AR:Option Addr} {S:Str} {J:Jn}
  (h:St W I w (Zq8 p S::l)) (hJ:JAny S J) (ha:S.armed=false) (hk:Keeps S 10000) (hR:RowsI I (.slice AR ps.length cR) ps) (hf:J.r.first=1) (hn:n=J.l.length) (hl:n≤100) (hs:∀ (i:Nat) (e:En),J.l[i]?=some e→e.seq=(i:Int)+1∧ps[i]?=some e.data)
  (hQ:∀ (y0 y1 y2 y3 y4 y5 y6 y7 y8 y9 y10 y11 y12 y13 y15 y16 y17 y18 y19 y20 y21 y22 y23 y24 y25 y26 y27 y28 y29 y30 y31 y32 y33 y34 y35 y36 y37 y38 y39 y40 y41 y42 y43 y44 y45 y46 y47 y48 y49 y50 y51 y52 y53 y54 y55 y56 y57 y58 y59 y60 y61 y62 y63 y64 y65 y66 y67 y68 y69 y70 y71 y72 y73 y74 y75 y76 y77 y78 y79 y80 y81 y82 y83 y84 y85 y86 y87 y88 y89 y90 y91 y92 y93 y94 y95 y96 y97 y98 y99 y100 y101 y102 y103 y104 y105 y106 y107 y108 y109 y110 y111 y112 y113 y114 y115 y116 y117 y118 y119 y120 y121 y122 y123 y124 y125 y126 y127 y128 y129 y130 y131 y132 y133 y134 y135 y136 y137 y138 y139 y140 y141 y142 y143 y144 y145 y146 y147 y148 y149 y150 y151 y152 y153 y154 y155 y156 y157 y158 y159 y160 y161 y162 y163:Value) (w':World),Below W.heap.size W w'→Q .ret ⟨#[y0,y1,y2,y3,y4,y5,y6,y7,y8,y9,y10,y11,y12,y13,.bool true,y15,y16,y17,y18,y19,y20,y21,y22,y23,y24,y25,y26,y27,y28,y29,y30,y31,y32,y33,y34,y35,y36,y37,y38,y39,y40,y41,y42,y43,y44,y45,y46,y47,y48,y49,y50,y51,y52,y53,y54,y55,y56,y57,y58,y59,y60,y61,y62,y63,y64,y65,y66,y67,y68,y69,y70,y71,y72,y73,y74,y75,y76,y77,y78,y79,y80,y81,y82,y83,y84,y85,y86,y87,y88,y89,y90,y91,y92,y93,y94,y95,y96,y97,y98,y99,y100,y101,y102,y103,y104,y105,y106,y107,y108,y109,y110,y111,y112,y113,y114,y115,y116,y117,y118,y119,y120,y121,y122,y123,y124,y125,y126,y127,y128,y129,y130,y131,y132,y133,y134,y135,y136,y137,y138,y139,y140,y141,y142,y143,y144,y145,y146,y147,y148,y149,y150,y151,y152,y153,y154,y155,y156,y157,y158,y159,y160,y161,y162,y163],[]⟩ w') :
  ca.wp Tryz.prog (Exit.then K Q) ⟨#[x0,x1,x2,x3,.int .i64 (n:Nat),x5,x6,x7,x8,x9,x10,x11,x12,x13,x14,x15,.slice AR ps.length cR,x17,.pointer (some ⟨p,0,none⟩),x19,x20,x21,x22,x23,x24,x25,x26,x27,x28,x29,x30,x31,x32,x33,x34,x35,x36,x37,x38,x39,x40,x41,x42,x43,x44,x45,x46,x47,x48,x49,x50,x51,x52,x53,x54,x55,x56,x57,x58,x59,x60,x61,x62,x63,x64,x65,x66,x67,x68,x69,x70,x71,x72,x73,x74,x75,x76,x77,x78,x79,x80,x81,x82,x83,x84,x85,x86,x87,x88,x89,x90,x91,x92,x93,x94,x95,x96,x97,x98,x99,x100,x101,x102,x103,x104,x105,x106,x107,x108,x109,x110,x111,x112,x113,x114,x115,x116,x117,x118,x119,x120,x121,x122,x123,x124,x125,x126,x127,x128,x129,x130,x131,x132,x133,x134,x135,x136,x137,x138,x139,x140,x141,x142,x143,x144,x145,x146,x147,x148,x149,x150,x151,x152,x153,x154,x155,x156,x157,x158,x159,x160,x161,x162,x163],[]⟩ w:=by
 injection hC with hC
 injection hC with hC1 hC2
 subst hC1 hC2
 have HO:=Zh (reopen_spec (m:=1000) h hJ ha (hk.fewer (by omega)))
 obtain ⟨G,hG⟩:∃ x,x=Zq64 J:=⟨_,rfl⟩
 rw [←hG] at HO
 have hGl:G.l=J.l:=by rw [hG];rfl
 have hGf:G.r.first=1:=by rw [hG];exact hf
 have hend:endJ G=(n:Int):=by unfold endJ;rw [hGf,hGl,hn];omega
 have hsafe:G.safe=(n:Int):=by
  rw [←hend,hG]
  rfl
 rw [←hGl] at hs hn
 have HR:=Zh hR
 have HGF:=Zh hGf
 have HS:=Zh hs
 have HQ:=Zh hQ
 have HEND:=Zh hend
 have HSF:=Zh hsafe
 have HN:=Zh hn
 have hn1:(n:Int)≤100:=by omega
 clear h hJ ha hk hR hf hn hs hQ hG hGl hGf hend hsafe
 go_wp2_with fail
 refine HO.out.mono ?_
 rintro e w1 ⟨I1,q,S1,hs1,rfl,h1,hj1,ha1,hl1,hk1⟩
 have hen:=Zq111 (h1.pull 1 _ rfl) hj1.jb
 rw [HEND.out] at hen
 have HEN:=Zh hen
 have H1:=Zh h1
 have HJ1:=Zh hj1
 have HR1:=Zh (HR.out.mono hs1)
 clear h1 hs1 hj1 ha1 hl1 hk1 hen HO HR
 go_wp2_with fail
 refine HEN.out.mono ?_
 rintro e w2 ⟨rfl,hb2⟩
 have h2:=H1.out.keep hb2
 have hsf:=Zq597 (h2.pull 1 _ rfl) HJ1.out.jb
 rw [HSF.out] at hsf
 have HSA:=Zh hsf
 have H2:=Zh h2
 clear h2 hb2 hsf HEN H1
 go_wp2_with fail
 refine HSA.out.mono ?_
 rintro e w3 ⟨rfl,hb3⟩
 have h3:=H2.out.keep hb3
 have hrd:=readJ_all HJ1.out HGF.out (by rw [←HN.out];omega)
 have hrs:=jread_spec 0 1048576 h3 HJ1.out.jb (by decide) HJ1.out.okB
 rw [hrd,HJ1.out.may2] at hrs
 obtain ⟨es,hes⟩:∃ es,es=G.l:=⟨_,rfl⟩
 rw [←hes] at hrs
 have HES:=Zh hes
 have HRS:=Zh hrs
 clear h3 hb3 hrd hrs hes HSA H2
 go_wp2_with fail
 refine HRS.out.mono ?_
 rintro e w4 ⟨I4,v4,hs4,rfl,h4⟩
 obtain ⟨Ax,cx,rfl,_⟩:=h4.ents_slice
 have hnl:n=es.length:=by rw [HN.out,HES.out]
 have H4:=Zh h4
 have HR4:=Zh (HR1.out.mono hs4)
 have HS4:=Zh (show ∀ (i:Nat) (e:En),es[i]?=some e→e.seq=(i:Int)+1∧ps[i]?=some e.data by rw [HES.out];exact HS.out)
 have HNL:=Zh hnl
 rw [←hnl]
 rw [←hnl] at H4
 clear h4 hs4 HRS HR1 hnl
 go_upto_region 23 with fail
 refine rots_loop (es:=es) (by assumption) (by kernel_rfl) (by rw [←HNL.out];exact H4.out) HR4.out HNL.out hl HS4.out ?_
 intro _ _ _ _ _ _ _ _ _ _ _ _ _ _ _ _ _ _ _ _ _ _ _ _ _ _ _ _ _ _ _ _ _ _ _ _ _ _ _ _ _ _ _ _ _ _ _ _ _ _ _ _ _ _ _ _ _ _ _ _ _ _ _ _ _ _ _ _ _ _ _ _ _ _ _ _ _ _ _ _ _ _ _ _ _ _ _ _ _ _ _ _ _ _ _ _ _ _ _ _ _ _ _ _ _ _ _ _ _ _ _ _ _ _ _ _ _ _ _ _ _ _ _ _ _ _ _ _ _ _ _ _ _ _ _ _ _ _ _ _ _ _ _ _ _ _ _ _ _ _ _ _ _ _ _ _ _ _ _ _ _ _ _ _ w5 hb5
 have HB5:=Zh hb5
 clear hb5
 go_wp2_with fail
 refine (Zq182 _).mono ?_
 rintro e w9 ⟨rfl,hb9⟩
 have HB9:=Zh (HB5.out.trans (hb9.mono HB5.out.size))
 clear hb9 HB5
 go_wp2_with fail
 exact HQ.out _ _ _ _ _ _ _ _ _ _ _ _ _ _ _ _ _ _ _ _ _ _ _ _ _ _ _ _ _ _ _ _ _ _ _ _ _ _ _ _ _ _ _ _ _ _ _ _ _ _ _ _ _ _ _ _ _ _ _ _ _ _ _ _ _ _ _ _ _ _ _ _ _ _ _ _ _ _ _ _ _ _ _ _ _ _ _ _ _ _ _ _ _ _ _ _ _ _ _ _ _ _ _ _ _ _ _ _ _ _ _ _ _ _ _ _ _ _ _ _ _ _ _ _ _ _ _ _ _ _ _ _ _ _ _ _ _ _ _ _ _ _ _ _ _ _ _ _ _ _ _ _ _ _ _ _ _ _ _ _ _ _ _ _ HB9.out
theorem journalRots_walk (a b c which at' x:Int) (v3:Value) (ls:List (List Int)) (W:World) (hr3:RowsI W.hp v3 ls) (hx:isByte x) :
  Calls Tryz.prog 5 #[.int .i64 a,.int .i64 b,.int .i64 c,v3,.int .i64 which,.int .i64 at',.int .u8 x] W fun e w'=>e=.returned (.bool true)∧Below W.heap.size W w':=by
 obtain ⟨A3,c3,rfl,hx1,hx2,hx3⟩:=hr3.slice
 clear hx1 hx2 hx3
 have HSH3:=Zh (Zq393 _ ls 60 100 W hr3)
 have HBY3:=Zh (show ∀ p ∈ ls,∀ y ∈ p,isByte y by obtain ⟨_,_,_,_,hq⟩:=hr3;exact fun p hp=>(hq p hp).1)
 have HR3:=Zh hr3
 have HX:=Zh hx
 clear hr3 hx
 obtain ⟨s3,hs3⟩:∃ x,x=Zq403 ls 60 100:=⟨_,rfl⟩
 rw [←hs3] at HSH3
 have HS3:=Zh hs3
 clear hs3
 go_enter Tryz.func5,Tryz.ntmps5
 go_wp2_with fail
 refine HSH3.out.mono ?_
 rintro e w1 ⟨rfl,rfl⟩
 clear HSH3
 cases s3 with
 | false =>
  go_wp2_with fail
  refine (Zq182 _).mono ?_
  rintro e w9 ⟨rfl,hb9⟩
  have HB9:=Zh hb9
  clear hb9
  go_wp2_with fail
  go_ret
  exact ⟨rfl,HB9.out⟩
 | true =>
 have hl3:ls.length≤60:=by
  have h:=HS3.out
  unfold Zq403 at h
  have:=(Bool.and_eq_true_iff.1 h.symm).2
  rw [decide_eq_true_eq] at this
  omega
 by_cases hz:ls.length=0
 ·go_wp2_with fail
  refine (Zq182 _).mono ?_
  rintro e w9 ⟨rfl,hb9⟩
  have HB9:=Zh hb9
  clear hb9
  go_wp2_with fail
  go_ret
  exact ⟨rfl,HB9.out⟩
 have hzI:¬ (ls.length:Int)=0:=by omega
 obtain ⟨C,hC⟩:∃ x,x=ringK a b c:=⟨_,rfl⟩
 have HCO:=Zh (show C.okB=true by rw [hC];exact Zq777 a b c)
 have hrk:=Zq708 a b c W
 rw [←hC] at hrk
 unfold Rg.val at hrk
 have HRK:=Zh hrk
 have HZ:=Zh hz
 clear hrk hC
 go_wp2_with fail
 refine HRK.out.mono ?_
 rintro e w2 ⟨rfl,hb2⟩
 have h2:=((St.init W).keep hb2).alloc (.cells #[.int .i64 C.splay,.int .i64 C.sets,.int .i64 C.size] 26)
 obtain ⟨g15,hg15⟩:∃ g,g=w2.heap.size:=⟨_,rfl⟩
 rw [←hg15] at h2
 have H2:=Zh h2
 have HG:=Zh (Zq709 (at':=0) HCO.out (by omega))
 have HROW3:=Zh (Zq295 _ ls h2 HR3.out (by omega))
 clear h2 hb2 HRK
 go_upto_region 4 with fail
 rw [←hg15]
 have h2:=H2.out
 generalize (World.alloc _ _:World)=w3 at h2 HROW3 ⊢
 clear h2 H2 hg15
 go_wp2_with fail
 refine HROW3.out.mono ?_
 rintro e w4 ⟨I4,B3,k3,B4,k4,ps,ns,hs4,hps,hns,rfl,hr4,hi4,h4⟩
 have hpf:∀ p ∈ ps,(1≤p.length∧p.length≤90)∧∀ y ∈ p,isByte y:=by rw [hps];exact Zq296 HBY3.out
 have hpl:ps.length=ls.length:=by rw [hps,List.length_map]
 obtain ⟨vs,hvl,hvr,hvb,_⟩:=id hr4
 have hfil:=Zq392 C 0 (.slice B3 ps.length k3) ps vs h4 hvr (fun i p hp=>by
  obtain ⟨x,hx⟩:∃ x,vs[i]?=some x:=⟨_,List.getElem?_eq_getElem (by have:=(List.getElem?_eq_some_iff.1 hp).1;omega)⟩
  exact ⟨x,hx,hvb i x p hx hp⟩) hpf (by omega) HG.out
 unfold Rg.val at hfil
 have HFIL:=Zh hfil
 have HPF:=Zh hpf
 have HRP:=Zh hr4
 have HIN:=Zh hi4
 have HNS:=Zh hns
 have HPL:=Zh hpl
 have HPS60:=Zh (show ps.length≤60 by omega)
 obtain ⟨z0,z1,z2⟩:=Zq62 h4
 clear hps hns hr4 hi4 h4 hpf hs4 hvl hvr hvb hfil hpl HROW3 HR3 HBY3 hl3
 go_wp2_with fail
 refine HFIL.out.mono ?_
 rintro e w5 ⟨I5,p,q,S,J,k,hs5,rfl,h5,hj5,ha5,hk5,S0,hj0,ha0,hf0⟩
 obtain ⟨hfd,hsafe,_,_⟩:=Zq778 HG.out hj0 ha0 HPF.out (by have:=HPS60.out;omega) hf0
 have hkpos:=hfd.posk hj5 HPF.out (by
  intro e
  have h1:=HPL.out
  rw [e] at h1
  exact HZ.out h1.symm)
 obtain ⟨S6,hbe,hfl,hj6,ha6,hw6,hl6⟩:=hj5.flush_calm ha5
 have hflu:=Zq517 h5 hk5 hj5.jb
 rw [hfl] at hflu
 have HFLU:=Zh hflu
 have HS5:=Zh hs5
 have HJ6:=Zh hj6
 have HA6:=Zh ha6
 have HL6:=Zh hl6
 have HFD:=Zh hfd.safed
 have HK6:=Zh (show Keeps S6 90000 by have:=Zq66 hk5;rwa [hbe] at this)
 have hkN:¬ k=0:=by omega
 have hkle:k≤ps.length:=hfd.le
 have HKP:=Zh (show 0<k∧k≤60 from ⟨hkpos,by have:=HPS60.out;omega⟩)
 clear hs5 h5 hj5 ha5 hk5 hj0 ha0 hf0 hfd hsafe hbe hfl hj6 ha6 hw6 hl6 hflu hkpos z0 z1 z2 HFIL HG
 have hk0:¬ (k:Int)=0:=by have:=HKP.out;omega
 obtain ⟨y1,hy1⟩:∃ y,which % 65536=y:=⟨_,rfl⟩
 have and1:bits .and .i64 which 65535=y1:=(Zq404 which).trans hy1
 obtain ⟨i,hi⟩:∃ i:Nat,y1 % (k:Int)=(i:Int):=⟨(y1 % (k:Int)).toNat,by have:=Int.emod_nonneg y1 hk0;omega⟩
 have hm1:Int.tmod y1 (k:Int)=(i:Int):=by rw [Int.tmod_eq_emod_of_nonneg (by omega)];exact hi
 have hik:i<k:=by have h1:=Int.emod_lt_of_pos y1 (show (0:Int)<k by omega);omega
 have hwi:IntKind.i64.wrap (i:Int)=(i:Int):=by rw [IntKind.wrap_i64];have:=HKP.out;omega
 obtain ⟨pi,hpi⟩:∃ p,ps[i]?=some p:=⟨_,List.getElem?_eq_getElem (by omega)⟩
 obtain ⟨hp1,hp2⟩:=HPF.out pi (List.mem_of_getElem? hpi)
 have hni:ns[i]?=some (pi.length:Int):=by rw [HNS.out];unfold Zq126;rw [List.getElem?_map,hpi];rfl
 obtain ⟨gn,on,rfl,hcn⟩:=(show IntsI I5 (.slice B4 ns.length k4) ns from RowI.mono HS5.out HIN.out).cells hni
 obtain ⟨y2,hy2⟩:∃ y,at' % 65536=y:=⟨_,rfl⟩
 have and2:bits .and .i64 at' 65535=y2:=(Zq404 at').trans hy2
 obtain ⟨M,hM⟩:∃ M:Int,M=(pi.length:Int)+22:=⟨_,rfl⟩
 have hwM:IntKind.i64.wrap ((pi.length:Int)+22)=M:=by rw [IntKind.wrap_i64];omega
 have hM0:¬ M=0:=by omega
 obtain ⟨j,hj⟩:∃ j:Nat,y2 % M=(j:Int):=⟨(y2 % M).toNat,by have:=Int.emod_nonneg y2 hM0;omega⟩
 have hm2:Int.tmod y2 M=(j:Int):=by rw [Int.tmod_eq_emod_of_nonneg (by omega)];exact hj
 have hjM:j<pi.length+22:=by have h1:=Int.emod_lt_of_pos y2 (show (0:Int)<M by omega);omega
 have hwj:IntKind.i64.wrap (j:Int)=(j:Int):=by rw [IntKind.wrap_i64];omega
 have hnl:ns.length=ps.length:=by rw [HNS.out,Zq642]
 have hiN:i<ns.length:=by omega
 have HNL:=Zh hnl
 clear hnl
 obtain ⟨q0,S7,r1,r2,r3,r4,r5,r6,r7⟩:=HFD.out.rot HJ6.out HL6.out hik hpi hjM HX.out
 have HCN:=Zh (fun (I':Hp) (w':World) (L:List HP) (hs:I5.sub I') (hw':St W I' w' L)=>hcn hs hw')
 unfold Zq857 at r1 r2 r3
 rw [←HNS.out] at r1 r2 r3
 obtain ⟨sa,hsa⟩:∃ x,x=Zq850 (setsP C ⟨0,0,0,0,0⟩ (0+1) ns) ns q0 i:=⟨_,rfl⟩
 rw [←hsa] at r2 r3
 have hwo:IntKind.i64.wrap (sa+(j:Int))=sa+(j:Int):=by rw [IntKind.wrap_i64];omega
 have R1:=Zh r1
 have R3:=Zh r3
 have R4:=Zh r4
 have R5:=Zh r5
 have R6:=Zh r6
 have R7:=Zh r7
 have HSA:=Zh hsa
 have HLEN:=Zh (show (safeJ J).l.length=k from HFD.out.len)
 have HJL:=Zh (show ∀ (i:Nat) (e:En),(safeJ J).l[i]?=some e→e.seq=(i:Int)+1∧ps[i]?=some e.data from fun i e he=>by
  rw [HFD.out.l,entsOf_get] at he
  rw [List.getElem?_take] at he
  split at he
  ·cases hg:ps[i]? with
   | none=>rw [hg] at he;cases he
   | some y =>
    rw [hg] at he
    simp only [Option.map_some,Option.some.injEq] at he
    rw [←he]
    exact ⟨by show (0:Int)+1+i=_;omega,rfl⟩
  ·cases he)
 have HFIRST:=Zh (show (safeJ J).r.first=1 by rw [HFD.out.r];rfl)
 obtain ⟨J6,hJ6⟩:∃ x,x=safeJ J:=⟨_,rfl⟩
 rw [←hJ6] at HFLU HJ6 R6 R7 HLEN HJL HFIRST
 clear hy1 hi hpi hp2 hni hcn hy2 hM hj r1 r2 r3 r4 r5 r6 r7 hsa hJ6 HFD HL6
 go_wp2_with fail
 refine HFLU.out.mono ?_
 rintro e w6 ⟨I6,hs6,rfl,h6⟩
 have yc:=HCN.out _ _ _ hs6 h6
 have H6:=Zh (h6.pull 2 _ rfl)
 have HS6:=Zh hs6
 clear h6 hs6 HFLU
 go_upto_region 10 with fail
 refine rots_seat (q:=q0) (by assumption) (by kernel_rfl) H6.out (RowI.mono (HS5.out.trans HS6.out) HIN.out:IntsI I6 (.slice (some ⟨gn,on,none⟩) ns.length k4) ns) HCO.out (by rw [HNS.out];exact lensOf_fine HPF.out) (by have:=HPS60.out;have:=HNL.out;omega) R1.out ?_
 intro u76 u77 u78 u79 u80 u81 u82 u83 u84 u85 g21 w7 h7
 rw [←HSA.out]
 have hrot:=rot_spec (m:=80000) (keyOf C q0) (sa+(j:Int)) x (h7.pull 2 _ rfl) (HK6.out.fewer (by omega))
 rw [R3.out] at hrot
 have hrot':Calls Tryz.prog 32 #[.pointer (some ⟨p,0,none⟩),.agg #[.int .i64 2,.int .i64 0,.int .i64 (rnum C q0),.int .i64 0],.int .i64 (sa+(j:Int)),.int .u8 x] w7 fun e w'=>e=.returned (.bool true)∧St W I6 w' (Zq8 p S7::_):=hrot
 have HROT:=Zh hrot'
 obtain ⟨z0,z1,z2,z3⟩:=Zq374 h7
 have HR7:=Zh ((HRP.out.mono HS5.out).mono HS6.out)
 clear h7 hrot hrot' H6 yc HCN HNS HIN HCO HRP HS5 HS6
 go_wp2_with fail
 refine HROT.out.mono ?_
 rintro e w8 ⟨rfl,h8⟩
 have H8:=Zh h8
 clear h8 HROT z0 z1 z2 z3
 have hAR:S7.armed=false:=by rw [R4.out];exact HA6.out
 have HAR:=Zh hAR
 have HK7:=Zh (R5.out _ HK6.out)
 clear hAR
 by_cases h16:j=16∨j=17
 ·have HB8:=Zh H8.out.below
  rcases h16 with rfl|rfl
  all_goals
   go_wp2_with fail
   refine (Zq182 _).mono ?_
   rintro e w9 ⟨rfl,hb9⟩
   have HB9:=Zh (HB8.out.trans (hb9.mono HB8.out.size))
   clear hb9
   go_wp2_with fail
   go_ret
   exact ⟨rfl,HB9.out⟩
 ·have e16:((j:Int)==16)=false:=by simp;omega
  have e17:((j:Int)==17)=false:=by simp;omega
  by_cases hx0:x=0
  ·obtain ⟨f,hany⟩:=R6.out hx0
   have HANY:=Zh hany
   subst hx0
   clear hany h16
   go_upto_region 17 with fail
   refine rots_end (n:=k) (by assumption) (by kernel_rfl) H8.out HANY.out HAR.out (HK7.out.fewer (by omega)) HR7.out HFIRST.out (by show k=(J6.l.take k).length;rw [List.length_take,HLEN.out,Nat.min_self]) (by have:=HKP.out;omega) (fun i e he=>HJL.out i e (by
    have he:(J6.l.take k)[i]?=some e:=he
    rw [List.getElem?_take] at he
    split at he
    ·exact he
    ·cases he)) ?_
   intro _ _ _ _ _ _ _ _ _ _ _ _ _ _ _ _ _ _ _ _ _ _ _ _ _ _ _ _ _ _ _ _ _ _ _ _ _ _ _ _ _ _ _ _ _ _ _ _ _ _ _ _ _ _ _ _ _ _ _ _ _ _ _ _ _ _ _ _ _ _ _ _ _ _ _ _ _ _ _ _ _ _ _ _ _ _ _ _ _ _ _ _ _ _ _ _ _ _ _ _ _ _ _ _ _ _ _ _ _ _ _ _ _ _ _ _ _ _ _ _ _ _ _ _ _ _ _ _ _ _ _ _ _ _ _ _ _ _ _ _ _ _ _ _ _ _ _ _ _ _ _ _ _ _ _ _ _ _ _ _ _ _ _ w9 hb9
   have HB9:=Zh hb9
   clear hb9
   go_ret
   exact ⟨rfl,HB9.out⟩
  ·obtain ⟨f,hany⟩:=R7.out hx0 (by omega) (by omega)
   have HANY:=Zh hany
   have dx:(x==0)=false:=by simp [hx0]
   clear hany h16 hx0
   go_upto_region 17 with fail
   refine rots_end (n:=i) (by assumption) (by kernel_rfl) H8.out HANY.out HAR.out (HK7.out.fewer (by omega)) HR7.out HFIRST.out (by show i=(J6.l.take i).length;rw [List.length_take,HLEN.out];omega) (by have:=HKP.out;omega) (fun i' e he=>HJL.out i' e (by
    have he:(J6.l.take i)[i']?=some e:=he
    rw [List.getElem?_take] at he
    split at he
    ·exact he
    ·cases he)) ?_
   intro _ _ _ _ _ _ _ _ _ _ _ _ _ _ _ _ _ _ _ _ _ _ _ _ _ _ _ _ _ _ _ _ _ _ _ _ _ _ _ _ _ _ _ _ _ _ _ _ _ _ _ _ _ _ _ _ _ _ _ _ _ _ _ _ _ _ _ _ _ _ _ _ _ _ _ _ _ _ _ _ _ _ _ _ _ _ _ _ _ _ _ _ _ _ _ _ _ _ _ _ _ _ _ _ _ _ _ _ _ _ _ _ _ _ _ _ _ _ _ _ _ _ _ _ _ _ _ _ _ _ _ _ _ _ _ _ _ _ _ _ _ _ _ _ _ _ _ _ _ _ _ _ _ _ _ _ _ _ _ _ _ _ _ w9 hb9
   have HB9:=Zh hb9
   clear hb9
   go_ret
   exact ⟨rfl,HB9.out⟩
end
end Go.Proofs.YtpjchngjhijgmaaGreat
