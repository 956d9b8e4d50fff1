import Derived.Test.YtpjchngjhijgmaaGreatJZ50
import Derived.Test.YtpjchngjhijgmaaGreatJZ47
set_option linter.all false
namespace Go.Proofs.YtpjchngjhijgmaaGreat
open Go.RowKit
theorem Zq723 {S:Str} {k:K4} {fr:List Int} (h:S.on=false):(Zq50 (madeS S k).2 k fr).1≠6:=by
 have hw:whyS S k=7:=by unfold whyS mayS;rw [h];simp
 have hm:(madeS S k).2=S:=by
  unfold madeS
  rw [if_pos (by rw [hw];decide)]
  unfold makeS
  rw [if_neg (by rw [hw];decide),if_pos (by rw [hw];decide)]
 rw [hm]
 unfold Zq50
 split
 ·rw [hw];show (7:Int)≠6;decide
 ·rw [Zq215 (by rw [hw];decide),hw];show (7:Int)≠6;decide
theorem JB.deadJ {J:Jn} (h:JB J):JB (Go.Proofs.YtpjchngjhijgmaaGreat.deadJ J):=⟨h.ok,h.len,h.lens,h.fill,h.safe⟩
theorem Zq190 {α:Type} (f:α→Bool):∀ l:List α,(l.takeWhile f).takeWhile f=l.takeWhile f
 | []=>rfl
 | a::l=>by
  rw [List.takeWhile_cons]
  split
  ·rename_i h
   rw [List.takeWhile_cons,if_pos h,Zq190 f l]
  ·rfl
theorem Zq504 (J:Jn):Zq40 (Zq40 J)=Zq40 J:=by
 have he:endJ (Zq40 J)=endJ J:=rfl
 have h1:Zq48 (Zq48 J.r.tags (endJ J)) (endJ J)=Zq48 J.r.tags (endJ J):=Zq190 _ _
 have h2:(J.r.cls.map fun c=>({ c with pos:=min c.pos (endJ J) }:Cl)).map (fun c=>({ c with pos:=min c.pos (endJ J) }:Cl))=J.r.cls.map fun c=>({ c with pos:=min c.pos (endJ J) }:Cl):=by
  rw [List.map_map]
  refine List.map_congr_left fun c _=>?_
  show (⟨c.id,min (min c.pos (endJ J)) (endJ J),c.off⟩:Cl)=⟨c.id,min c.pos (endJ J),c.off⟩
  rw [Int.min_assoc,Int.min_self]
 have h3:Zq85 (Zq85 J.r (endJ J)) (endJ J)=Zq85 J.r (endJ J):=by
  unfold Zq85
  simp only
  rw [h1,h2]
 show ({ Zq40 J with r:=Zq85 (Zq40 J).r (endJ (Zq40 J)),safe:=endJ (Zq40 J) }:Jn)=_
 rw [he]
 show ({ Zq40 J with r:=Zq85 (Zq85 J.r (endJ J)) (endJ J),safe:=endJ J }:Jn)=_
 rw [h3]
 rfl
theorem Zq793 {S:Str} {J:Jn} (h:JOK S J) (hf:J.r.first=1) (hl:J.l.length≤100000):readJ S J 0 1048576=(J.l,0):=by
 have hw:Zq473 S J 0 1048576=0:=by
  unfold Zq473
  rw [if_neg (by simp [h.may]),if_neg (by unfold endJ;omega),if_neg (by omega)]
 unfold readJ readL
 rw [hw,if_pos rfl,hf]
 rw [show ((0:Int) - 1+1).toNat=0 by rfl,List.drop_zero,List.take_of_length_le (by show J.l.length≤1048576;omega)]
theorem Zq357 (ts:List Tag):∀ (s:Int) (ps:List (List Int)),(Zq188 ts s ps).map (·.data)=ps
 | _,[]=>rfl
 | s,p::ps=>by
  unfold Zq188
  rw [List.map_cons,Zq357 ts (s+1) ps]
section
variable {W w : World} {I : Hp} {l : List HP}
set_option maxRecDepth 4000
set_option maxHeartbeats 8000000
theorem Zq597 {ca cb:Code} {Q:Exit→Act→World→Prop} {K:Act→World→Prop} (hK:∀ x y,cb.wp Tryz.prog Q x y→K x y) (hC:(Tryz.f4).body.bind (fromR 9)=some (.seq ca cb)) {x0 x1 x2 x3 x4 x5 x6 x7 x8 x9 x10 x11 x12 x13 x14 x15 x16 x18 x19 x21 x23 x24 x25 x26 x27 x28 x29 x30 x31 x32 x33 x34 x35 x36 x37 x38 x39 x40 x41 x42 x43 x44 x45 x46 x47 x48 x49 x50 x51 x52 x53 x54 x55 x56 x57 x58 x59 x60 x61 x62 x63 x64 x65 x66 x67 x68 x69 x70 x71 x72 x73 x74 x75 x76 x77 x78 x79 x80 x81 x82 x83 x84 x85 x86 x87 x88 x89 x90 x91 x92 x93 x94 x95 x96 x97 x98 x99 x100 x101 x102 x103 x104 x105 x106 x107 x108 x109 x110 x111 x112 x113 x114 x115 x116 x117 x118 x119 x120 x121 x122 x123 x124 x125 x126 x127 x128 x129 x130 x131 x132 x133 x134 x135 x136 x137 x138 x139 x140 x141 x142 x143 x144 x145 x146 x147 x148 x149 x150 x151 x152 x153 x154 x155 x156 x157 x158 x159 x160 x161 x162 x163 x164 x165 x166 x167 x168 x169 x170 x171 x172 x173 x174 x175 x176 x177 x178 x179 x180 x181 x182 x183 x184 x185 x186 x187 x188 x189 x190 x191 x192 x193 x194 x195 x196 x197 x198 x199 x200 x201 x202 x203 x204 x205 x206 x207 x208 x209 x210 x211:Value} {p q cQ c22 m:Nat} {s:Int} {qs L:List (List Int)} {AQ A22:Option Addr} {S:Str} {J:Jn} {r0:Rc}
  (h:St W I w (Zq126 (.slice A22 L.length c22) L::Zq11 p S::jnHP q p J::l)) (hR:RowsI I (.slice AQ qs.length cQ) qs) (hw:JWet S J s) (ha:S.armed=false) (hk:Keeps S (m+1000)) (hL:L=J.l.map (·.data)) (hJl:J.l.length≤100) (hr:J.r=r0) (hs0:r0.set=0)
  (hn:qs.length≤30) (hp:∀ y ∈ qs,(1≤y.length∧y.length≤90)∧∀ z ∈ y,isByte z)
  (hQ:∀ (y23 y24 y25 y83 y84 y85 y86 y87 y88 y89 y90 y91 y92 y93 y94 y95 y96 y97 y98 y99 y100 y101 y102 y103 y104 y105 y106:Value) (I':Hp) (w':World) (S':Str) (J':Jn) (L':List (List Int)) (A':Option Addr) (c':Nat),I.sub I'→St W I' w' (Zq126 (.slice A' L'.length c') L'::Zq11 p S'::jnHP q p J'::l)→JWet S' J' s→S'.armed=false→Keeps S' m→L'=J'.l.map (·.data)→J'.l.length≤200→J'.r=r0 →
    Q .normal ⟨#[x0,x1,x2,x3,x4,x5,x6,x7,x8,x9,x10,x11,x12,x13,x14,x15,x16,.slice AQ qs.length cQ,x18,x19,.pointer (some ⟨q,0,none⟩),x21,.slice A' L'.length c',y23,y24,y25,x26,x27,x28,x29,x30,x31,x32,x33,x34,x35,x36,x37,x38,x39,x40,x41,x42,x43,x44,x45,x46,x47,x48,x49,x50,x51,x52,x53,x54,x55,x56,x57,x58,x59,x60,x61,x62,x63,x64,x65,x66,x67,x68,x69,x70,x71,x72,x73,x74,x75,x76,x77,x78,x79,x80,x81,x82,y83,y84,y85,y86,y87,y88,y89,y90,y91,y92,y93,y94,y95,y96,y97,y98,y99,y100,y101,y102,y103,y104,y105,y106,x107,x108,x109,x110,x111,x112,x113,x114,x115,x116,x117,x118,x119,x120,x121,x122,x123,x124,x125,x126,x127,x128,x129,x130,x131,x132,x133,x134,x135,x136,x137,x138,x139,x140,x141,x142,x143,x144,x145,x146,x147,x148,x149,x150,x151,x152,x153,x154,x155,x156,x157,x158,x159,x160,x161,x162,x163,x164,x165,x166,x167,x168,x169,x170,x171,x172,x173,x174,x175,x176,x177,x178,x179,x180,x181,x182,x183,x184,x185,x186,x187,x188,x189,x190,x191,x192,x193,x194,x195,x196,x197,x198,x199,x200,x201,x202,x203,x204,x205,x206,x207,x208,x209,x210,x211],[]⟩ w') :
  ca.wp Tryz.prog (Exit.then K Q) ⟨#[x0,x1,x2,x3,x4,x5,x6,x7,x8,x9,x10,x11,x12,x13,x14,x15,x16,.slice AQ qs.length cQ,x18,x19,.pointer (some ⟨q,0,none⟩),x21,.slice A22 L.length c22,x23,x24,x25,x26,x27,x28,x29,x30,x31,x32,x33,x34,x35,x36,x37,x38,x39,x40,x41,x42,x43,x44,x45,x46,x47,x48,x49,x50,x51,x52,x53,x54,x55,x56,x57,x58,x59,x60,x61,x62,x63,x64,x65,x66,x67,x68,x69,x70,x71,x72,x73,x74,x75,x76,x77,x78,x79,x80,x81,x82,x83,x84,x85,x86,x87,x88,x89,x90,x91,x92,x93,x94,x95,x96,x97,x98,x99,x100,x101,x102,x103,x104,x105,x106,x107,x108,x109,x110,x111,x112,x113,x114,x115,x116,x117,x118,x119,x120,x121,x122,x123,x124,x125,x126,x127,x128,x129,x130,x131,x132,x133,x134,x135,x136,x137,x138,x139,x140,x141,x142,x143,x144,x145,x146,x147,x148,x149,x150,x151,x152,x153,x154,x155,x156,x157,x158,x159,x160,x161,x162,x163,x164,x165,x166,x167,x168,x169,x170,x171,x172,x173,x174,x175,x176,x177,x178,x179,x180,x181,x182,x183,x184,x185,x186,x187,x188,x189,x190,x191,x192,x193,x194,x195,x196,x197,x198,x199,x200,x201,x202,x203,x204,x205,x206,x207,x208,x209,x210,x211],[]⟩ w:=by
 injection hC with hC
 injection hC with hC1 hC2
 subst hC1 hC2
 have H0:=Zh h
 have HR:=Zh hR
 have HW:=Zh hw
 have HA:=Zh ha
 have HKP:=Zh hk
 have HL:=Zh hL
 have HJL:=Zh hJl
 have HRR:=Zh hr
 have HS0:=Zh hs0
 have HPF:=Zh hp
 have HQ:=Zh hQ
 have hn1:(qs.length:Int)≤30:=by omega
 clear h hR hw ha hk hL hJl hr hs0 hp hQ
 go_wp2_with fail
 go_loopw [22,23] (fun a22 a23 wr=>∃ (i:Nat) (I':Hp) (S':Str) (J':Jn) (L':List (List Int)) (A':Option Addr) (c':Nat),a23=.int .i64 i∧a22=.slice A' L'.length c'∧i≤qs.length∧I.sub I'∧St W I' wr (Zq126 (.slice A' L'.length c') L'::Zq11 p S'::jnHP q p J'::l)∧JWet S' J' s∧S'.armed=false∧Keeps S' (m+1000 - 10*i)∧L'=J'.l.map (·.data)∧J'.l.length≤100+i∧J'.r=r0) (fun _ a23 _=>qs.length - (intOf a23).toNat)
 case atStart=>exact ⟨0,I,S,J,L,A22,c22,rfl,rfl,Nat.zero_le _,Hp.sub.refl _,H0.out,HW.out,HA.out,HKP.out,HL.out,HJL.out,HRR.out⟩
 case round =>
  obtain ⟨i,I2,S2,J2,L2,A2,c2,rfl,rfl,hi,hs2,h2,hw2,ha2,hk2,hL2,hJ2,hr2⟩:=hrel
  clear H0 HW HA HKP HL HJL HRR
  have HS2:=Zh hs2
  have HW2:=Zh hw2
  have HA2:=Zh ha2
  have HK2:=Zh hk2
  have HL2:=Zh hL2
  have HJ2:=Zh hJ2
  have HR2:=Zh hr2
  by_cases hlt:i<qs.length
  ·have d0:decide ((i:Int)<(qs.length:Int))=true:=decide_eq_true (by omega)
   obtain ⟨d,hd⟩:∃ d,qs[i]?=some d:=⟨_,List.getElem?_eq_getElem hlt⟩
   obtain ⟨b,off,Ad,cd,rfl,hdb,hdc⟩:=(HR.out.mono hs2).cells hd
   obtain ⟨hd1,hd2⟩:=HPF.out d (List.mem_of_getElem? hd)
   have y0:=hdc (Hp.sub.refl _) h2
   have HDC:=Zh (fun (I':Hp) (w':World) (L:List HP) (hs:I2.sub I') (hw':St W I' w' L)=>hdc hs hw')
   have HDB:=Zh hdb
   have hap:=Zq156 (m:=m+1000 - 10*i - 4) d Ad cd (h2.pull 1 _ rfl |>.pull 2 _ rfl |>.pull 1 _ rfl) (hk2.fewer (by omega)) hw2.ok.jb hdb hd2 (hw2.ok.six ha2 (by omega) _)
   have hkp:=Zq259 (J:=J2) (d:=d) (m:=m+1000 - 10*(i+1)) (hk2.fewer (by omega))
   have hno:fitsJ J2 [(d.length:Int)]=false→Zq44 S2 J2 d=((0,6),S2,J2):=fun hf=>by
    unfold Zq44
    rw [if_neg (by simp [hw2.ok.may]),if_neg (by omega),if_pos hf]
   have hyes:fitsJ J2 [(d.length:Int)]=true→∃ n S' J',Zq44 S2 J2 d=((n,0),S',J')∧JWet S' J' s∧S'.armed=false∧J'.r=r0∧J'.l.length≤100+(i+1)∧J'.l.map (·.data)=L2++[d]:=fun hf=>by
    obtain ⟨S',g,pl,nx,_,e1,e2,e3⟩:=hw2.append ha2 hd1 hd2 hf (by rw [hr2,HS0.out];omega)
    refine ⟨_,S',_,e1,e2,e3,hr2,?_,?_⟩
    ·show (J2.l++[newE J2 d]).length≤_
     rw [List.length_append];show J2.l.length+1≤_;omega
    ·show (J2.l++[newE J2 d]).map (·.data)=_
     rw [List.map_append,hL2];rfl
   obtain ⟨⟨⟨rn,re⟩,RS,RJ⟩,hRR⟩:∃ x,x=Zq44 S2 J2 d:=⟨_,rfl⟩
   rw [←hRR] at hap hkp hno hyes
   simp only at hap hkp
   have HAP:=Zh hap
   have HKP:=Zh hkp
   have HNO:=Zh hno
   have HYES:=Zh hyes
   have HL2L:=Zh (show L2.length≤200 by rw [hL2,List.length_map];omega)
   obtain ⟨w2,hww⟩:∃ x,x=wr:=⟨_,rfl⟩
   rw [←hww] at HAP y0 ⊢
   clear hs2 h2 hw2 ha2 hk2 hL2 hJ2 hr2 hd hdb hdc hap hkp hno hyes hRR hww hd1
   have HD2:=Zh hd2
   clear hd2
   go_wp2_with fail
   refine HAP.out.mono ?_
   rintro e w6 ⟨I6,hs6,rfl,h6⟩
   have HS6:=Zh hs6
   have H6:=Zh h6
   clear hs6 h6 HAP y0
   cases hfit:fitsJ J2 [(d.length:Int)] with
   | false =>
    have hq:=HNO.out hfit
    simp only [Prod.mk.injEq] at hq
    obtain ⟨⟨rfl,rfl⟩,rfl,rfl⟩:=hq
    clear hfit
    go_wp2_with fail
    go_roundw
    case rel=>exact ⟨i+1,I6,RS,RJ,L2,A2,c2,by go_num,rfl,by omega,HS2.out.trans HS6.out,((H6.out.pull 2 _ rfl)),HW2.out,HA2.out,HKP.out,HL2.out,Nat.le_trans HJ2.out (by omega),HR2.out⟩
    case measure=>first|(simp [intOf];done)|(simp [intOf];omega)|fail
   | true =>
    obtain ⟨n,S',J',hq,g1,g2,g3,g4,g5⟩:=HYES.out hfit
    simp only [Prod.mk.injEq] at hq
    obtain ⟨⟨rfl,rfl⟩,rfl,rfl⟩:=hq
    have h6:=H6.out.pull 2 _ rfl
    have yd:=HDC.out _ _ _ HS6.out h6
    obtain ⟨A9,c9,w9,hr9,h9⟩:=St.rows_append (g:=w6.heap.size) rfl h6 (RowI.mono HS6.out HDB.out) HD2.out (by have:=HL2L.out;omega)
    have hll:L2.length+1=(L2++[d]).length:=by simp
    rw [hll] at hr9 h9
    have HR9:=Zh hr9
    have H9:=Zh h9
    have HG:=Zh (And.intro g1 (And.intro g2 (And.intro g3 (And.intro g4 g5.symm))))
    clear hfit g1 g2 g3 g4 g5 h6 hr9 h9 hll
    go_wp2_with (at_builtin;refine Lib.wpList_append_run _ rfl (.tmp 100) (.tmp 105) 22 22 rfl _ _ rfl rfl _ _ HR9.out ?_)
    go_roundw
    case rel=>exact ⟨i+1,I6,RS,RJ,L2++[d],A9,c9,by go_num,by simp,by omega,HS2.out.trans HS6.out,H9.out,HG.out.1,HG.out.2.1,HKP.out,HG.out.2.2.2.2,HG.out.2.2.2.1,HG.out.2.2.1⟩
    case measure=>first|(simp [intOf];done)|(simp [intOf];omega)|fail
  ·obtain rfl:i=qs.length:=by omega
   have d0:decide (((qs.length:Nat):Int)<(qs.length:Int))=false:=decide_eq_false (by omega)
   have H2:=Zh h2
   clear h2 hs2 hw2 ha2 hk2 hL2 hJ2 hr2
   go_wp2_with fail
   exact HQ.out _ _ _ _ _ _ _ _ _ _ _ _ _ _ _ _ _ _ _ _ _ _ _ _ _ _ _ I2 _ S2 J2 L2 A2 c2 HS2.out H2.out HW2.out HA2.out (HK2.out.fewer (by omega)) HL2.out (Nat.le_trans HJ2.out (by omega)) HR2.out
theorem Zq598 {ca cb:Code} {Q:Exit→Act→World→Prop} {K:Act→World→Prop} (hK:∀ x y,cb.wp Tryz.prog Q x y→K x y) (hC:(Tryz.f4).body.bind (fromR 27)=some (.seq ca cb)) {x0 x1 x2 x3 x4 x5 x6 x7 x8 x9 x10 x11 x12 x13 x14 x15 x16 x17 x18 x19 x20 x21 x23 x24 x25 x26 x27 x28 x29 x30 x31 x33 x34 x35 x36 x37 x38 x39 x40 x41 x42 x43 x44 x45 x46 x47 x48 x49 x50 x51 x52 x53 x54 x55 x56 x57 x58 x59 x60 x61 x62 x63 x64 x65 x66 x67 x68 x69 x70 x71 x72 x73 x74 x75 x76 x77 x78 x79 x80 x81 x82 x83 x84 x85 x86 x87 x88 x89 x90 x91 x92 x93 x94 x95 x96 x97 x98 x99 x100 x101 x102 x103 x104 x105 x106 x107 x108 x109 x110 x111 x112 x113 x114 x115 x116 x117 x118 x119 x120 x121 x122 x123 x124 x125 x126 x127 x128 x129 x130 x131 x132 x133 x134 x135 x136 x137 x138 x139 x140 x141 x142 x143 x144 x145 x146 x147 x148 x149 x150 x151 x152 x153 x154 x155 x156 x157 x158 x159 x160 x161 x162 x163 x164 x165 x166 x167 x168 x169 x170 x171 x172 x173 x174 x175 x176 x177 x178 x179 x180 x181 x182 x183 x184 x185 x186 x187 x188 x189 x190 x191 x192 x193 x194 x195 x196 x197 x198 x199 x200 x201 x202 x203 x204 x205 x206 x207 x208 x209 x210 x211:Value} {cX c22:Nat} {es:List En} {L:List (List Int)} {AX A22:Option Addr}
  (h:St W I w (Zq25 (.slice AX es.length cX) es::Zq126 (.slice A22 L.length c22) L::l)) (hn:es.length≤300) (hm:es.map (·.data)=L.take es.length)
  (hQ:∀ (y0 y1 y2 y3 y4 y5 y6 y7 y8 y9 y10 y11 y12 y13 y14 y15 y16 y17 y18 y19 y20 y21 y22 y23 y24 y25 y26 y27 y28 y29 y30 y31 y32 y33 y34 y35 y36 y37 y38 y39 y40 y41 y42 y43 y44 y45 y46 y47 y48 y49 y50 y51 y52 y53 y54 y55 y56 y57 y58 y59 y60 y61 y62 y63 y64 y65 y66 y67 y68 y69 y70 y71 y72 y73 y74 y75 y76 y77 y78 y79 y80 y81 y82 y83 y84 y85 y86 y87 y88 y89 y90 y91 y92 y93 y94 y95 y96 y97 y98 y99 y100 y101 y102 y103 y104 y105 y106 y107 y108 y109 y110 y111 y112 y113 y114 y115 y116 y117 y118 y119 y120 y121 y122 y123 y124 y125 y126 y127 y128 y129 y130 y131 y132 y133 y134 y135 y136 y137 y138 y139 y140 y141 y142 y143 y144 y145 y146 y147 y148 y149 y150 y151 y152 y153 y154 y155 y156 y157 y158 y159 y160 y161 y162 y163 y164 y165 y166 y167 y168 y169 y170 y171 y172 y173 y174 y175 y176 y177 y178 y179 y180 y181 y182 y183 y184 y185 y186 y187 y188 y189 y190 y191 y192 y193 y194 y195 y196 y197 y198 y199 y200 y201 y202 y203 y204 y205 y206 y207 y208 y209 y210 y211:Value) (w':World),Below W.heap.size W w'→Q .normal ⟨#[y0,y1,y2,y3,y4,y5,y6,y7,y8,y9,y10,y11,y12,y13,y14,y15,y16,y17,y18,y19,y20,y21,y22,y23,y24,y25,y26,y27,y28,y29,y30,y31,y32,y33,y34,y35,y36,y37,y38,y39,y40,y41,y42,y43,y44,y45,y46,y47,y48,y49,y50,y51,y52,y53,y54,y55,y56,y57,y58,y59,y60,y61,y62,y63,y64,y65,y66,y67,y68,y69,y70,y71,y72,y73,y74,y75,y76,y77,y78,y79,y80,y81,y82,y83,y84,y85,y86,y87,y88,y89,y90,y91,y92,y93,y94,y95,y96,y97,y98,y99,y100,y101,y102,y103,y104,y105,y106,y107,y108,y109,y110,y111,y112,y113,y114,y115,y116,y117,y118,y119,y120,y121,y122,y123,y124,y125,y126,y127,y128,y129,y130,y131,y132,y133,y134,y135,y136,y137,y138,y139,y140,y141,y142,y143,y144,y145,y146,y147,y148,y149,y150,y151,y152,y153,y154,y155,y156,y157,y158,y159,y160,y161,y162,y163,y164,y165,y166,y167,y168,y169,y170,y171,y172,y173,y174,y175,y176,y177,y178,y179,y180,y181,y182,y183,y184,y185,y186,y187,y188,y189,y190,y191,y192,y193,y194,y195,y196,y197,y198,y199,y200,y201,y202,y203,y204,y205,y206,y207,y208,y209,y210,y211],[]⟩ w') :
  ca.wp Tryz.prog (Exit.then K Q) ⟨#[x0,x1,x2,x3,x4,x5,x6,x7,x8,x9,x10,x11,x12,x13,x14,x15,x16,x17,x18,x19,x20,x21,.slice A22 L.length c22,x23,x24,x25,x26,x27,x28,x29,x30,x31,.slice AX es.length cX,x33,x34,x35,x36,x37,x38,x39,x40,x41,x42,x43,x44,x45,x46,x47,x48,x49,x50,x51,x52,x53,x54,x55,x56,x57,x58,x59,x60,x61,x62,x63,x64,x65,x66,x67,x68,x69,x70,x71,x72,x73,x74,x75,x76,x77,x78,x79,x80,x81,x82,x83,x84,x85,x86,x87,x88,x89,x90,x91,x92,x93,x94,x95,x96,x97,x98,x99,x100,x101,x102,x103,x104,x105,x106,x107,x108,x109,x110,x111,x112,x113,x114,x115,x116,x117,x118,x119,x120,x121,x122,x123,x124,x125,x126,x127,x128,x129,x130,x131,x132,x133,x134,x135,x136,x137,x138,x139,x140,x141,x142,x143,x144,x145,x146,x147,x148,x149,x150,x151,x152,x153,x154,x155,x156,x157,x158,x159,x160,x161,x162,x163,x164,x165,x166,x167,x168,x169,x170,x171,x172,x173,x174,x175,x176,x177,x178,x179,x180,x181,x182,x183,x184,x185,x186,x187,x188,x189,x190,x191,x192,x193,x194,x195,x196,x197,x198,x199,x200,x201,x202,x203,x204,x205,x206,x207,x208,x209,x210,x211],[]⟩ w:=by
 injection hC with hC
 injection hC with hC1 hC2
 subst hC1 hC2
 have H0:=Zh h
 have HM:=Zh hm
 have HQ:=Zh hQ
 have hle:es.length≤L.length:=by
  have:=congrArg List.length hm
  rw [List.length_map,List.length_take] at this
  omega
 have HLE:=Zh hle
 have hn1:(es.length:Int)≤300:=by omega
 clear h hm hQ hle
 go_wp2_with fail
 go_loopw [36] (fun a36 wr=>∃ (i:Nat),a36=.int .i64 i∧i≤es.length∧St W I wr (Zq25 (.slice AX es.length cX) es::Zq126 (.slice A22 L.length c22) L::l)) (fun a36 _=>es.length - (intOf a36).toNat)
 case atStart=>exact ⟨0,rfl,Nat.zero_le _,H0.out⟩
 case round =>
  obtain ⟨i,rfl,hi,h2⟩:=hrel
  clear H0
  by_cases hlt:i<es.length
  ·have d0:decide ((i:Int)<(es.length:Int))=true:=decide_eq_true (by omega)
   obtain ⟨e,he⟩:∃ e,es[i]?=some e:=⟨_,List.getElem?_eq_getElem hlt⟩
   have hLi:L[i]?=some e.data:=by
    have h9:(es.map (·.data))[i]?=some e.data:=by rw [List.getElem?_map,he];rfl
    rw [HM.out,List.getElem?_take_of_lt hlt] at h9
    exact h9
   have hlt2:i<L.length:=by have:=HLE.out;omega
   obtain ⟨g1,q1,c1,v1,e1,hg1,hb1,hy1,x0,x1,x2⟩:=h2.ents_cell he
   obtain ⟨g2,q2,c2,v2,e2,hg2,hb2,hy2,y0⟩:=(h2.pull 1 _ rfl).rows_cell hLi
   simp only [Value.slice.injEq] at e1 e2
   obtain ⟨rfl,hx1,hx2⟩:=e1
   obtain ⟨rfl,hx3,hx4⟩:=e2
   clear hx1 hx2 hx3 hx4 x0 x1
   have H2:=Zh h2
   have HB1:=Zh hb1
   have HB2:=Zh hb2
   have HMK:=Zh (show ∀ w',Below wr.heap.size wr w'→(w'.cell? ⟨g1,q1+i*3+2,none⟩=some v1∧w'.cell? ⟨g2,q2+i,none⟩=some v2∧(convert 46 9 v1).run Tryz.prog w'=.ok (.string (strOfNums e.data)) w'∧(convert 46 9 v2).run Tryz.prog w'=.ok (.string (strOfNums e.data)) w') from fun w' hb=>by
    have hc:∀ g o,g<wr.heap.size→w'.cell? ⟨g,o,none⟩=wr.cell? ⟨g,o,none⟩:=fun g o hg=>hb.cell (p:=⟨g,o,none⟩) hg
    have h3:=H2.out.keep hb
    rw [hc _ _ hg1,hc _ _ hg2]
    exact ⟨x2,y0,Zq90 (Zq30 h3 HB1.out),Zq90 (Zq30 h3 HB2.out)⟩)
   obtain ⟨A1,k1,rfl⟩:=hb1.isSl
   obtain ⟨A2,k2,rfl⟩:=hb2.isSl
   obtain ⟨w2,hw2⟩:∃ x,x=wr:=⟨_,rfl⟩
   rw [←hw2] at H2 HMK ⊢
   clear h2 he hLi hb1 hb2 hy1 hy2 hg1 hg2 x2 y0 hw2
   go_upto_region 30 with fail
   refine Zq37 (fun w'=>w'.cell? ⟨g1,q1+i*3+2,none⟩=some (.slice A1 e.data.length k1)∧w'.cell? ⟨g2,q2+i,none⟩=some (.slice A2 e.data.length k2)∧(convert 46 9 (.slice A1 e.data.length k1)).run Tryz.prog w'=.ok (.string (strOfNums e.data)) w'∧(convert 46 9 (.slice A2 e.data.length k2)).run Tryz.prog w'=.ok (.string (strOfNums e.data)) w') [(0,false),(1,false),(2,false),(3,false),(4,false),(5,false),(6,false),(7,false),(8,false),(9,false),(10,false),(11,false)] [] [] (by kernel_rfl) (by kernel_rfl) (by (intro w' hb;exact HMK.out _ (((Below.refl _ _).drew).trans hb))) ?_
   repeat (first|(refine Zq52 (by rfl) _ (by rfl) (by intro w;go_simp;try with_reducible rfl) ?_;(try simp only [Act.put,List.setIfInBounds_toArray,Zl4,Zl5]))|(refine Zq118 (by rfl) _ (by rfl) (by (intro w hSw;(try dsimp only at hSw);go_simp;try with_reducible rfl)) ?_;(try simp only [Act.put,List.setIfInBounds_toArray,Zl4,Zl5]))|(refine Zq71 (by rfl) (by rfl) ?_;(try simp only [Act.put,List.setIfInBounds_toArray,Zl4,Zl5]))|fail)
   refine Zq264 ?_
   refine Zq421 ?_
   rintro w9 hz9
   have H9:=Zh (H2.out.drew.keep hz9.below)
   clear hz9 H2 HMK HB1 HB2
   go_wp2_with fail
   refine NoPanic.normal ?_
   go_wp2_with fail
   go_roundw
   case rel=>exact ⟨i+1,by go_num,by omega,H9.out⟩
   case measure=>first|(simp [intOf];done)|(simp [intOf];omega)|fail
  ·obtain rfl:i=es.length:=by omega
   have d0:decide (((es.length:Nat):Int)<(es.length:Int))=false:=decide_eq_false (by omega)
   have HB:=Zh h2.below
   clear h2
   go_wp2_with fail
   exact HQ.out _ _ _ _ _ _ _ _ _ _ _ _ _ _ _ _ _ _ _ _ _ _ _ _ _ _ _ _ _ _ _ _ _ _ _ _ _ _ _ _ _ _ _ _ _ _ _ _ _ _ _ _ _ _ _ _ _ _ _ _ _ _ _ _ _ _ _ _ _ _ _ _ _ _ _ _ _ _ _ _ _ _ _ _ _ _ _ _ _ _ _ _ _ _ _ _ _ _ _ _ _ _ _ _ _ _ _ _ _ _ _ _ _ _ _ _ _ _ _ _ _ _ _ _ _ _ _ _ _ _ _ _ _ _ _ _ _ _ _ _ _ _ _ _ _ _ _ _ _ _ _ _ _ _ _ _ _ _ _ _ _ _ _ _ _ _ _ _ _ _ _ _ _ _ _ _ _ _ _ _ _ _ _ _ _ _ _ _ _ _ _ _ _ _ _ _ _ _ _ _ _ _ _ _ _ _ _ _ _ _ _ _ _ HB.out
theorem Zq724 {ca cb:Code} {Q:Exit→Act→World→Prop} {K:Act→World→Prop} (hK:∀ x y,cb.wp Tryz.prog Q x y→K x y) (hC:(Tryz.f4).body.bind (fromR 15)=some (.seq ca cb)) {x0 x1 x2 x3 x4 x7 x8 x9 x10 x11 x12 x13 x14 x15 x16 x17 x18 x23 x24 x25 x26 x27 x28 x29 x30 x31 x32 x33 x34 x35 x36 x37 x38 x39 x40 x41 x42 x43 x44 x45 x46 x47 x48 x49 x50 x51 x52 x53 x54 x55 x56 x57 x58 x59 x60 x61 x62 x63 x64 x65 x66 x67 x68 x69 x70 x71 x72 x73 x74 x75 x76 x77 x78 x79 x80 x81 x82 x83 x84 x85 x86 x87 x88 x89 x90 x91 x92 x93 x94 x95 x96 x97 x98 x99 x100 x101 x102 x103 x104 x105 x106 x107 x108 x109 x110 x111 x112 x113 x114 x115 x116 x117 x118 x119 x120 x121 x122 x123 x124 x125 x126 x127 x128 x129 x130 x131 x132 x133 x134 x135 x136 x137 x138 x139 x140 x141 x142 x143 x144 x145 x146 x147 x148 x149 x150 x151 x152 x153 x154 x155 x156 x157 x158 x159 x160 x161 x162 x163 x164 x165 x166 x167 x168 x169 x170 x171 x172 x173 x174 x175 x176 x177 x178 x179 x180 x181 x182 x183 x184 x185 x186 x187 x188 x189 x190 x191 x192 x193 x194 x195 x196 x197 x198 x199 x200 x201 x202 x203 x204 x205 x206 x207 x208 x209 x210 x211:Value} {p q cK c22 m k:Nat} {torn:Int} {ks:List Int} {L:List (List Int)} {AK A22:Option Addr} {S:Str} {J:Jn}
  (h:St W I w (Zq126 (.slice A22 L.length c22) L::Zq11 p S::jnHP q p J::l)) (hKI:IntsI I (.slice AK ks.length cK) ks) (hks:ks.length≤20) (hw:JWet S J k) (ha:S.armed=false) (hk:Keeps S (m+2000)) (hL:L=J.l.map (·.data)) (hJl:J.l.length≤200) (hf:J.r.first=1)
  (hQ:∀ (y0 y1 y2 y3 y4 y5 y6 y7 y8 y9 y10 y11 y12 y13 y15 y16 y17 y18 y19 y20 y21 y22 y23 y24 y25 y26 y27 y28 y29 y30 y31 y32 y33 y34 y35 y36 y37 y38 y39 y40 y41 y42 y43 y44 y45 y46 y47 y48 y49 y50 y51 y52 y53 y54 y55 y56 y57 y58 y59 y60 y61 y62 y63 y64 y65 y66 y67 y68 y69 y70 y71 y72 y73 y74 y75 y76 y77 y78 y79 y80 y81 y82 y83 y84 y85 y86 y87 y88 y89 y90 y91 y92 y93 y94 y95 y96 y97 y98 y99 y100 y101 y102 y103 y104 y105 y106 y107 y108 y109 y110 y111 y112 y113 y114 y115 y116 y117 y118 y119 y120 y121 y122 y123 y124 y125 y126 y127 y128 y129 y130 y131 y132 y133 y134 y135 y136 y137 y138 y139 y140 y141 y142 y143 y144 y145 y146 y147 y148 y149 y150 y151 y152 y153 y154 y155 y156 y157 y158 y159 y160 y161 y162 y163 y164 y165 y166 y167 y168 y169 y170 y171 y172 y173 y174 y175 y176 y177 y178 y179 y180 y181 y182 y183 y184 y185 y186 y187 y188 y189 y190 y191 y192 y193 y194 y195 y196 y197 y198 y199 y200 y201 y202 y203 y204 y205 y206 y207 y208 y209 y210 y211:Value) (w':World),Below W.heap.size W w'→Q .ret ⟨#[y0,y1,y2,y3,y4,y5,y6,y7,y8,y9,y10,y11,y12,y13,.bool true,y15,y16,y17,y18,y19,y20,y21,y22,y23,y24,y25,y26,y27,y28,y29,y30,y31,y32,y33,y34,y35,y36,y37,y38,y39,y40,y41,y42,y43,y44,y45,y46,y47,y48,y49,y50,y51,y52,y53,y54,y55,y56,y57,y58,y59,y60,y61,y62,y63,y64,y65,y66,y67,y68,y69,y70,y71,y72,y73,y74,y75,y76,y77,y78,y79,y80,y81,y82,y83,y84,y85,y86,y87,y88,y89,y90,y91,y92,y93,y94,y95,y96,y97,y98,y99,y100,y101,y102,y103,y104,y105,y106,y107,y108,y109,y110,y111,y112,y113,y114,y115,y116,y117,y118,y119,y120,y121,y122,y123,y124,y125,y126,y127,y128,y129,y130,y131,y132,y133,y134,y135,y136,y137,y138,y139,y140,y141,y142,y143,y144,y145,y146,y147,y148,y149,y150,y151,y152,y153,y154,y155,y156,y157,y158,y159,y160,y161,y162,y163,y164,y165,y166,y167,y168,y169,y170,y171,y172,y173,y174,y175,y176,y177,y178,y179,y180,y181,y182,y183,y184,y185,y186,y187,y188,y189,y190,y191,y192,y193,y194,y195,y196,y197,y198,y199,y200,y201,y202,y203,y204,y205,y206,y207,y208,y209,y210,y211],[]⟩ w') :
  ca.wp Tryz.prog (Exit.then K Q) ⟨#[x0,x1,x2,x3,x4,.slice AK ks.length cK,.int .i64 torn,x7,x8,x9,x10,x11,x12,x13,x14,x15,x16,x17,x18,.pointer (some ⟨p,0,none⟩),.pointer (some ⟨q,0,none⟩),.int .i64 (k:Nat),.slice A22 L.length c22,x23,x24,x25,x26,x27,x28,x29,x30,x31,x32,x33,x34,x35,x36,x37,x38,x39,x40,x41,x42,x43,x44,x45,x46,x47,x48,x49,x50,x51,x52,x53,x54,x55,x56,x57,x58,x59,x60,x61,x62,x63,x64,x65,x66,x67,x68,x69,x70,x71,x72,x73,x74,x75,x76,x77,x78,x79,x80,x81,x82,x83,x84,x85,x86,x87,x88,x89,x90,x91,x92,x93,x94,x95,x96,x97,x98,x99,x100,x101,x102,x103,x104,x105,x106,x107,x108,x109,x110,x111,x112,x113,x114,x115,x116,x117,x118,x119,x120,x121,x122,x123,x124,x125,x126,x127,x128,x129,x130,x131,x132,x133,x134,x135,x136,x137,x138,x139,x140,x141,x142,x143,x144,x145,x146,x147,x148,x149,x150,x151,x152,x153,x154,x155,x156,x157,x158,x159,x160,x161,x162,x163,x164,x165,x166,x167,x168,x169,x170,x171,x172,x173,x174,x175,x176,x177,x178,x179,x180,x181,x182,x183,x184,x185,x186,x187,x188,x189,x190,x191,x192,x193,x194,x195,x196,x197,x198,x199,x200,x201,x202,x203,x204,x205,x206,x207,x208,x209,x210,x211],[]⟩ w:=by
 injection hC with hC
 injection hC with hC1 hC2
 subst hC1 hC2
 have hj:=hw.ok
 obtain ⟨hrest,har,hlate,hoff⟩:=hw.fall ks torn
 have hkf:=Zq331 ks torn hk
 obtain ⟨S1,hS1⟩:∃ x,x=(fallS S ks torn).1:=⟨_,rfl⟩
 have hfa:=Zq516 (.slice AK ks.length cK) ks torn (h.pull 1 _ rfl) hKI (by omega) (fun _=>hk.inv.fewer (by omega))
 rw [←hS1] at hrest har hoff hkf hfa
 obtain ⟨mm,f,hm1,hm2,hany⟩:=hrest.any
 have hfar:=hw.far
 have hm3:k≤mm:=by have:=hm2 hfar;rw [hf] at this;omega
 obtain ⟨J1,hJ1⟩:∃ x,x=lJ J (J.l.take mm) (J.at_.take mm) f:=⟨_,rfl⟩
 rw [←hJ1] at hany
 have hJ1l:J1.l=J.l.take mm:=by rw [hJ1];rfl
 have hJ1f:J1.r.first=1:=by rw [hJ1];exact hf
 have HFA:=Zh hfa
 have HKF:=Zh hkf
 have HOFF:=Zh hoff
 have HANY:=Zh hany
 have HAR:=Zh har
 have HJB:=Zh hj.jb
 have HQ:=Zh hQ
 have HM:=Zh (show J1.l.length=mm∧k≤mm∧mm≤L.length∧mm≤200 by rw [hJ1l,hL,List.length_map,List.length_take];omega)
 have HD:=Zh (show J1.l.map (·.data)=L.take J1.l.length by rw [hJ1l,hL,List.map_take,List.length_take,Nat.min_eq_left hm1])
 have HJF:=Zh hJ1f
 have HMAY:=Zh (show mayJ S1 J=7 by unfold mayJ;rw [if_pos (.inr hoff)])
 have HMAY2:=Zh (show mayJ2 S1 J=deadJ J by unfold mayJ2;rw [if_pos (.inr hoff)])
 clear h hKI hw ha hk hL hJl hf hQ hj hrest har hlate hoff hkf hfa hm1 hm2 hany hfar hm3 hJ1 hJ1l hJ1f hS1
 go_wp2_with fail
 refine HFA.out.mono ?_
 rintro e w2 ⟨I2,hs2,rfl,h2⟩
 obtain ⟨I3,hs3,hb3,h3⟩:=Zq308 (x:=1) (h2.alloc (.cells #[.int .u8 1] 5))
 have hap:=Zq156 (m:=m) [1] _ _ (h3.pull 2 _ rfl |>.pull 1 _ rfl) (HKF.out.fewer (by omega)) HJB.out hb3 (by intro y hy;rw [List.mem_singleton.1 hy];unfold isByte;omega) (Zq723 HOFF.out)
 rw [show Zq44 S1 J [1]=((0,7),S1,deadJ J) by unfold Zq44;rw [HMAY.out,if_pos (by decide),HMAY2.out]] at hap
 have HAP:=Zh hap
 clear h2 hs2 hs3 hb3 h3 hap HFA
 go_wp2_with fail
 refine HAP.out.mono ?_
 rintro e w4 ⟨I4,hs4,rfl,h4⟩
 have hpw:=Zq633 h4
 rw [HOFF.out] at hpw
 have HPW:=Zh hpw
 clear h4 hs4 hpw HAP
 go_wp2_with fail
 refine HPW.out.mono ?_
 rintro e w5 ⟨rfl,h5⟩
 have hfl:=Zq234 (m:=m) (S:=Zq470 S1) h5 ((Zq295 HKF.out).fewer (by omega)) HJB.out.deadJ
 rw [show Zq471 (Zq470 S1) (deadJ J)=(7,Zq470 S1,deadJ J) by rfl] at hfl
 have HFL:=Zh hfl
 clear h5 hfl HPW
 go_wp2_with fail
 refine HFL.out.mono ?_
 rintro e w6 ⟨I6,hs6,rfl,h6⟩
 have HO1:=Zh (Zq356 (m:=m+1000) h6 HANY.out HAR.out ((Zq295 HKF.out).fewer (by omega)))
 clear h6 hs6 HFL
 go_wp2_with fail
 refine HO1.out.mono ?_
 rintro e w7 ⟨I7,q7,S7,hs7,rfl,h7,hj7,ha7,hl7,hk7⟩
 have HO2:=Zh (Zq356 (m:=m+500) h7 hj7.any ha7 (hk7.fewer (by omega)))
 clear h7 hs7 hj7 ha7 hl7 hk7 HO1
 go_wp2_with fail
 refine HO2.out.mono ?_
 rintro e w8 ⟨I8,q8,S8,hs8,rfl,h8,hj8,ha8,hl8,hk8⟩
 rw [Zq504] at h8 hj8
 obtain ⟨G,hG⟩:∃ x,x=Zq40 J1:=⟨_,rfl⟩
 rw [←hG] at h8 hj8
 have hGl:G.l=J1.l:=by rw [hG];rfl
 have hGf:G.r.first=1:=by rw [hG];exact HJF.out
 obtain ⟨es,hes⟩:∃ x,x=G.l:=⟨_,rfl⟩
 have hel:es.length=mm:=by rw [hes,hGl];exact HM.out.1
 have hend:endJ G=(es.length:Int):=by unfold endJ;rw [hGf,←hes];omega
 have hrd:=Zq793 hj8 hGf (by rw [←hes,hel];have:=HM.out;omega)
 have hrs:=Zq453 0 1048576 (h8.pull 2 _ rfl |>.pull 1 _ rfl) hj8.jb (by decide) hj8.okB
 rw [hrd,←hes,hj8.may2] at hrs
 have HRS:=Zh hrs
 have HJ8:=Zh hj8
 have HRD:=Zh hrd
 have HEND:=Zh hend
 have HES:=Zh hes
 have HEL:=Zh hel
 have HDE:=Zh (show es.map (·.data)=L.take es.length by rw [hes,hGl];exact HD.out)
 clear h8 hs8 hj8 ha8 hl8 hk8 hG hGl hGf hel hend hrd hrs hes HO2 HANY
 go_wp2_with fail
 refine HRS.out.mono ?_
 rintro e w9 ⟨I9,v9,hs9,rfl,h9⟩
 obtain ⟨Ax,cx,rfl,_⟩:=h9.ents_slice
 have hrs:=Zq453 0 1048576 (h9.pull 3 _ rfl |>.pull 2 _ rfl) HJ8.out.jb (by decide) HJ8.out.okB
 rw [HRD.out,←HES.out,HJ8.out.may2] at hrs
 have HRS2:=Zh hrs
 clear h9 hs9 hrs HRS
 go_wp2_with fail
 refine HRS2.out.mono ?_
 rintro e w10 ⟨I10,v10,hs10,rfl,h10⟩
 obtain ⟨Ay,cy,rfl,_⟩:=h10.ents_slice
 have HE7:=Zh (Zq93 (h10.pull 4 _ rfl) HJ8.out.jb)
 rw [HEND.out] at HE7
 have H10:=Zh h10
 clear h10 hs10 HRS2
 go_wp2_with fail
 refine HE7.out.mono ?_
 rintro e w11 ⟨rfl,hb11⟩
 have h11:=H10.out.keep hb11
 have HE8:=Zh (Zq93 (h11.pull 2 _ rfl) HJ8.out.jb)
 rw [HEND.out] at HE8
 have H11:=Zh h11
 clear h11 hb11 HE7 H10
 go_wp2_with fail
 refine HE8.out.mono ?_
 rintro e w12 ⟨rfl,hb12⟩
 have h12:=H11.out.keep hb12
 have HT7:=Zh (Zq299 (h12.pull 4 _ rfl) HJ8.out.jb)
 have H12:=Zh h12
 clear h12 hb12 HE8 H11
 go_wp2_with fail
 refine HT7.out.mono ?_
 rintro e w13 ⟨rfl,hb13⟩
 have h13:=H12.out.keep hb13
 have HT8:=Zh (Zq299 (h13.pull 2 _ rfl) HJ8.out.jb)
 have H13:=Zh h13
 clear h13 hb13 HT7 H12
 go_wp2_with fail
 refine HT8.out.mono ?_
 rintro e w14 ⟨rfl,hb14⟩
 have h14:=H13.out.keep hb14
 have HE7:=Zh (Zq93 (h14.pull 4 _ rfl) HJ8.out.jb)
 rw [HEND.out] at HE7
 have H14:=Zh h14
 have hkn:k≤es.length:=by rw [HEL.out];exact HM.out.2.1
 have d1:decide ((es.length:Int)<(k:Int))=false:=decide_eq_false (by omega)
 have d1n:decide (es.length<k)=false:=decide_eq_false (by omega)
 clear h14 hb14 HT8 H13 hkn
 go_wp2_with fail
 refine HE7.out.mono ?_
 rintro e w15 ⟨rfl,hb15⟩
 have h15:=H14.out.keep hb15
 have HE7:=Zh (Zq93 (h15.pull 4 _ rfl) HJ8.out.jb)
 rw [HEND.out] at HE7
 have H15:=Zh h15
 clear h15 hb15 H14
 go_wp2_with fail
 refine HE7.out.mono ?_
 rintro e w16 ⟨rfl,hb16⟩
 have h16:=H15.out.keep hb16
 have HSE:=Zh (Zq466 Ax Ay cx cy es (h16.pull 3 _ rfl) (by have:=HEL.out;have:=HM.out;omega))
 have H16:=Zh h16
 have hle:es.length≤L.length:=by rw [HEL.out];exact HM.out.2.2.1
 have d2:decide ((L.length:Int)<(es.length:Int))=false:=decide_eq_false (by omega)
 have d2n:decide (L.length<es.length)=false:=decide_eq_false (by omega)
 clear h16 hb16 HE7 H15 hle
 go_wp2_with fail
 refine HSE.out.mono ?_
 rintro e w17 ⟨rfl,h17⟩
 have H17:=Zh h17
 clear h17 HSE H16
 go_upto_region 27 with fail
 refine Zq598 (by assumption) (by kernel_rfl) (H17.out.pull 6 _ rfl |>.pull 1 _ rfl) (by have:=HEL.out;have:=HM.out;omega) HDE.out ?_
 intro _ _ _ _ _ _ _ _ _ _ _ _ _ _ _ _ _ _ _ _ _ _ _ _ _ _ _ _ _ _ _ _ _ _ _ _ _ _ _ _ _ _ _ _ _ _ _ _ _ _ _ _ _ _ _ _ _ _ _ _ _ _ _ _ _ _ _ _ _ _ _ _ _ _ _ _ _ _ _ _ _ _ _ _ _ _ _ _ _ _ _ _ _ _ _ _ _ _ _ _ _ _ _ _ _ _ _ _ _ _ _ _ _ _ _ _ _ _ _ _ _ _ _ _ _ _ _ _ _ _ _ _ _ _ _ _ _ _ _ _ _ _ _ _ _ _ _ _ _ _ _ _ _ _ _ _ _ _ _ _ _ _ _ _ _ _ _ _ _ _ _ _ _ _ _ _ _ _ _ _ _ _ _ _ _ _ _ _ _ _ _ _ _ _ _ _ _ _ _ _ _ _ _ _ _ _ _ _ _ _ _ _ w18 hb18
 go_wp2_with fail
 refine (Zq64 _).mono ?_
 rintro e w19 ⟨rfl,hb19⟩
 have HB19:=Zh (hb18.trans (hb19.mono hb18.size))
 clear hb18 hb19
 go_wp2_with fail
 exact HQ.out _ _ _ _ _ _ _ _ _ _ _ _ _ _ _ _ _ _ _ _ _ _ _ _ _ _ _ _ _ _ _ _ _ _ _ _ _ _ _ _ _ _ _ _ _ _ _ _ _ _ _ _ _ _ _ _ _ _ _ _ _ _ _ _ _ _ _ _ _ _ _ _ _ _ _ _ _ _ _ _ _ _ _ _ _ _ _ _ _ _ _ _ _ _ _ _ _ _ _ _ _ _ _ _ _ _ _ _ _ _ _ _ _ _ _ _ _ _ _ _ _ _ _ _ _ _ _ _ _ _ _ _ _ _ _ _ _ _ _ _ _ _ _ _ _ _ _ _ _ _ _ _ _ _ _ _ _ _ _ _ _ _ _ _ _ _ _ _ _ _ _ _ _ _ _ _ _ _ _ _ _ _ _ _ _ _ _ _ _ _ _ _ _ _ _ _ _ _ _ _ _ _ _ _ _ _ _ _ _ _ _ _ HB19.out
theorem journalTwice_walk (a b c torn:Int) (v3 v4 v5:Value) (ls ms:List (List Int)) (ks:List Int) (W:World) (hr3:RowsI W.hp v3 ls) (hr4:RowsI W.hp v4 ms) (hr5:IntsI W.hp v5 ks) (hl5:ks.length≤maxLen) :
  Calls Tryz.prog 4 #[.int .i64 a,.int .i64 b,.int .i64 c,v3,v4,v5,.int .i64 torn] W fun e w'=>e=.returned (.bool true)∧Below W.heap.size W w':=by
 obtain ⟨A3,c3,rfl,hx1,hx2,hx3⟩:=hr3.slice
 clear hx1 hx2 hx3
 obtain ⟨A4,c4,rfl,hx1,hx2,hx3⟩:=hr4.slice
 clear hx1 hx2 hx3
 obtain ⟨A5,c5,rfl,hx⟩:=id hr5
 clear hx
 have HSH3:=Zh (Zq307 _ ls 30 100 W hr3)
 have HSH4:=Zh (Zq307 _ ms 30 100 W hr4)
 have HBY3:=Zh (show ∀ p ∈ ls,∀ y ∈ p,isByte y by obtain ⟨_,_,_,_,hq⟩:=hr3;exact fun p hp=>(hq p hp).1)
 have HBY4:=Zh (show ∀ p ∈ ms,∀ y ∈ p,isByte y by obtain ⟨_,_,_,_,hq⟩:=hr4;exact fun p hp=>(hq p hp).1)
 have HR3:=Zh hr3
 have HR4:=Zh hr4
 have HR5:=Zh hr5
 unfold maxLen at hl5
 have hl5':(ks.length:Int)≤9223372036854775807:=by omega
 clear hr3 hr4 hr5 hl5
 obtain ⟨s3,hs3⟩:∃ x,x=Zq317 ls 30 100:=⟨_,rfl⟩
 obtain ⟨s4,hs4⟩:∃ x,x=Zq317 ms 30 100:=⟨_,rfl⟩
 rw [←hs3] at HSH3
 rw [←hs4] at HSH4
 have HS3:=Zh hs3
 have HS4:=Zh hs4
 clear hs3 hs4
 go_enter Tryz.func4,Tryz.ntmps4
 go_wp2_with fail
 refine HSH3.out.mono ?_
 rintro e w1 ⟨rfl,rfl⟩
 clear HSH3
 cases s3 with
 | false =>
  go_wp2_with fail
  refine (Zq64 _).mono ?_
  rintro e w9 ⟨rfl,hb9⟩
  have HB9:=Zh hb9
  clear hb9
  go_wp2_with fail
  go_ret
  exact ⟨rfl,HB9.out⟩
 | true =>
 go_wp2_with fail
 refine HSH4.out.mono ?_
 rintro e w1 ⟨rfl,rfl⟩
 clear HSH4
 cases s4 with
 | false =>
  go_wp2_with fail
  refine (Zq64 _).mono ?_
  rintro e w9 ⟨rfl,hb9⟩
  have HB9:=Zh hb9
  clear hb9
  go_wp2_with fail
  go_ret
  exact ⟨rfl,HB9.out⟩
 | true =>
 by_cases hk20:20<ks.length
 ·have d1:decide ((20:Int)<(ks.length:Int))=true:=decide_eq_true (by omega)
  have d1n:decide (20<ks.length)=true:=decide_eq_true hk20
  go_wp2_with fail
  refine (Zq64 _).mono ?_
  rintro e w9 ⟨rfl,hb9⟩
  have HB9:=Zh hb9
  clear hb9
  go_wp2_with fail
  go_ret
  exact ⟨rfl,HB9.out⟩
 have d1:decide ((20:Int)<(ks.length:Int))=false:=decide_eq_false (by omega)
 have d1n:decide (20<ks.length)=false:=decide_eq_false hk20
 have hshort:∀ (L:List (List Int)),true=Zq317 L 30 100→L.length≤30:=fun L h=>by
  unfold Zq317 at h
  have:=(Bool.and_eq_true_iff.1 h.symm).2
  rw [decide_eq_true_eq] at this
  omega
 have hl3:=hshort ls HS3.out
 have hl4:=hshort ms HS4.out
 have HROW3:=Zh (Zq241 _ ls (St.init W) HR3.out (by omega))
 clear hshort
 go_wp2_with fail
 refine HROW3.out.mono ?_
 rintro e w2 ⟨I2,B3,k3,B4,k4,ps,ns,hs2,hps,hns,rfl,hr2,hi2,h2⟩
 have hpf:∀ p ∈ ps,(1≤p.length∧p.length≤90)∧∀ y ∈ p,isByte y:=by rw [hps];exact Zq242 HBY3.out
 have hpl:ps.length≤30:=by rw [hps,List.length_map];exact hl3
 have HROW4:=Zh (Zq241 _ ms h2 (HR4.out.mono hs2) (by omega))
 have HPF:=Zh hpf
 have HRP:=Zh hr2
 have HS2:=Zh hs2
 clear hps hns hr2 hi2 h2 hpf HROW3 HR3 hs2 hl3
 go_wp2_with fail
 refine HROW4.out.mono ?_
 rintro e w3 ⟨I3,D3,j3,D4,j4,qs,ns2,hs3,hps,hns,rfl,hr3,hi3,h3⟩
 have hqf:∀ p ∈ qs,(1≤p.length∧p.length≤90)∧∀ y ∈ p,isByte y:=by rw [hps];exact Zq242 HBY4.out
 have hql:qs.length≤30:=by rw [hps,List.length_map];exact hl4
 obtain ⟨C,hC⟩:∃ x,x=ringK a b c:=⟨_,rfl⟩
 have HCO:=Zh (show C.okB=true by rw [hC];exact Zq707 a b c)
 have hrk:=Zq556 a b c w3
 rw [←hC] at hrk
 unfold Rg.val at hrk
 have HRK:=Zh hrk
 have HQF:=Zh hqf
 have HRQ:=Zh hr3
 have HS3':=Zh hs3
 have H3:=Zh h3
 clear hps hns hr3 hi3 h3 hqf hrk hC HROW4 HR4 hs3 hl4
 go_wp2_with fail
 refine HRK.out.mono ?_
 rintro e w4 ⟨rfl,hb4⟩
 have h4:=H3.out.keep hb4
 have hr4:=HRP.out.mono HS3'.out
 obtain ⟨vs,hvl,hvr,hvb,_⟩:=id hr4
 have HG:=Zh (Zq560 (at':=0) HCO.out (by omega))
 have hfil:=Zq260 C 0 (.slice B3 ps.length k3) ps vs h4 hvr (fun i p hp=>by
  obtain ⟨x,hx⟩:∃ x,vs[i]?=some x:=⟨_,List.getElem?_eq_getElem (by have:=(List.getElem?_eq_some_iff.1 hp).1;omega)⟩
  exact ⟨x,hx,hvb i x p hx hp⟩) HPF.out (by omega) HG.out
 unfold Rg.val at hfil
 have HFIL:=Zh hfil
 have HRP4:=Zh hr4
 clear hb4 h4 hr4 hvl hvr hvb hfil H3 HRK
 go_wp2_with fail
 refine HFIL.out.mono ?_
 rintro e w5 ⟨I5,p,q,S,J,k,hs5,rfl,h5,hj5,ha5,hk5,S0,hj0,ha0,hf0⟩
 obtain ⟨hfd,hsafe,_,_⟩:=Zq709 HG.out hj0 ha0 HPF.out (by omega) hf0
 obtain ⟨S6,hbe,hfl,hj6,ha6,hw6,hl6⟩:=hj5.flush_calm ha5
 have hflu:=Zq234 h5 hk5 hj5.jb
 rw [hfl] at hflu
 have HFLU:=Zh hflu
 have hwet:=JWet.start hj6 hl6
 have HS5:=Zh hs5
 have HWET:=Zh (show JWet S6 (safeJ J) (k:Int) by
  have he:endJ (safeJ J)=(k:Int):=by rw [hfd.safed.end];omega
  rwa [he] at hwet)
 have HA6:=Zh ha6
 have HFD:=Zh hfd.safed
 have HK6:=Zh (show Keeps S6 90000 by have:=Zq76 hk5;rwa [hbe] at this)
 have hkle:k≤ps.length:=hfd.le
 clear hs5 h5 hj5 ha5 hk5 hj0 ha0 hf0 hfd hsafe hbe hfl hj6 ha6 hw6 hl6 hflu hwet HFIL
 go_wp2_with fail
 refine HFLU.out.mono ?_
 rintro e w6 ⟨I6,hs6,rfl,h6⟩
 obtain ⟨A22,c22,w7,hr7,h7⟩:=Zq863 h6 ((HRP4.out.mono HS5.out).mono hs6) hkle (by omega)
 have hkl:k=(ps.take k).length:=by rw [List.length_take];omega
 have HR7:=Zh hr7
 have H7:=Zh h7
 have HS6:=Zh (HS5.out.trans hs6)
 have hk3:ps.length≤k3:=by
  obtain ⟨_,_,e,hc,_⟩:=HRP4.out.slice
  simp only [Value.slice.injEq] at e
  obtain ⟨_,_,rfl⟩:=e
  exact hc
 have HKL:=Zh hkl
 clear h6 hs6 hr7 h7 HFLU hkl
 go_upto_region 9 with (at_builtin;refine Lib.wpList_append_run _ rfl (.tmp 78) (.tmp 81) 22 22 rfl _ _ rfl rfl _ _ HR7.out ?_)
 obtain ⟨L,hL⟩:∃ L,L=ps.take k:=⟨_,rfl⟩
 have hkl:=HKL.out
 rw [←hL] at H7 hkl
 clear HKL
 subst hkl
 have HLD:=Zh (show L=(safeJ J).l.map (·.data) by rw [HFD.out.l,Zq357];exact hL)
 have HFR:=Zh (show (safeJ J).r.first=1∧(safeJ J).r.set=0∧(safeJ J).l.length≤100 by
  have:=HFD.out.len
  have h9:=HFD.out.r
  rw [h9]
  exact ⟨rfl,rfl,by omega⟩)
 have HR5':=Zh (RowI.mono (HS2.out.trans (HS3'.out.trans HS6.out)) HR5.out:IntsI I6 _ ks)
 have HRQ':=Zh (HRQ.out.mono HS6.out)
 clear HRQ HR5 HFD hL HS6 HS5 HRP4 HR7 HRP HPF HS2 HS3' HBY3 HBY4 HG HCO
 refine Zq597 (m:=50000) (s:=(L.length:Int)) (r0:=(safeJ J).r) (by assumption) (by kernel_rfl) H7.out HRQ'.out HWET.out HA6.out (HK6.out.fewer (by omega)) HLD.out HFR.out.2.2 rfl HFR.out.2.1 hql HQF.out ?_
 intro y23 y24 y25 y83 y84 y85 y86 y87 y88 y89 y90 y91 y92 y93 y94 y95 y96 y97 y98 y99 y100 y101 y102 y103 y104 y105 y106 I8 w8 S8 J8 L8 A8 c8 hs8 h8 hw8 ha8 hk8 hL8 hl8 hr8
 have HR58:=Zh (RowI.mono hs8 HR5'.out:IntsI I8 _ ks)
 have H8:=Zh h8
 have HW8:=Zh hw8
 have HA8:=Zh ha8
 have HK8:=Zh hk8
 have HL8:=Zh hL8
 have HN8:=Zh hl8
 have HF8:=Zh (show J8.r.first=1 by rw [hr8];exact HFR.out.1)
 clear hs8 h8 hw8 ha8 hk8 hL8 hl8 hr8 H7 HWET HA6 HK6 HLD HFR HR5' HRQ' HQF
 go_upto_region 15 with fail
 refine Zq724 (m:=40000) (by assumption) (by kernel_rfl) H8.out HR58.out (by omega) HW8.out HA8.out (HK8.out.fewer (by omega)) HL8.out HN8.out HF8.out ?_
 intro _ _ _ _ _ _ _ _ _ _ _ _ _ _ _ _ _ _ _ _ _ _ _ _ _ _ _ _ _ _ _ _ _ _ _ _ _ _ _ _ _ _ _ _ _ _ _ _ _ _ _ _ _ _ _ _ _ _ _ _ _ _ _ _ _ _ _ _ _ _ _ _ _ _ _ _ _ _ _ _ _ _ _ _ _ _ _ _ _ _ _ _ _ _ _ _ _ _ _ _ _ _ _ _ _ _ _ _ _ _ _ _ _ _ _ _ _ _ _ _ _ _ _ _ _ _ _ _ _ _ _ _ _ _ _ _ _ _ _ _ _ _ _ _ _ _ _ _ _ _ _ _ _ _ _ _ _ _ _ _ _ _ _ _ _ _ _ _ _ _ _ _ _ _ _ _ _ _ _ _ _ _ _ _ _ _ _ _ _ _ _ _ _ _ _ _ _ _ _ _ _ _ _ _ _ _ _ _ _ _ _ w9 hb9
 have HB9:=Zh hb9
 clear hb9
 go_ret
 exact ⟨rfl,HB9.out⟩
end
end Go.Proofs.YtpjchngjhijgmaaGreat
