import Derived.Test.YtpjchngjhijgmaaGreatJP36
set_option linter.all false
set_option maxRecDepth 4000
set_option maxHeartbeats 8000000
open Go.RowKit
open Go.IntKind (i64 u64)
open Go.Value (int pointer slice)
open Go.Obj (cells)
namespace Go.Proofs.YtpjchngjhijgmaaGreat
open Tryz
open HP (pt mapOf)
variable {W w w':World} {I:Hp} {l:List HP}
theorem ZmP {α:Type} {p:α->Bool} {b:α} (hb:p b=false):∀ {xs:List α},(xs++[b]).takeWhile p=xs.takeWhile p
 | []=>by rw [Zu,Zcv,hb];rfl
 | x::xs=>by rw [ZG,Zcv,Zcv,ZmP hb]
theorem ZsE {e b:Int}:∀ {xs:List Int},xs≠[]->¬ b<=e->popS e (xs++[b])=popS e xs
 | [],h,_=>absurd rfl h
 | a::xs,_,hb=>by
  show a::(xs++[b]).takeWhile _=a::xs.takeWhile _;rw [ZmP (p:=fun x=>decide (x<=e)) (Zq hb)]
theorem Ztj {e:Int} {xs:List Int} (h:∀ x ∈ xs.drop 1,x<=e):popS e xs=xs:=by
 cases xs with
 | nil=>rfl
 | cons a l =>
  show a::l.takeWhile _=a::l;rw [ZiF (l:=l) fun x hx=>Zt (h x hx)]
theorem ZiC {α:Type} {p:α->Bool}:∀ {l:List α} {i:Nat},(∀ y ∈ l.take i,p y=true)->(∀ x,l[i]?=some x->p x=false)->l.takeWhile p=l.take i
 | [],i,_,_=>by simp
 | a::l,0,_,h=>by rw [Zcv,h a rfl];rfl
 | a::l,i+1,h1,h2=>by
  rw [Zdl,Zcv,Zb (h1 a (by simp)),ZiC (l:=l) (i:=i) (fun y hy=>h1 y (by simp [hy])) fun x hx=>h2 x (by simpa using hx)]
def rEnd (R:RJ) (e:Int) (L:List En):RJ:={ R with l:=L,en:=e,sets:=popS e R.sets,fill:=Zbt R.c ((popS e R.sets).getLastD 0) L Fl.zero }
section
variable {q : Nat} {R : RJ}
theorem ZlU {ca cb:Code} {Q:Exit->Act->World->Prop} {K:Act->World->Prop} (hK:∀ x y,cb.wp prog Q x y->K x y) (hC:(f116).body.bind (fromR 8)=some (.seq ca cb)) {x2 x3 x4 x6 x7 x8 x9 x10 x11 x12 x13 x14 x15 x16 x17 x18 x19 x20 x21 x22 x23 x24 x25 x26 x27 x28 x29 x30 x31 x32 x33 x34 x35 x36 x37 x38 x39 x40 x41 x42 x43 x44 x45 x46 x47 x48 x49 x50 x51 x52 x53 x54 x55 x56 x57 x58 x59 x60 x61 x62 x63 x64 x65 x66 x67 x68 x69 x70 x71 x72 x73 x74 x75 x76 x77 x78 x79 x80 x81 x82 x83 x84 x85 x86 x87 x88 x89 x90 x91 x92 x93 x94 x95 x96 x97 x98 x99 x100 x101 x102 x103 x104 x105 x106 x107 x108 x109 x110 x111 x112 x113 x114 x115 x116 x117 x118 x119 x120 x121 x122 x123 x124 x125 x126 x127 x128 x129 x130 x131 x132 x133 x134 x135 x136 x137 x138 x139 x140 x141 x142 x143 x144 x145 x146 x147 x148 x149 x150 x151 x152 x153 x154 x155 x156 x157:Value} {V:RV} {v5:Value} {L:List En} {e:Int}
  (h:St W I w (rjBlk q R V::Zo v5 L::l)) (hr:rjI R V I) (hne:R.sets≠[]) (hb:∀ x ∈ R.sets,0<=x∧x<=4611686018427387904) (hp:R.sets.Pairwise (· <= ·)) (hs:R.sets.length<=1000000) (hl:L.length<=1000000) (he:∀ e ∈ L,e.okB=true) (hc:R.c.okB=true) (ht:R.chain.length<=1000) (hcl:R.cls.length<=1000)
  (hQ:∀ (y0 y1 y2 y3 y5 y6 y7 y8 y9 y10 y11 y12 y13 y14 y15 y16 y17 y18 y19 y20 y21 y22 y23 y24 y25 y26 y27 y28 y29 y30 y31 y32 y33 y34 y35 y36 y37 y38 y39 y40 y41 y42 y43 y44 y45 y46 y47 y48 y49 y50 y51 y52 y53 y54 y55 y56 y57 y58 y59 y60 y61 y62 y63 y64 y65 y66 y67 y68 y69 y70 y71 y72 y73 y74 y75 y76 y77 y78 y79 y80 y81 y82 y83 y84 y85 y86 y87 y88 y89 y90 y91 y92 y93 y94 y95 y96 y97 y98 y99 y100 y101 y102 y103 y104 y105 y106 y107 y108 y109 y110 y111 y112 y113 y114 y115 y116 y117 y118 y119 y120 y121 y122 y123 y124 y125 y126 y127 y128 y129 y130 y131 y132 y133 y134 y135 y136 y137 y138 y139 y140 y141 y142 y143 y144 y145 y146 y147 y148 y149 y150 y151 y152 y153 y154 y155 y156 y157:Value) (I':Hp) (w':World),I.sub I'->St W I' w' (rjHP q (rTidy (rEnd R e L))::l)->Q .ret ⟨#[y0,y1,y2,y3,int i64 0,y5,y6,y7,y8,y9,y10,y11,y12,y13,y14,y15,y16,y17,y18,y19,y20,y21,y22,y23,y24,y25,y26,y27,y28,y29,y30,y31,y32,y33,y34,y35,y36,y37,y38,y39,y40,y41,y42,y43,y44,y45,y46,y47,y48,y49,y50,y51,y52,y53,y54,y55,y56,y57,y58,y59,y60,y61,y62,y63,y64,y65,y66,y67,y68,y69,y70,y71,y72,y73,y74,y75,y76,y77,y78,y79,y80,y81,y82,y83,y84,y85,y86,y87,y88,y89,y90,y91,y92,y93,y94,y95,y96,y97,y98,y99,y100,y101,y102,y103,y104,y105,y106,y107,y108,y109,y110,y111,y112,y113,y114,y115,y116,y117,y118,y119,y120,y121,y122,y123,y124,y125,y126,y127,y128,y129,y130,y131,y132,y133,y134,y135,y136,y137,y138,y139,y140,y141,y142,y143,y144,y145,y146,y147,y148,y149,y150,y151,y152,y153,y154,y155,y156,y157],[]⟩ w') :
  ca.wp prog (Exit.then K Q) ⟨#[pointer (some ⟨q,0,none⟩),int i64 e,x2,x3,x4,v5,x6,x7,x8,x9,x10,x11,x12,x13,x14,x15,x16,x17,x18,x19,x20,x21,x22,x23,x24,x25,x26,x27,x28,x29,x30,x31,x32,x33,x34,x35,x36,x37,x38,x39,x40,x41,x42,x43,x44,x45,x46,x47,x48,x49,x50,x51,x52,x53,x54,x55,x56,x57,x58,x59,x60,x61,x62,x63,x64,x65,x66,x67,x68,x69,x70,x71,x72,x73,x74,x75,x76,x77,x78,x79,x80,x81,x82,x83,x84,x85,x86,x87,x88,x89,x90,x91,x92,x93,x94,x95,x96,x97,x98,x99,x100,x101,x102,x103,x104,x105,x106,x107,x108,x109,x110,x111,x112,x113,x114,x115,x116,x117,x118,x119,x120,x121,x122,x123,x124,x125,x126,x127,x128,x129,x130,x131,x132,x133,x134,x135,x136,x137,x138,x139,x140,x141,x142,x143,x144,x145,x146,x147,x148,x149,x150,x151,x152,x153,x154,x155,x156,x157],[]⟩ w:=by
 injection hC with hC;injection hC with hC1 hC2;subst hC1 hC2;obtain ⟨vs,vl,vt,vc⟩:=V;obtain ⟨As0,cs0,e3,_⟩:=id hr.1;obtain ⟨A5,k5,e5,_⟩:=(h.pull 1 _ rfl).ents_slice;simp only at e3 e5;subst e3 e5;obtain ⟨_,_,_,_,x9,x10,_,_,_,lt⟩:=Zad h;have fr:=frozen_of_row h.heap;obtain ⟨nl,hnl⟩:=Zn L.length;rw [<-hnl] at hl h |-;have h1:St W I ((w.setCell ⟨q,9,none⟩ (slice A5 nl k5)).setCell ⟨q,10,none⟩ (int i64 e)) (rjBlk q { R with l:=L,en:=e } ⟨slice As0 R.sets.length cs0,slice A5 nl k5,vt,vc⟩::Zo (slice A5 nl k5) L::l):=(h.setCell 9 (slice A5 nl k5)).setCell 10 (int i64 e);obtain ⟨R1,hR1⟩:=Zn ({ R with l:=L,en:=e });rw [<-hR1] at h1;have HR1:=Zh hR1;have hr1:rjI R1 ⟨slice As0 R.sets.length cs0,slice A5 nl k5,vt,vc⟩ I:=by rw [hR1];exact hr
 have HNL:=Zh hnl;have HR:=Zh hr1;have H1:=Zh h1;have HQ:=Zh hQ;have HE:=Zh he;have HC:=Zh hc;have HB:=Zh hb;have HPW:=Zh hp;have HT:=Zh ht;have HCL:=Zh hcl;have hpos:0<R.sets.length:=ZgN.2 hne;have hsets1:R1.sets=R.sets:=by rw [hR1]
 have HL1:=Zh (show R1.l=L by rw [hR1]);have HS1:=Zh (show { R1 with sets:=R.sets }=R1 by rw [hR1]);have HS:=Zh hs;clear h h1 hr hr1 hQ hnl he hc hb hp ht hcl hR1 hsets1;go_wp2_with fail;clear x9 x10 fr lt;go_loopw [] (fun wr=>∃ (m cs:Nat) (As:Option Addr) (I':Hp),0<m∧m<=R.sets.length∧I.sub I'∧popS e R.sets=popS e (R.sets.take m)∧rjI { R1 with sets:=R.sets.take m } ⟨slice As m cs,slice A5 nl k5,vt,vc⟩ I'∧St W I' wr (rjBlk q { R1 with sets:=R.sets.take m } ⟨slice As m cs,slice A5 nl k5,vt,vc⟩::Zo (slice A5 nl k5) L::l)) (fun wr=>lenOf (wr.cell? ⟨q,3,none⟩));case atStart=>exact ⟨R.sets.length,cs0,As0,I,hpos,ZC _,Hp.sub.refl _,by rw [ZbJ],by rw [ZbJ,HS1.o];exact HR.o,by rw [ZbJ,HS1.o];exact H1.o⟩
 case round =>
  obtain ⟨m,cs,As,I2,hm0,hmn,hs2,htr,hr2,hst⟩:=hrel;clear H1 HR;have hml:m<=1000000:=by have:=HS.o;omega
  obtain ⟨m1,hm1⟩:∃ x,m=x+1:=⟨m - 1,by omega⟩;have hm1l:m1<R.sets.length:=by omega
  have hI:IntsI I2 (slice As (R.sets.take m).length cs) (R.sets.take m):=by
   have:=hr2.1;simp only at this;rw [ZJ,ZcJ hmn] at this |-;unfold IntsI;rw [ZJ,ZcJ hmn];exact this
  have hgt:(R.sets.take m)[m1]?=some R.sets[m1]:=by rw [ZcG,Zb (by omega),Zy hm1l]
  obtain ⟨b,hbq⟩:=Zn (R.sets[m1]);rw [<-hbq] at hgt;obtain ⟨g,off,rfl,hxc⟩:=hI.cells hgt;have HXC:=Zh (fun (w':World) (L':List HP) (h':St W I2 w' L')=>hxc (Hp.sub.refl _) h')
  have HSN:=Zh (show R.sets.take m=R.sets.take m1++[b] by
   rw [hm1,Zc8 hm1l,hbq])
  obtain ⟨_,_,_,x3,_,_,_,_,_,lt⟩:=Zad hst;simp only at x3;have y1:=HXC.o _ _ hst;have wm1:IntKind.i64.wrap ((m:Int) - 1)=(m1:Int):=by rw [Zx];omega
  have hm1m:m1<m:=by omega
  have HR2:=Zh hr2;have HTR:=Zh htr;have HS2:=Zh hs2;have HST:=Zh hst;have HM1:=Zh hm1;have HBQ:=Zh hbq;have HX3:=Zh x3;clear hI hgt hxc hr2 htr hs2 hst hm1 hbq;by_cases hcont:1<m∧e<b
  ·obtain ⟨hm2,hp2⟩:=hcont;have d1:decide (1<(m:Int))=true:=Zt (by omega);have d2:decide (e<b)=true:=Zt hp2;go_upto_region 9 with fail;go_quiet (fail);clear x3 y1 lt;go_upto_region 10 with fail;have H3:=Zh (HST.o.drewN nq);have H4:=Zh H3.o.drew;clear HST;have hcm:m<=cs:=by
    obtain ⟨A',c',e',_,a3,_⟩:=HR2.o.1;simp only [Zz] at e' a3;obtain ⟨_,e2,e3⟩:=e';omega
   have hcm1:m1<=cs:=by omega
   have hm10:0<m1:=by have:=HM1.o;omega
   have hm1z:¬ m1=0:=by omega
   refine Zca (fun w'=>w'.cell? ⟨q,3,none⟩=some (slice (some ⟨g,off,none⟩) m cs)) [(0,true),(2,false),(3,false),(4,false),(5,false),(6,false),(7,false),(8,false),(9,false),(10,false),(11,false),(12,false)] [1] [13,14,15,16] (by kernel_rfl) (by kernel_rfl) (by (intro w' hb;exact (Zad (H4.o.keep hb)).2.2.2.1)) ?_;repeat (first|refine ZaH (by rfl) _ (by rfl) (by intro w;go_simp;try with_reducible rfl) ?_|refine ZaK (by rfl) _ (by rfl) (by (intro w hSw;(try dsimp only at hSw);go_simp;try with_reducible rfl)) ?_|refine ZaI (by rfl) (by rfl) ?_|fail);(try go_frame)
   refine Zce ?_;refine Ztr (by rfl) (fun g=>slice (some ⟨g,0,none⟩) 0 0) (cells #[] 159) (by rfl) (by intro w;go_simp;try with_reducible rfl) ?_;intro g6;rintro w9 hz9;obtain ⟨hb9,l9,o9⟩:=hz9.one;have h9:St W I2 w9 (HP.row 159 1 (slice (some ⟨g6,0,none⟩) 0 0) 0 []::_):=(H4.o.fresh hb9 l9 o9).row_shut (by simp) (ZC _) (by unfold maxLen;omega) (by simp) (by simp)
   have hsu:=(show RowI I2 1 (slice (some ⟨g,off,none⟩) m cs) m ((R.sets.take m).map intV) by
    have:=HR2.o.1;simp only at this;rw [ZJ,ZcJ hmn] at this
    exact this).pre (k:=m1) (by omega)
   rw [Zcj,<-Zd8,Zc9,ZcJ (by omega)] at hsu;obtain ⟨v6,w6,hr6,h6⟩:=St.sets_append 160 h9 (hsu.src h9.imm (fun u hu=>by obtain ⟨x,_,rfl⟩:=Zam.1 hu;rfl) (by omega)) (by omega);rw [ZX,Zu] at h6;obtain ⟨A6,c6,rfl⟩:=ZA h6.row_owns;obtain ⟨I7,s7,hr7,h7⟩:=h6.freeze_row;obtain ⟨_,_,_,x3',_,_,_,_,_,lt'⟩:=Zad h7;simp only at x3';have fr':=frozen_of_row h7.heap;have HR6:=Zh hr6;have HR7:=Zh hr7;have H7:=Zh h7;have S7:=Zh (HS2.o.trans s7);have HRM:=Zh (HR2.o.mono s7);clear hz9 hb9 l9 o9 h9 hsu h6 h7 hr6 hr7 s7 H3 H4;simp only [pickL,Zg,Zi];go_wp2_with (at_builtin;refine ZZ _ rfl (.tmp 86) (.tmp 97) 160 160 rfl _ _ rfl rfl _ _ HR6.o ?_);refine Zw ?_;have h8:St W I7 (w6.setCell ⟨q,3,none⟩ (slice A6 m1 c6)) (rjBlk q { R1 with sets:=R.sets.take m1 } ⟨slice A6 m1 c6,slice A5 nl k5,vt,vc⟩::Zo (slice A5 nl k5) L::l):=H7.o.setCell 3 (slice A6 m1 c6)
   have HR8:=Zh (show rjI { R1 with sets:=R.sets.take m1 } ⟨slice A6 m1 c6,slice A5 nl k5,vt,vc⟩ I7 from ⟨by
    show RowI I7 1 (slice A6 m1 c6) (R.sets.take m1).length ((R.sets.take m1).map intV);rw [ZJ,ZcJ (by omega)]
    exact HR7.o,HRM.o.2⟩)
   have HTR2:=Zh (show popS e R.sets=popS e (R.sets.take m1) by
    rw [HTR.o,HSN.o]
    exact ZsE (fun q=>by have:=congrArg List.length q;rw [ZJ,ZaZ] at this;omega) (by omega))
   have H8:=Zh h8;clear h8;go_roundw;case rel=>exact ⟨_,_,_,_,_,_,_,_,_,_,_,_,_,_,_,_,_,_,_,_,_,_,_,_,_,_,_,_,_,_,_,_,_,_,_,_,_,_,_,⟨m1,c6,A6,I7,hm10,by omega,S7.o,HTR2.o,HR8.o,H8.o⟩,rfl⟩
   case measure =>
    have h9:=(Zad H8.o).2.2.2.1;simp only at h9;rw [h9,HX3.o];show m1<m;omega
  ·have HTS:=Zh (show popS e R.sets=R.sets.take m by
    rw [HTR.o];refine Ztj fun x hx=>?_;by_cases hm2:1<m
    ·have hbe:b<=e:=by have:¬ e<b:=fun q=>hcont ⟨hm2,q⟩;omega
     have hpt:(R.sets.take m).Pairwise (· <= ·):=HPW.o.sublist (List.take_sublist _ _);rw [HSN.o] at hx hpt;have hx2:=Zda hx;rcases Za6.1 hx2 with q|q
     ·have:=(List.pairwise_append.1 hpt).2.2 x q b (by simp);omega
     ·rw [Zbj.1 q];exact hbe
    ·rw [ZbS (by rw [ZJ];omega)] at hx
     cases hx)
   have HL:=Zh (show (R.sets.take m)[(R.sets.take m).length - 1]?=some b by
    rw [HSN.o,Zs,ZcT,ZiV];rw [ZfE (ZC _),Zdn]
    rfl)
   have HLD:=Zh (show (popS e R.sets).getLastD 0=b by
    rw [HTS.o,HSN.o,List.getLastD_eq_getLast?,List.getLast?_append]
    rfl)
   have HFIN:=Zh (show { ({ R1 with sets:=R.sets.take m }:RJ) with fill:=Zbt R1.c b R1.l Fl.zero }=rEnd R e L by
    unfold rEnd
    rw [HLD.o,HTS.o,HR1.o])
   have HEX:=Zh (show ∀ w':World,St W I2 w' (rjBlk q { R1 with sets:=R.sets.take m } ⟨slice (some ⟨g,off,none⟩) m cs,slice A5 nl k5,vt,vc⟩::Zo (slice A5 nl k5) L::l)->St W I2 w' (rjBlk q { R1 with sets:=R.sets.take m } ⟨slice (some ⟨g,off,none⟩) m cs,slice A5 nl k5,vt,vc⟩::Zo (slice A5 nl k5) R1.l::l) from fun w' h'=>by rw [HL1.o];exact h');have H5:=Zh (show (∀ e ∈ R1.l,e.okB=true)∧R1.c.okB=true∧R1.chain.length<=1000∧R1.cls.length<=1000∧R1.l.length<=1000000 from by rw [HR1.o];exact ⟨HE.o,HC.o,HT.o,HCL.o,by show L.length<=_;rw [<-HNL.o];exact hl⟩);have HSL:=Zh (show (R.sets.take m).length<=1000000 from by rw [ZJ];omega);by_cases hm2:1<m
   case' pos =>
    have d1:decide (1<(m:Int))=true:=Zt (by omega);have d2:decide (e<b)=false:=Zq fun q=>hcont ⟨hm2,q⟩;go_upto_region 9 with fail;go_quiet (fail)
   case' neg =>
    have d1:decide (1<(m:Int))=false:=Zq (by omega);go_upto_region 9 with fail;go_quiet (fail)
   all_goals
    have H9:=Zh (HEX.o _ (HST.o.drewN nq));clear x3 y1 lt HST HEX;go_upto_region 11 with fail;refine ZrM (R:={ R1 with sets:=R.sets.take m }) (V:=⟨slice (some ⟨g,off,none⟩) m cs,slice A5 nl k5,vt,vc⟩) (b:=b) (by assumption) (by kernel_rfl) H9.o HR2.o HL.o HSL.o H5.o.2.2.2.2 H5.o.1 H5.o.2.1 H5.o.2.2.1 H5.o.2.2.2.1 ?_;intro y0 y1 y2 y3 y5 y6 y7 y8 y9 y10 y11 y12 y13 y14 y15 y16 y17 y18 y19 y20 y21 y22 y23 y24 y25 y26 y27 y28 y29 y30 y31 y32 y33 y34 y35 y36 y37 y38 y39 y40 y41 y42 y43 y44 y45 y46 y47 y48 y49 y50 y51 y52 y53 y54 y55 y56 y57 y58 y59 y60 y61 y62 y63 y64 y65 y66 y67 y68 y69 y70 y71 y72 y73 y74 y75 y76 y77 y78 y79 y80 y81 y82 y83 y84 y85 y86 y87 y88 y89 y90 y91 y92 y93 y94 y95 y96 y97 y98 y99 y100 y101 y102 y103 y104 y105 y106 y107 y108 y109 y110 y111 y112 y113 y114 y115 y116 y117 y118 y119 y120 y121 y122 y123 y124 y125 y126 y127 y128 y129 y130 y131 y132 y133 y134 y135 y136 y137 y138 y139 y140 y141 y142 y143 y144 y145 y146 y147 y148 y149 y150 y151 y152 y153 y154 y155 y156 y157 I9 w9 s9 h9;refine HQ.o y0 y1 y2 y3 y5 y6 y7 y8 y9 y10 y11 y12 y13 y14 y15 y16 y17 y18 y19 y20 y21 y22 y23 y24 y25 y26 y27 y28 y29 y30 y31 y32 y33 y34 y35 y36 y37 y38 y39 y40 y41 y42 y43 y44 y45 y46 y47 y48 y49 y50 y51 y52 y53 y54 y55 y56 y57 y58 y59 y60 y61 y62 y63 y64 y65 y66 y67 y68 y69 y70 y71 y72 y73 y74 y75 y76 y77 y78 y79 y80 y81 y82 y83 y84 y85 y86 y87 y88 y89 y90 y91 y92 y93 y94 y95 y96 y97 y98 y99 y100 y101 y102 y103 y104 y105 y106 y107 y108 y109 y110 y111 y112 y113 y114 y115 y116 y117 y118 y119 y120 y121 y122 y123 y124 y125 y126 y127 y128 y129 y130 y131 y132 y133 y134 y135 y136 y137 y138 y139 y140 y141 y142 y143 y144 y145 y146 y147 y148 y149 y150 y151 y152 y153 y154 y155 y156 y157 I9 w9 (HS2.o.trans s9) ?_;rw [<-HFIN.o];exact h9
theorem ZrN (e:Int) {a:Int} (h:St W I w (rjHP q R::l)) (ha:R.sets[0]?=some a) (hb:∀ x ∈ R.sets,0<=x∧x<=4611686018427387904) (hp:R.sets.Pairwise (· <= ·)) (hs:R.sets.length<=1000000) (hl:R.l.length<=1000000) (he:∀ e ∈ R.l,e.okB=true) (hc:R.c.okB=true) (ht:R.chain.length<=1000) (hcl:R.cls.length<=1000) :
  Calls prog 116 #[pointer (some ⟨q,0,none⟩),int i64 e] w fun r w'=>∃ I',I.sub I'∧r=.returned (int i64 (rCut R e).1)∧St W I' w' (rjHP q (rCut R e).2::l):=by
 obtain ⟨⟨why,RR⟩,hRR⟩:∃ x,x=rCut R e:=⟨_,rfl⟩;rw [<-hRR];have hfi:ZdX R=a:=by
  unfold ZdX;cases hs:R.sets with
  | nil=>rw [hs] at ha;cases ha
  | cons x xs=>rw [hs] at ha;simpa using ha
 unfold rCut at hRR;rw [hfi] at hRR;have hab:=hb a (ZaG ha);obtain ⟨V,hr,h1⟩:=h.rj_open;obtain ⟨vs,vl,vt,vc⟩:=V;obtain ⟨Al,kl,e4,_⟩:=(h1.pull 1 _ rfl).ents_slice;simp only at e4;subst e4;obtain ⟨nl,hnl⟩:=Zn R.l.length;obtain ⟨en,hen⟩:=Zn R.en;rw [<-hnl] at hl hr h1;rw [<-hen] at hRR;simp only;obtain ⟨_,_,_,_,_,x10,_,_,_,lt⟩:=Zad h1;rw [<-hen] at x10;have hne:R.sets≠[]:=fun q=>by rw [q] at ha;cases ha
 have HA:=Zh (show ∀ L:List En,(∀ x ∈ L,x ∈ R.l)->(∀ x ∈ L,x.okB=true) from fun L h x hx=>he x (h x hx));have HZ:=Zh (show R.sets≠[]∧(∀ x ∈ R.sets,0<=x∧x<=4611686018427387904)∧R.sets.Pairwise (· <= ·)∧R.sets.length<=1000000∧R.c.okB=true∧R.chain.length<=1000∧R.cls.length<=1000 from ⟨hne,hb,hp,hs,hc,ht,hcl⟩);have HNL:=Zh hnl;have HEN:=Zh hen;have HRR:=Zh hRR;have HR:=Zh hr;have H1:=Zh h1;have HFI:=Zh (Zf3 h1 hr ha);have wa:IntKind.i64.wrap (a - 1)=a - 1:=by rw [Zx];omega
 clear h h1 hr hRR hnl hen ha hfi hb hp hs he hc ht hcl hne hab;go_enter func116,ntmps116;go_wp2_with fail;refine HFI.o.mono ?_;rintro r w2 ⟨rfl,rfl⟩;dsimp only;clear HFI;by_cases b1:e<a - 1
 ·have d1:decide (e<a - 1)=true:=Zt b1;have HX:=Zh (HRR.o.trans (Zb (.inl b1)));simp only [Zv] at HX;go_wp2;go_ret;obtain ⟨rfl,rfl⟩:=HX.o;exact ⟨I,Hp.sub.refl _,rfl,St.rj_shut HR.o H1.o⟩
 have d1:decide (e<a - 1)=false:=Zq b1;by_cases b2:en<e
 ·have d2:decide (en<e)=true:=Zt b2;have HX:=Zh (HRR.o.trans (Zb (.inr b2)));simp only [Zv] at HX;go_wp2;go_ret;obtain ⟨rfl,rfl⟩:=HX.o;exact ⟨I,Hp.sub.refl _,rfl,St.rj_shut HR.o H1.o⟩
 have d2:decide (en<e)=false:=Zq b2;have HX:=Zh (HRR.o.trans (Za (by rintro (q|q) <;> omega)));simp only [Zv] at HX;clear HRR b1 b2;go_wp2_with fail;clear d1 d2 x10 lt;go_loopw [5,6] (fun a5 a6 wr=>∃ (i c5:Nat) (A5:Option Addr),a6=int i64 i∧a5=slice A5 i c5∧i<=nl∧(∀ x ∈ R.l.take i,x.seq<=e)∧St W I wr (Zo (slice A5 i c5) (R.l.take i)::rjBlk q R ⟨vs,slice Al nl kl,vt,vc⟩::Zo (slice Al nl kl) R.l::l)) (fun _ a6 _=>nl - (intOf a6).toNat);case atStart=>exact ⟨0,0,none,rfl,rfl,ZL _,by simp,H1.o.ents_nil⟩
 case round =>
  obtain ⟨i,c5,A5,rfl,rfl,hi,hall,hst⟩:=hrel;clear H1;by_cases hlt:i<nl
  ·have d0:decide ((i:Int)<(nl:Int))=true:=Zt (by omega);obtain ⟨x,hx⟩:∃ x,R.l[i]?=some x:=⟨_,Zy (by rw [<-HNL.o];exact hlt)⟩;have hnx:R.l.take (i+1)=R.l.take i++[x]:=by
    obtain ⟨hil,hee⟩:=ZH.1 hx;rw [Zc8 hil,hee]
   obtain ⟨gl,qq,c2,vd,e1,hgl,hB,hBB,y0,y1,y2⟩:=(hst.pull 2 _ rfl).ents_cell hx;simp only [Zz] at e1;obtain ⟨rfl,hz1,rfl⟩:=e1;clear hz1;obtain ⟨_,_,_,_,x9,_,_,_,_,lt⟩:=Zad (hst.pull 1 _ rfl);simp only at x9;have hin:(i:Int)<(nl:Int):=by omega
   by_cases b6:x.seq<=e
   ·have d6:decide (x.seq<=e)=true:=Zt b6;have hlen:(R.l.take i).length=i:=by rw [ZJ,<-HNL.o];omega
    obtain ⟨A7,c7,w7,hr7,h7⟩:=hst.ents_append (e:=x) (g:=wr.heap.size) rfl hB hBB (by omega);rw [<-hnx,hlen] at h7;rw [hlen] at hr7
    have HAL:=Zh (show ∀ y ∈ R.l.take (i+1),y.seq<=e by
     rw [hnx];intro y hy;rcases Za6.1 hy with q|q
     ·exact hall y q
     ·rw [Zbj.1 q];exact b6)
    have HR7:=Zh hr7;have H7:=Zh h7;obtain ⟨Ad,cd,rfl⟩:=hB.isSl;obtain ⟨etg,esq,ed⟩:=x;simp only at y0 y1 y2 d6 HR7;clear hst hnx h7 hr7 hx hB hBB hall hlen b6;go_wp2_with (at_builtin;refine ZZ _ rfl (.tmp 44) (.tmp 52) 58 58 rfl _ _ rfl rfl _ _ HR7.o ?_);go_roundw;case rel=>exact ⟨i+1,c7,A7,by go_num,rfl,by omega,HAL.o,H7.o⟩
    case measure=>simp [intOf]<;>omega
   ·have d6:decide (x.seq<=e)=false:=Zq b6;have HF:=Zh (show R.l.takeWhile (fun y=>decide (y.seq<=e))=R.l.take i from ZiC (fun y hy=>Zt (hall y hy)) fun y hy=>by rw [hx] at hy;cases hy;exact d6);obtain ⟨etg,esq,ed⟩:=x;simp only at y0 y1 y2 d6;clear hB hBB b6 hx hnx;have HG:=Zh (show Zep R e=rEnd R e (R.l.take i) by unfold Zep rEnd;rw [HF.o]);have H8:=Zh (((hst.pull 1 _ rfl).pull 2 _ rfl).drop);have HT:=Zh (HA.o (R.l.take i) fun x hx=>ZbI hx);have HL:=Zh (show (R.l.take i).length<=1000000 by rw [ZJ];omega);have HI:=Zh (show (R.l.take i).length=i by rw [ZJ,<-HNL.o];omega);clear hst hall;go_upto_region 8 with fail;refine ZlU (L:=R.l.take i) (by assumption) (by kernel_rfl) H8.o HR.o HZ.o.1 HZ.o.2.1 HZ.o.2.2.1 HZ.o.2.2.2.1 HL.o HT.o HZ.o.2.2.2.2.1 HZ.o.2.2.2.2.2.1 HZ.o.2.2.2.2.2.2 ?_;intro y0 y1 y2 y3 y5 y6 y7 y8 y9 y10 y11 y12 y13 y14 y15 y16 y17 y18 y19 y20 y21 y22 y23 y24 y25 y26 y27 y28 y29 y30 y31 y32 y33 y34 y35 y36 y37 y38 y39 y40 y41 y42 y43 y44 y45 y46 y47 y48 y49 y50 y51 y52 y53 y54 y55 y56 y57 y58 y59 y60 y61 y62 y63 y64 y65 y66 y67 y68 y69 y70 y71 y72 y73 y74 y75 y76 y77 y78 y79 y80 y81 y82 y83 y84 y85 y86 y87 y88 y89 y90 y91 y92 y93 y94 y95 y96 y97 y98 y99 y100 y101 y102 y103 y104 y105 y106 y107 y108 y109 y110 y111 y112 y113 y114 y115 y116 y117 y118 y119 y120 y121 y122 y123 y124 y125 y126 y127 y128 y129 y130 y131 y132 y133 y134 y135 y136 y137 y138 y139 y140 y141 y142 y143 y144 y145 y146 y147 y148 y149 y150 y151 y152 y153 y154 y155 y156 y157 I9 w9 s9 h9;go_ret;obtain ⟨rfl,rfl⟩:=HX.o;rw [<-HG.o] at h9;exact ⟨I9,s9,rfl,h9⟩
  ·obtain rfl:i=nl:=by omega
   have d0:decide ((i:Int)<(i:Int))=false:=Zq (by omega);obtain ⟨_,_,_,_,x9,_,_,_,_,lt⟩:=Zad (hst.pull 1 _ rfl);simp only at x9;have HF:=Zh (show R.l.takeWhile (fun y=>decide (y.seq<=e))=R.l.take i from ZiC (fun y hy=>Zt (hall y hy)) fun y hy=>by rw [ZeX (by rw [HNL.o];exact ZC _)] at hy;cases hy);have HG:=Zh (show Zep R e=rEnd R e (R.l.take i) by unfold Zep rEnd;rw [HF.o]);have H8:=Zh (((hst.pull 1 _ rfl).pull 2 _ rfl).drop);have HT:=Zh (HA.o (R.l.take i) fun x hx=>ZbI hx);have HL:=Zh (show (R.l.take i).length<=1000000 by rw [ZJ];omega);have HI:=Zh (show (R.l.take i).length=i by rw [ZJ,<-HNL.o];omega);clear hst hall;go_upto_region 8 with fail;refine ZlU (L:=R.l.take i) (by assumption) (by kernel_rfl) H8.o HR.o HZ.o.1 HZ.o.2.1 HZ.o.2.2.1 HZ.o.2.2.2.1 HL.o HT.o HZ.o.2.2.2.2.1 HZ.o.2.2.2.2.2.1 HZ.o.2.2.2.2.2.2 ?_;intro y0 y1 y2 y3 y5 y6 y7 y8 y9 y10 y11 y12 y13 y14 y15 y16 y17 y18 y19 y20 y21 y22 y23 y24 y25 y26 y27 y28 y29 y30 y31 y32 y33 y34 y35 y36 y37 y38 y39 y40 y41 y42 y43 y44 y45 y46 y47 y48 y49 y50 y51 y52 y53 y54 y55 y56 y57 y58 y59 y60 y61 y62 y63 y64 y65 y66 y67 y68 y69 y70 y71 y72 y73 y74 y75 y76 y77 y78 y79 y80 y81 y82 y83 y84 y85 y86 y87 y88 y89 y90 y91 y92 y93 y94 y95 y96 y97 y98 y99 y100 y101 y102 y103 y104 y105 y106 y107 y108 y109 y110 y111 y112 y113 y114 y115 y116 y117 y118 y119 y120 y121 y122 y123 y124 y125 y126 y127 y128 y129 y130 y131 y132 y133 y134 y135 y136 y137 y138 y139 y140 y141 y142 y143 y144 y145 y146 y147 y148 y149 y150 y151 y152 y153 y154 y155 y156 y157 I9 w9 s9 h9;go_ret;obtain ⟨rfl,rfl⟩:=HX.o;rw [<-HG.o] at h9;exact ⟨I9,s9,rfl,h9⟩
end
section
variable {q : Nat} {R : RJ}
theorem Zk6 (At:Option Addr) (ct:Nat) (ts:List Tag) (h:St W I w (rjHP q R::l)) (ht:RowI I 4 (slice At ts.length ct) ts.length (flat ts)) (hn:ts.length<=1000) (hc:R.chain.length<=1000) (hl:R.l.length<=1000000) :
  Calls prog 117 #[pointer (some ⟨q,0,none⟩),slice At ts.length ct] w fun e w'=>∃ I',I.sub I'∧e=.returned (int i64 (rLead R ts).1)∧St W I' w' (rjHP q (rLead R ts).2::l):=by
 obtain ⟨⟨re,RR⟩,hRR⟩:∃ x,x=rLead R ts:=⟨_,rfl⟩;rw [<-hRR];unfold rLead at hRR;obtain ⟨V,hr,h1⟩:=h.rj_open;obtain ⟨vs,vl,vt,vc⟩:=V;obtain ⟨Ah,ch,e3,_⟩:=id hr.2.1;obtain ⟨Al,kl,e4,_⟩:=(h1.pull 1 _ rfl).ents_slice;simp only at e3 e4;subst e3 e4
 have HTA:=Zh (show ∀ (I':Hp) (w':World) (L:List HP),I.sub I'->St W I' w' L->TagsAt w' At ts.length ts∧TagsAt w' Ah R.chain.length R.chain from fun I' w' L hs h'=>by
  obtain ⟨A,c,e,_,h9⟩:=ZbM h' (RowI.mono hs ht);obtain ⟨A',c',e',_,h8⟩:=ZbM h' (RowI.mono hs hr.2.1);simp only [Zz] at e e';obtain ⟨rfl,_,_⟩:=e;obtain ⟨rfl,_,_⟩:=e'
  exact ⟨h9,h8⟩)
 have HRR:=Zh hRR;have HT:=Zh ht;have HRC:=Zh (Zjf At ts.length ct ts w (HTA.o _ _ _ (Hp.sub.refl _) h1).1 (by omega));obtain ⟨n,hnn⟩:=Zn ts.length;obtain ⟨nc,hnc⟩:=Zn R.chain.length;obtain ⟨nl,hnl⟩:=Zn R.l.length;rw [<-hnn] at hn HRC HTA |-;rw [<-hnc] at hc HTA;rw [<-hnl] at hl;rw [<-hnl,<-hnc] at hr h1;have H1:=Zh h1;have HR:=Zh hr;simp only;have HNN:=Zh hnn;have HNC:=Zh hnc;have HNL:=Zh hnl;clear h h1 hr ht hRR hnn hnc hnl;go_enter func117,ntmps117;obtain ⟨k0,hk0⟩:=Zn (Z3 ts);rw [<-hk0] at HRC HRR;clear hk0;go_wp2_with fail;refine HRC.o.mono ?_;rintro e w2 ⟨rfl,hb2⟩;have H2:=Zh (H1.o.keep hb2);clear hb2 H1 HRC;cases k0 with
 | false =>
  have HX:=Zh (HRR.o.trans (Za (by simp)));simp only [Zv] at HX;go_wp2;go_ret;obtain ⟨rfl,rfl⟩:=HX.o;exact ⟨I,Hp.sub.refl _,rfl,St.rj_shut HR.o H2.o⟩
 | true =>
 have HRR2:=Zh (show (re,RR)=if (R.l.all fun e=>decide (tagOf ts e.seq=tagOf R.chain e.seq))=true then (0,{ R with chain:=ts }) else (1,R) by rw [HRR.o];simp);have hl9:=hl;clear HRR;obtain ⟨_,_,_,_,x9,_,_,_,_,lt⟩:=Zad H2.o;simp only at x9;go_wp2_with fail;clear x9 lt;go_loopw [5] (fun a5 wr=>∃ i:Nat,a5=int i64 i∧i<=nl∧((R.l.take i).all fun e=>decide (tagOf ts e.seq=tagOf R.chain e.seq))=true∧St W I wr (rjBlk q R ⟨vs,slice Al nl kl,slice Ah nc ch,vc⟩::Zo (slice Al nl kl) R.l::l)) (fun a5 _=>nl - (intOf a5).toNat);case atStart=>exact ⟨0,rfl,ZL _,rfl,H2.o⟩
 case round =>
  obtain ⟨i,rfl,hi,hall,hst⟩:=hrel;clear H2;by_cases hlt:i<nl
  ·have d0:decide ((i:Int)<(nl:Int))=true:=Zt (by omega);obtain ⟨e,he⟩:∃ e,R.l[i]?=some e:=⟨_,Zy (by rw [<-HNL.o];exact hlt)⟩;obtain ⟨gl,qq,c2,vd,e1,hgl,_,_,y0,y1,y2⟩:=(hst.pull 1 _ rfl).ents_cell he;simp only [Zz] at e1;obtain ⟨rfl,_,rfl⟩:=e1
   have HALL:=Zh (show ((R.l.take (i+1)).all fun e=>decide (tagOf ts e.seq=tagOf R.chain e.seq))=decide (tagOf ts e.seq=tagOf R.chain e.seq) by
    obtain ⟨hil,hee⟩:=ZH.1 he;rw [Zc8 hil,List.all_append,hall,hee]
    simp)
   have HNO:=Zh (show ¬ tagOf ts e.seq=tagOf R.chain e.seq->(R.l.all fun e=>decide (tagOf ts e.seq=tagOf R.chain e.seq))=false from fun q=>ZiM.2 ⟨e,ZaG he,by simpa using q⟩);obtain ⟨_,_,_,_,x9,_,_,_,_,lt⟩:=Zad hst;simp only at x9;have HST:=Zh hst;obtain ⟨sq,hsq⟩:=Zn e.seq;rw [<-hsq] at HALL HNO y1;obtain ⟨t1,ht1⟩:=Zn (tagOf ts sq);obtain ⟨t2,ht2⟩:=Zn (tagOf R.chain sq);rw [<-ht1,<-ht2] at HALL HNO;have HT1:=Zh ht1;have HT2:=Zh ht2
   have HY:=Zh (show ∀ (w':World),St W I w' (rjBlk q R ⟨vs,slice (some ⟨gl,qq,none⟩) nl kl,slice Ah nc ch,vc⟩::Zo (slice (some ⟨gl,qq,none⟩) nl kl) R.l::l)->(St W I w' (rjBlk q R ⟨vs,slice (some ⟨gl,qq,none⟩) nl kl,slice Ah nc ch,vc⟩::Zo (slice (some ⟨gl,qq,none⟩) nl kl) R.l::l)∧w'.cell? ⟨q,9,none⟩=some (slice (some ⟨gl,qq,none⟩) nl kl)∧w'.cell? ⟨q,12,none⟩=some (slice Ah nc ch)∧w'.cell? ⟨gl,qq+i*3+1,none⟩=some (int i64 sq)) from fun w' h'=>by
    obtain ⟨_,_,_,_,k9,_,_,k12,_⟩:=Zad h';obtain ⟨gl',qq',c2',vd',e1',_,_,_,_,k1,_⟩:=(h'.pull 1 _ rfl).ents_cell he;simp only [Zz,Zaa,Addr.mk.injEq,Zap] at e1';obtain ⟨⟨rfl,rfl⟩,_,rfl⟩:=e1'
    exact ⟨h',k9,k12,by rw [hsq];exact k1⟩)
   have hin:(i:Int)<(nl:Int):=by omega
   clear hst hall he y0 y2 ht1 ht2 hsq;go_upto_region 6 with fail;refine Zca (fun w'=>St W I w' (rjBlk q R ⟨vs,slice (some ⟨gl,qq,none⟩) nl kl,slice Ah nc ch,vc⟩::Zo (slice (some ⟨gl,qq,none⟩) nl kl) R.l::l)∧w'.cell? ⟨q,9,none⟩=some (slice (some ⟨gl,qq,none⟩) nl kl)∧w'.cell? ⟨q,12,none⟩=some (slice Ah nc ch)∧w'.cell? ⟨gl,qq+i*3+1,none⟩=some (int i64 sq)) [(0,false),(1,false),(2,false),(3,false),(4,false),(5,false),(6,false),(7,false),(8,false),(9,false),(10,false),(11,false),(12,false),(13,false),(14,false),(15,false),(16,false),(17,false),(18,false),(19,false),(20,false),(21,false),(22,false),(23,false)] [] [] (by kernel_rfl) (by kernel_rfl) (by (intro w' hb;exact HY.o _ (HST.o.drew.keep hb))) ?_;repeat (first|refine ZaH (by rfl) _ (by rfl) (by intro w;go_simp;try with_reducible rfl) ?_|refine ZaK (by rfl) _ (by rfl) (by (intro w hSw;(try dsimp only at hSw);go_simp;try with_reducible rfl)) ?_|refine ZaI (by rfl) (by rfl) ?_|fail);(try go_frame)
   refine Zb2 (by rfl) (int i64 t1) (164) (#[slice At n ct,int i64 sq]) (by rfl) (by intro w;go_simp;try with_reducible rfl) (by (rintro w1 ⟨h1,_⟩;rw [HT1.o];exact (ZhN At n ct ts sq w1 (HTA.o _ _ _ (Hp.sub.refl _) h1).1 (by omega)).mono (by rintro e w' ⟨rfl,rfl⟩;exact ⟨rfl,ZI _ _⟩))) ?_
   (try go_frame)
   repeat (first|refine ZaH (by rfl) _ (by rfl) (by intro w;go_simp;try with_reducible rfl) ?_|refine ZaK (by rfl) _ (by rfl) (by (intro w hSw;(try dsimp only at hSw);go_simp;try with_reducible rfl)) ?_|refine ZaI (by rfl) (by rfl) ?_|fail);(try go_frame)
   refine Zb2 (by rfl) (int i64 t2) (164) (#[slice Ah nc ch,int i64 sq]) (by rfl) (by intro w;go_simp;try with_reducible rfl) (by (rintro w1 ⟨h1,_⟩;rw [HT2.o];exact (ZhN Ah nc ch R.chain sq w1 (HTA.o _ _ _ (Hp.sub.refl _) h1).2 (by omega)).mono (by rintro e w' ⟨rfl,rfl⟩;exact ⟨rfl,ZI _ _⟩))) ?_
   (try go_frame)
   repeat (first|refine ZaH (by rfl) _ (by rfl) (by intro w;go_simp;try with_reducible rfl) ?_|refine ZaK (by rfl) _ (by rfl) (by (intro w hSw;(try dsimp only at hSw);go_simp;try with_reducible rfl)) ?_|refine ZaI (by rfl) (by rfl) ?_|fail);(try go_frame)
   refine Zce ?_;refine ZdD ?_;rintro w9 hz9;have H9:=Zh (HST.o.drew.keep hz9.below);clear hz9 HST HY x9 y1 lt;by_cases q:t1=t2
   ·have hq:(t1==t2)=true:=by simp [q]
    have HALL2:=Zh (HALL.o.trans (Zt q));subst q;go_wp2;refine Zw ?_;go_wp2;go_roundw;case rel=>exact ⟨i+1,by go_num,by omega,HALL2.o,H9.o⟩
    case measure=>simp [intOf]<;>omega
   ·have hq:(t1==t2)=false:=by simp [q]
    have HX:=Zh (HRR2.o.trans (by rw [HNO.o q,Za (by simp)]));simp only [Zv] at HX;go_wp2;refine Zw ?_;go_wp2;go_ret;obtain ⟨rfl,rfl⟩:=HX.o;exact ⟨I,Hp.sub.refl _,rfl,St.rj_shut HR.o H9.o⟩
  ·obtain rfl:i=nl:=by omega
   have d0:decide ((i:Int)<(i:Int))=false:=Zq (by omega);rw [HNL.o,ZbJ] at hall;have HX:=Zh (HRR2.o.trans (by rw [hall,Zb rfl]));simp only [Zv] at HX;obtain ⟨_,_,_,_,x9,_,_,_,_,lt⟩:=Zad hst;simp only at x9;have h5:=hst.row_bare 80 4;obtain ⟨v6,w6,hr6,h6⟩:=St.tags_append 65 h5 (RowI.src HT.o h5.imm (ZeN ts) (by omega)) (by have:=HNN.o;omega);rw [ZX,Zu] at h6;obtain ⟨A6,c6,rfl⟩:=ZA h6.row_owns;obtain ⟨I7,s7,hr7,h7⟩:=h6.freeze_row;obtain ⟨_,_,_,_,_,_,_,x12,_,lt2⟩:=Zad h7;simp only at x12;have fr:=frozen_of_row h7.heap;rw [<-HNN.o] at hr6;have h8:St W I7 (w6.setCell ⟨q,12,none⟩ (slice A6 n c6)) (rjBlk q { R with chain:=ts } ⟨vs,slice Al i kl,slice A6 n c6,vc⟩::Zo (slice Al i kl) R.l::l):=h7.setCell 12 (slice A6 n c6);have H8:=Zh h8
   have HR8:=Zh (show rjI { R with chain:=ts } ⟨vs,slice Al i kl,slice A6 n c6,vc⟩ I7 from ⟨(HR.o.mono s7).1,by
    show RowI I7 4 (slice A6 n c6) ts.length (flat ts)
    rw [HNN.o];exact hr7,(HR.o.mono s7).2.2⟩)
   have HR6:=Zh hr6;have S7:=Zh s7;clear hst hall h5 h6 h7 h8 hr6 hr7 s7;go_wp2_with (at_builtin;refine ZZ _ rfl (.tmp 43) (.tmp 44) 65 65 rfl _ _ rfl rfl _ _ HR6.o ?_);go_ret;obtain ⟨rfl,rfl⟩:=HX.o;exact ⟨I7,S7.o,rfl,St.rj_shut HR8.o H8.o⟩
end
section
variable {q : Nat} {R : RJ}
theorem Zo7 (a:A16) (h:St W I w (rjHP q R::l)) (hb:RB R) (ha:a.ok I) (hf:a.few=true) :
  Calls prog 52 #[pointer (some ⟨q,0,none⟩),a.val] w fun e w'=>∃ I',I.sub I'∧e=.returned (.tuple #[int i64 (ZU R a).1.1,int i64 (ZU R a).1.2])∧St W I' w' (rjHP q (ZU R a).2::l):=by
 obtain ⟨what,n,m,off,d,dv,ts,tv,ns,nv⟩:=a;obtain ⟨had,hat,han,_,_,hmm,ham⟩:=ha;simp only at had hat han hmm ham;obtain ⟨Ad,cd,e1⟩:=id had;obtain ⟨e1,_⟩:=e1;obtain ⟨At,ct,e2,_⟩:=id hat;obtain ⟨An,cn,e3,_⟩:=id han;subst e1 e2 e3;unfold A16.few at hf;simp only [Zk] at hf;unfold A16.val;simp only;obtain ⟨o,ho⟩:=Zn (Obj.cells #[int i64 what,int i64 n,int i64 m,.bool off,slice Ad d.length cd,slice At ts.length ct,slice An ns.length cn] 96);have h1:=h.alloc o;obtain ⟨g,hg⟩:=Zn w.heap.size;obtain ⟨w1,hw1⟩:=Zn (w.alloc o);rw [<-hg,<-hw1] at h1;rw [ho] at hw1;have H1:=Zh (h1.pull 1 _ rfl);have HC:=Zh (fun (w':World) (L:List HP) (I':Hp) (h':St W I' w' (pt g o::L))=>ZaC (by rw [ho] at h';exact h'));have HO:=Zh ho;have HB:=Zh hb;have HAD:=Zh had;have HAT:=Zh hat;have HAN:=Zh han;have HBY:=Zh ham;have HF:=Zh hf;have HM:=Zh hmm;obtain ⟨x0,x1,x2,x3,x4,x5,x6⟩:=HC.o _ _ _ h1;have lg:=h1.lt;clear h h1 ho hb had hat han ham hf hmm;go_enter func52,ntmps52;go_upto_region 1 with fail;rw [<-hg,<-hw1];clear hg hw1;by_cases k0:what=0
 ·subst k0;have HT:=Zh (show ZU R ⟨0,n,m,off,d,slice Ad d.length cd,ts,slice At ts.length ct,ns,slice An ns.length cn⟩=Zbe R d by simp [ZU]);have HK:=Zh (Zn8 Ad cd d H1.o HAD.o HBY.o ⟨HB.o.en.1,by have:=HB.o.en;omega⟩ (by have:=HB.o.few;omega) (by have:=HB.o.few;omega) (by have:=HB.o.few;omega));go_wp2_with fail;refine HK.o.mono ?_;rintro e w2 ⟨I2,s2,rfl,h2⟩;have H2:=Zh ((h2.pull 1 _ rfl).drop);have S2:=Zh s2;clear s2 h2 HK;go_wp2;go_ret2;exact ⟨I2,S2.o,rfl,H2.o⟩
 have q0:(what==0)=false:=by simp [k0]
 by_cases k1:what=1
 ·subst k1;have HT:=Zh (show ZU R ⟨1,n,m,off,d,slice Ad d.length cd,ts,slice At ts.length ct,ns,slice An ns.length cn⟩=((0,0),Zeq R) by simp [ZU]);obtain ⟨V,hr,h3⟩:=H1.o.rj_open;obtain ⟨_,_,_,_,_,y10,y11,_,_,lt⟩:=Zad h3;have fr:=frozen_of_row h3.heap;have h4:St W I (w1.setCell ⟨q,11,none⟩ (int i64 R.en)) (rjBlk q (Zeq R) V::Zo V.vl R.l::pt g o::l):=h3.setCell 11 (int i64 R.en);have H4:=Zh (St.rj_shut (R:=Zeq R) hr h4);clear hr h3 h4;go_wp2;go_ret2;exact ⟨I,Hp.sub.refl _,rfl,((H4.o).pull 1 _ rfl).drop⟩
 have q1:(what==1)=false:=by simp [k1]
 by_cases k2:what=2
 ·subst k2;have HT:=Zh (show ZU R ⟨2,n,m,off,d,slice Ad d.length cd,ts,slice At ts.length ct,ns,slice An ns.length cn⟩=((((rRead R n m).1.length:Int),(rRead R n m).2),R) by simp [ZU]);obtain ⟨a,ha,hab⟩:=HB.o.first;have HK:=Zh (Zqn n m H1.o ha hab HM.o.1 (by have:=HB.o.few;omega));clear ha hab;go_wp2_with fail;refine HK.o.mono ?_;rintro e w2 ⟨v,rfl,h2⟩;obtain ⟨Av,cv,rfl,_⟩:=h2.ents_slice;have H2:=Zh ((h2.drop.pull 1 _ rfl).drop);clear h2 HK;go_wp2;go_ret2;exact ⟨I,Hp.sub.refl _,rfl,H2.o⟩
 have q2:(what==2)=false:=by simp [k2]
 by_cases k3:what=3
 ·subst k3;have HT:=Zh (show ZU R ⟨3,n,m,off,d,slice Ad d.length cd,ts,slice At ts.length ct,ns,slice An ns.length cn⟩=((0,(rCut R n).1),(rCut R n).2) by simp [ZU]);obtain ⟨a,ha,hab⟩:=HB.o.first;have HK:=Zh (ZrN n H1.o ha HB.o.sets HB.o.rise (by have:=HB.o.few;omega) (by have:=HB.o.few;omega) HB.o.ents HB.o.c (by have:=HB.o.few;omega) (by have:=HB.o.few;omega));go_wp2_with fail;refine HK.o.mono ?_;rintro e w2 ⟨I2,s2,rfl,h2⟩;have H2:=Zh ((h2.pull 1 _ rfl).drop);have S2:=Zh s2;clear s2 h2 HK;go_wp2;go_ret2;exact ⟨I2,S2.o,rfl,H2.o⟩
 have q3:(what==3)=false:=by simp [k3]
 by_cases k4:what=4
 ·subst k4;have HT:=Zh (show ZU R ⟨4,n,m,off,d,slice Ad d.length cd,ts,slice At ts.length ct,ns,slice An ns.length cn⟩=((0,(rLead R ts).1),(rLead R ts).2) by simp [ZU]);have HK:=Zh (Zk6 At ct ts H1.o HAT.o (by have:=HF.o;omega) (by have:=HB.o.few;omega) (by have:=HB.o.few;omega));go_wp2_with fail;refine HK.o.mono ?_;rintro e w2 ⟨I2,s2,rfl,h2⟩;have H2:=Zh ((h2.pull 1 _ rfl).drop);have S2:=Zh s2;clear s2 h2 HK;go_wp2;go_ret2;exact ⟨I2,S2.o,rfl,H2.o⟩
 have q4:(what==4)=false:=by simp [k4]
 by_cases k5:what=5
 ·subst k5;have HT:=Zh (show ZU R ⟨5,n,m,off,d,slice Ad d.length cd,ts,slice At ts.length ct,ns,slice An ns.length cn⟩=((0,(rAct R 0 n m off).1),(rAct R 0 n m off).2) by simp [ZU]);have wk:IntKind.i64.wrap ((5:Int) - 5)=0:=by decide
  have HK:=Zh (Zgm 0 n m off H1.o HB.o.cls (by omega));go_wp2_with fail;refine HK.o.mono ?_;rintro e w2 ⟨I2,s2,rfl,h2⟩;have H2:=Zh ((h2.pull 1 _ rfl).drop);have S2:=Zh s2;clear s2 h2 HK;go_wp2;go_ret2;exact ⟨I2,S2.o,rfl,H2.o⟩
 have q5:(what==5)=false:=by simp [k5]
 by_cases k6:what=6
 ·subst k6;have HT:=Zh (show ZU R ⟨6,n,m,off,d,slice Ad d.length cd,ts,slice At ts.length ct,ns,slice An ns.length cn⟩=((0,(rAct R 1 n m off).1),(rAct R 1 n m off).2) by simp [ZU]);have wk:IntKind.i64.wrap ((6:Int) - 5)=1:=by decide
  have HK:=Zh (Zgm 1 n m off H1.o HB.o.cls (by omega));go_wp2_with fail;refine HK.o.mono ?_;rintro e w2 ⟨I2,s2,rfl,h2⟩;have H2:=Zh ((h2.pull 1 _ rfl).drop);have S2:=Zh s2;clear s2 h2 HK;go_wp2;go_ret2;exact ⟨I2,S2.o,rfl,H2.o⟩
 have q6:(what==6)=false:=by simp [k6]
 by_cases k7:what=7
 ·subst k7;have HT:=Zh (show ZU R ⟨7,n,m,off,d,slice Ad d.length cd,ts,slice At ts.length ct,ns,slice An ns.length cn⟩=((0,(rAct R 2 n m off).1),(rAct R 2 n m off).2) by simp [ZU]);have wk:IntKind.i64.wrap ((7:Int) - 5)=2:=by decide
  have HK:=Zh (Zgm 2 n m off H1.o HB.o.cls (by omega));go_wp2_with fail;refine HK.o.mono ?_;rintro e w2 ⟨I2,s2,rfl,h2⟩;have H2:=Zh ((h2.pull 1 _ rfl).drop);have S2:=Zh s2;clear s2 h2 HK;go_wp2;go_ret2;exact ⟨I2,S2.o,rfl,H2.o⟩
 have q7:(what==7)=false:=by simp [k7]
 by_cases k8:what=8
 ·subst k8;have HT:=Zh (show ZU R ⟨8,n,m,off,d,slice Ad d.length cd,ts,slice At ts.length ct,ns,slice An ns.length cn⟩=((0,(rAct R 3 n m off).1),(rAct R 3 n m off).2) by simp [ZU]);have wk:IntKind.i64.wrap ((8:Int) - 5)=3:=by decide
  have HK:=Zh (Zgm 3 n m off H1.o HB.o.cls (by omega));go_wp2_with fail;refine HK.o.mono ?_;rintro e w2 ⟨I2,s2,rfl,h2⟩;have H2:=Zh ((h2.pull 1 _ rfl).drop);have S2:=Zh s2;clear s2 h2 HK;go_wp2;go_ret2;exact ⟨I2,S2.o,rfl,H2.o⟩
 have q8:(what==8)=false:=by simp [k8]
 by_cases k9:what=9
 ·subst k9;have HT:=Zh (show ZU R ⟨9,n,m,off,d,slice Ad d.length cd,ts,slice At ts.length ct,ns,slice An ns.length cn⟩=((((R.l.length - (rLess R).l.length:Nat):Int),0),rLess R) by simp [ZU]);have HK:=Zh (Zqo H1.o (by obtain ⟨a,ha,_⟩:=HB.o.first;exact fun q=>by rw [q] at ha;cases ha) HB.o.sets (by have:=HB.o.few;omega) (by have:=HB.o.few;omega) (by have:=HB.o.few;omega));go_wp2_with fail;refine HK.o.mono ?_;rintro e w2 ⟨I2,s2,rfl,h2⟩;have H2:=Zh ((h2.pull 1 _ rfl).drop);have S2:=Zh s2;clear s2 h2 HK;go_wp2;go_ret2;exact ⟨I2,S2.o,rfl,H2.o⟩
 have q9:(what==9)=false:=by simp [k9]
 by_cases k10:what=10
 ·subst k10;have HT:=Zh (show ZU R ⟨10,n,m,off,d,slice Ad d.length cd,ts,slice At ts.length ct,ns,slice An ns.length cn⟩=((0,0),rTidy R) by simp [ZU]);have HK:=Zh (Zql H1.o (by have:=HB.o.few;omega) (by have:=HB.o.few;omega));go_wp2_with fail;refine HK.o.mono ?_;rintro e w2 ⟨I2,s2,rfl,h2⟩;have H2:=Zh ((h2.pull 1 _ rfl).drop);have S2:=Zh s2;clear s2 h2 HK;go_wp2;go_ret2;exact ⟨I2,S2.o,rfl,H2.o⟩
 have q10:(what==10)=false:=by simp [k10]
 by_cases k11:what=11
 ·subst k11;have HT:=Zh (show ZU R ⟨11,n,m,off,d,slice Ad d.length cd,ts,slice At ts.length ct,ns,slice An ns.length cn⟩=((0,(rLead R (ZbZ R.chain R.en n m)).1),(rLead R (ZbZ R.chain R.en n m)).2) by simp [ZU]);obtain ⟨V,hr,h3⟩:=H1.o.rj_open;obtain ⟨vs,vl,vt,vc⟩:=V;obtain ⟨Ac,cc,e5,_⟩:=id hr.2.1;simp only at e5;subst e5;obtain ⟨en,hen⟩:=Zn R.en;obtain ⟨nc,hnc⟩:=Zn R.chain.length;have HG:=Zh (Zjz Ac cc R.chain en n m h3.drew hr.2.1 (by have:=HB.o.few;omega) (by have:=HB.o.en;omega));have hcells:=Zad h3;simp only at hcells;rw [<-hen,<-hnc] at hcells;rw [<-hnc] at HG;obtain ⟨_,_,_,_,_,y10,_,y12,_,lt⟩:=hcells;have HR:=Zh hr;have HNC:=Zh hnc;have HEN:=Zh hen;obtain ⟨ts2,hts⟩:=Zn (ZbZ R.chain en n m);rw [<-hts] at HG;rw [<-hen,<-hts] at HT;obtain ⟨nt2,hnt2⟩:=Zn ts2.length;rw [<-hnt2] at HG;have htl:nt2<=1000:=by
   rw [hnt2,hts];unfold ZbZ;rw [Zs,ZcT];have:=HB.o.few;omega
  have HNT2:=Zh hnt2;clear hr h3 hen hnc hts hnt2;go_upto_region 23 with fail;clear x0 x3 x4 x5 x6;refine Zay (fun w'=>w'.cell? ⟨g,1,none⟩=some (int i64 n)∧w'.cell? ⟨g,2,none⟩=some (int i64 m)∧w'.cell? ⟨q,10,none⟩=some (int i64 en)∧w'.cell? ⟨q,12,none⟩=some (slice Ac nc cc)) [0,1,2,3,4,5,6,7,8,9,10,11,12] [13] [14,15,16] (by kernel_rfl) (by kernel_rfl) (by (exact ⟨x1,x2,y10,y12⟩)) ?_;simp only [pickL,Zg,Zi];repeat (refine ZM _ (Or.inl ⟨by rfl,by (intro w hSw;(try dsimp only at hSw);go_simp;try with_reducible rfl)⟩) ?_;(try go_frame))
  refine Z7 ?_;unfold Zr;go_wp2_with fail;refine HG.o.mono ?_;rintro e w2 ⟨I2,A2,c2,s2,rfl,hR2,h2⟩;have hcells:=Zad h2;simp only at hcells;try rw [<-HEN.o] at hcells
  try rw [<-HNC.o] at hcells
  obtain ⟨_,_,_,_,_,k10,_,k12,_,_⟩:=hcells;obtain ⟨_,z1,z2,_⟩:=HC.o _ _ _ (h2.pull 2 _ rfl);have HL:=Zh (Zk6 A2 c2 ts2 (St.rj_shut (R:=R) (V:=⟨vs,vl,slice Ac nc cc,vc⟩) (by rw [HNC.o];exact HR.o.mono s2) h2) (by rw [<-HNT2.o];exact hR2) (by have:=HNT2.o;omega) (by have:=HB.o.few;omega) (by have:=HB.o.few;omega));rw [<-HNT2.o] at HL;have HS2:=Zh s2;clear h2 hR2 s2 HG y10 y12 x1 x2;go_wp2;refine Zm (And.intro z1 (And.intro z2 (And.intro k10 k12))) ?_;clear z1 z2 k10 k12;unfold Zr;go_wp2_with fail;refine HL.o.mono ?_;rintro e w5 ⟨I5,s5,rfl,h5⟩;have H5:=Zh ((h5.pull 1 _ rfl).drop);have HS5:=Zh (HS2.o.trans s5);clear h5 s5 HL;go_wp2;refine Zw ?_;go_wp2;go_ret2;exact ⟨I5,HS5.o,by rw [HT.o];try rfl,by rw [HT.o];exact H5.o⟩
 have q11:(what==11)=false:=by simp [k11]
 by_cases k12:what=12
 ·subst k12;have HT:=Zh (show ZU R ⟨12,n,m,off,d,slice Ad d.length cd,ts,slice At ts.length ct,ns,slice An ns.length cn⟩=((if rFits R.c ns R.fill (R.en+1) R.sets.length=true then 1 else 0,0),R) by simp [ZU]);have HK:=Zh (Zqm An cn ns H1.o HAN.o (by have:=HF.o;omega) ⟨HB.o.en.1,by have:=HB.o.en;omega⟩ (by have:=HB.o.few;omega));obtain ⟨b,hbq⟩:=Zn (rFits R.c ns R.fill (R.en+1) R.sets.length);rw [<-hbq] at HK;have HBQ:=Zh hbq;clear hbq;go_wp2_with fail;refine HK.o.mono ?_;rintro e w2 ⟨rfl,h2⟩;have H2:=Zh ((h2.pull 1 _ rfl).drop);clear h2 HK;cases b;all_goals
   go_wp2;go_ret2;exact ⟨I,Hp.sub.refl _,by rw [HT.o,<-HBQ.o];rfl,by rw [HT.o];exact H2.o⟩
 have q12:(what==12)=false:=by simp [k12]
 have HT:=Zh (show ZU R ⟨what,n,m,off,d,slice Ad d.length cd,ts,slice At ts.length ct,ns,slice An ns.length cn⟩=((0,0),R) by simp [ZU,k0,k1,k2,k3,k4,k5,k6,k7,k8,k9,k10,k11,k12]);go_wp2;go_ret2;exact ⟨I,Hp.sub.refl _,by rw [HT.o];try rfl,by rw [HT.o];exact (H1.o.pull 1 _ rfl).drop⟩
end
end Go.Proofs.YtpjchngjhijgmaaGreat
