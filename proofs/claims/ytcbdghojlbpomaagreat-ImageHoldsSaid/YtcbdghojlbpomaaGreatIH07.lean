import Derived.Test.YtcbdghojlbpomaaGreatIH06
set_option linter.all false
namespace Go.Proofs.YtcbdghojlbpomaaGreat
open Tryz
open HP (pt mapOf)
open Go.IntKind (i64 u64)
open Go.Value (int pointer slice)
open Go.Obj (cells)
open Go.RowKit
def RoundR (o:Option (Ev × Value)) (h:Hd) (R:List RO) (h':Hd) (R':List RO):Prop:=match o with
 | some e=>∃ ans,DoR h R e.1 0 ans h' R'
 | none=>h'=h∧R'=R
theorem held_gone {ms:List Mk} {m:Mk} (h:m ∈ heldL ms):m.gone=false:=by
 obtain ⟨_,m',_,_,_,rfl⟩:=held_in h;rfl
section
variable {W w : World} {I : Hp} {p q : Nat} {S : Str}
set_option maxRecDepth 8000
set_option maxHeartbeats 16000000
theorem holds_in {ca cb:Code} {Q:Exit->Act->World->Prop} {K:Act->World->Prop} (hK:∀ x y,cb.wp prog Q x y->K x y) (hC:(f5).body.bind (fromR 21)=some (.seq ca cb)) {x0 x1 x2 x3 x4 x5 x6 x7 x8 x9 x10 x11 x12 x14 x16 x18 x20 x21 x22 x23 x24 x25 x26 x27 x28 x29 x30 x31 x32 x33 x34 x35 x36 x37 x38 x39 x40 x41 x42 x43 x44 x45 x46 x47 x48 x49 x50 x51 x52 x53 x54 x55 x56 x57 x58 x59 x60 x61 x62 x63 x64 x65 x66 x67 x68 x69 x70 x71 x72 x73 x74 x75 x76 x77 x78 x79 x80 x81 x82 x83 x84 x85 x86 x87 x88 x89 x90 x91 x92 x93 x94 x95 x96 x97 x98 x99 x100 x101 x102 x103 x104 x105 x106 x107 x108 x109 x110 x111 x112 x113 x114 x115 x116 x117 x118 x119 x120 x121 x122 x123 x124 x125 x126 x127 x128 x129 x130 x131 x132 x133 x134 x135 x136 x137 x138 x139 x140 x141 x142 x143 x144 x145 x146 x147 x148 x149 x150 x151 x152 x153 x154 x155 x156 x157 x158 x159 x160 x161 x162 x163 x164 x165 x166 x167 x168 x169 x170 x171 x172 x173 x174 x175 x176 x177 x178 x179 x180 x181 x182 x183 x184 x185 x186 x187 x188 x189 x190 x191 x192 x193 x194 x195 x196 x197 x198 x199 x200 x201 x202 x203 x204 x205 x206 x207 x208 x209 x210 x211 x212 x213 x214 x215 x216 x217 x218 x219 x220 x221 x222 x223 x224 x225 x226 x227 x228 x229 x230 x231 x232 x233 x234 x235 x236:Value} {g13 g17 cL cA cB mk nl ml dl:Nat} {AL A B:Option Addr} {h:Hd} {R:List RO} {L:Ly} {hl:List Mk} {V:Vw}
  (hL:h.l=L) (hhl:heldL h.marks=hl) (hnl:hl.length=nl)
  (hs:St W I w (pt g13 (cells #[int i64 L.order,int i64 L.unit,int i64 L.count] 30)::Zd p S::imgHP q p h::pt g17 (cells #[slice A dl cA,slice B ml cB] 35)::[])) (J:IJ S h R) (hk:Keeps S mk)
  (hr:RowI I 4 (slice AL nl cL) nl (hl.flatMap Mk.vals)) (hv:VwI I (.agg #[slice A dl cA,slice B ml cB]) V) (hV:heldV h R=V.snaps++[(tilde ⟨#[104]⟩,V.data)])
  (hQ:∀ (y12 y20 y21 y22 y23 y24 y90 y91 y92 y93 y94 y95 y96 y97 y98 y99 y100 y101 y102 y103 y104 y105 y106 y107 y108 y109 y110 y111 y112 y113 y114 y115 y116 y117 y118 y119 y120 y121 y122 y123 y124 y125 y126 y127 y128 y129 y130 y131 y132 y133 y134 y135 y136 y137 y138 y139 y140 y141 y142 y143 y144 y145 y146 y147 y148 y149 y150 y151 y152 y153 y154 y155 y156 y157 y158:Value) (I':Hp) (w':World),I.sub I'->St W I' w' (pt g13 (cells #[int i64 L.order,int i64 L.unit,int i64 L.count] 30)::Zd p S::imgHP q p h::pt g17 (cells #[slice A dl cA,slice B ml cB] 35)::[])->Q .normal ⟨#[x0,x1,x2,x3,x4,x5,x6,x7,x8,x9,x10,x11,y12,pointer (some ⟨g13,0,none⟩),x14,pointer (some ⟨q,0,none⟩),x16,pointer (some ⟨g17,0,none⟩),x18,slice AL nl cL,y20,y21,y22,y23,y24,x25,x26,x27,x28,x29,x30,x31,x32,x33,x34,x35,x36,x37,x38,x39,x40,x41,x42,x43,x44,x45,x46,x47,x48,x49,x50,x51,x52,x53,x54,x55,x56,x57,x58,x59,x60,x61,x62,x63,x64,x65,x66,x67,x68,x69,x70,x71,x72,x73,x74,x75,x76,x77,x78,x79,x80,x81,x82,x83,x84,x85,x86,x87,x88,x89,y90,y91,y92,y93,y94,y95,y96,y97,y98,y99,y100,y101,y102,y103,y104,y105,y106,y107,y108,y109,y110,y111,y112,y113,y114,y115,y116,y117,y118,y119,y120,y121,y122,y123,y124,y125,y126,y127,y128,y129,y130,y131,y132,y133,y134,y135,y136,y137,y138,y139,y140,y141,y142,y143,y144,y145,y146,y147,y148,y149,y150,y151,y152,y153,y154,y155,y156,y157,y158,x159,x160,x161,x162,x163,x164,x165,x166,x167,x168,x169,x170,x171,x172,x173,x174,x175,x176,x177,x178,x179,x180,x181,x182,x183,x184,x185,x186,x187,x188,x189,x190,x191,x192,x193,x194,x195,x196,x197,x198,x199,x200,x201,x202,x203,x204,x205,x206,x207,x208,x209,x210,x211,x212,x213,x214,x215,x216,x217,x218,x219,x220,x221,x222,x223,x224,x225,x226,x227,x228,x229,x230,x231,x232,x233,x234,x235,x236],[]⟩ w') :
  ca.wp prog (Exit.then K Q) ⟨#[x0,x1,x2,x3,x4,x5,x6,x7,x8,x9,x10,x11,x12,pointer (some ⟨g13,0,none⟩),x14,pointer (some ⟨q,0,none⟩),x16,pointer (some ⟨g17,0,none⟩),x18,slice AL nl cL,x20,x21,x22,x23,x24,x25,x26,x27,x28,x29,x30,x31,x32,x33,x34,x35,x36,x37,x38,x39,x40,x41,x42,x43,x44,x45,x46,x47,x48,x49,x50,x51,x52,x53,x54,x55,x56,x57,x58,x59,x60,x61,x62,x63,x64,x65,x66,x67,x68,x69,x70,x71,x72,x73,x74,x75,x76,x77,x78,x79,x80,x81,x82,x83,x84,x85,x86,x87,x88,x89,x90,x91,x92,x93,x94,x95,x96,x97,x98,x99,x100,x101,x102,x103,x104,x105,x106,x107,x108,x109,x110,x111,x112,x113,x114,x115,x116,x117,x118,x119,x120,x121,x122,x123,x124,x125,x126,x127,x128,x129,x130,x131,x132,x133,x134,x135,x136,x137,x138,x139,x140,x141,x142,x143,x144,x145,x146,x147,x148,x149,x150,x151,x152,x153,x154,x155,x156,x157,x158,x159,x160,x161,x162,x163,x164,x165,x166,x167,x168,x169,x170,x171,x172,x173,x174,x175,x176,x177,x178,x179,x180,x181,x182,x183,x184,x185,x186,x187,x188,x189,x190,x191,x192,x193,x194,x195,x196,x197,x198,x199,x200,x201,x202,x203,x204,x205,x206,x207,x208,x209,x210,x211,x212,x213,x214,x215,x216,x217,x218,x219,x220,x221,x222,x223,x224,x225,x226,x227,x228,x229,x230,x231,x232,x233,x234,x235,x236],[]⟩ w:=by
 injection hC with hC;injection hC with hC1 hC2;subst hC1 hC2;have HQ:=Zh hQ;have H0:=Zh hs;have HR:=Zh hr;obtain ⟨vd,vs,M,e0,hvd,hvr,hvo⟩:=hv;simp only [Value.agg.injEq,Array.mk.injEq,Zd0,Zae] at e0;obtain ⟨rfl,rfl⟩:=e0;obtain ⟨A1,c1,e1,_⟩:=hvd.cap;obtain ⟨B1,d1,e2,_⟩:=hvr.cap;simp only [ZF] at e1 e2;obtain ⟨rfl,e1,rfl⟩:=e1;obtain ⟨rfl,e2,rfl⟩:=e2;have hml:ml=V.snaps.length:=e2.trans hvo.len;have hlen:nl=V.snaps.length+1:=by
  have:=congrArg List.length hV;unfold heldV at this;rw [ZE,hhl,hnl,ZA] at this;exact this
 have HAT:=Zh (fun (n:Nat) (m:Mk) (hm:hl[n]?=some m)=>show (V.snaps++[(tilde ⟨#[104]⟩,V.data)])[n]?=some (m.name,Zag L R m.id m.size) by
  rw [<-hV];unfold heldV;rw [hhl,ZaN,hm,hL]
  rfl)
 have HG:=Zh (fun (m:Mk) (hm:m ∈ hl)=>held_gone (by rw [hhl];exact hm:m ∈ heldL h.marks));have HJ:=Zh J;have HKP:=Zh hk;have HL:=Zh hL;have HHL:=Zh hhl;have HNL:=Zh hnl;have HVD:=Zh hvd;have HVR:=Zh hvr;have HVO:=Zh hvo;have HML:=Zh hml;have HLEN:=Zh hlen;have E1:=Zh e1;have E2:=Zh e2;have HOB:=Zh (fun (m:Mk)=>objs_ex L m.size);have hnl1:nl=ml+1:=by omega
 have HNL1:=Zh hnl1;have hme:ml<=1000:=by
  have h1:=heldL_len h.marks;have h2:=J.ok.many;rw [hhl,hnl] at h1;omega
 clear hQ hs hr J hk hL hhl hnl hvd hvr hvo hml hlen hV e1 e2 hnl1;go_wp2;go_loopw [20] (fun a20 wr=>∃ (n:Nat) (I':Hp),a20=int i64 n∧n<=nl∧I.sub I'∧St W I' wr (pt g13 (cells #[int i64 L.order,int i64 L.unit,int i64 L.count] 30)::Zd p S::imgHP q p h::pt g17 (cells #[slice A dl cA,slice B ml cB] 35)::[])) (fun a20 _=>nl - (intOf a20).toNat);case atStart=>exact ⟨0,I,rfl,by omega,Hp.sub.refl _,H0.o⟩
 case round =>
  obtain ⟨n,I',rfl,hn,hsub,hst⟩:=hrel;clear H0;by_cases hlt:n<nl
  ·have hn9:n<=1000:=by have:=HNL1.o;omega
   have d0:decide ((n:Int)<(nl:Int))=true:=by rw [Ze];omega
   obtain ⟨m,hm⟩:∃ m,hl[n]?=some m:=⟨_,ZL (by have:=HNL.o;omega)⟩;have hat:=HAT.o n m hm;have hgo:=HG.o m (Zay hm);obtain ⟨N,hN⟩:=HOB.o m;obtain ⟨y0,y1⟩:=Zq (hst.pull 3 _ rfl);have HM:=Zh hm;have HGO:=Zh hgo;have HN:=Zh hN;have HST:=Zh hst;have HSUB:=Zh hsub;by_cases hcase:n<ml
   ·have d1:decide ((n:Int)<(ml:Int))=true:=by rw [Ze];omega
    rw [Zda (by have:=HML.o;omega)] at hat;obtain ⟨u,hu,hub⟩:=(HVO.o.mono hsub).at hat;simp only at hu hub;obtain ⟨Au,cu,rfl,_⟩:=hub.cap;obtain ⟨b,bo,e1,hc⟩:=ZbJ (i:=n) (mk:=ocell) (k:=2) (RowI.mono hsub HVR.o) (Hp.sub.refl _) hst (fun _=>rfl) hu;simp only [ZF,Zae,ZK] at e1;obtain ⟨rfl,_⟩:=e1;have z0:wr.cell? ⟨b,bo+n*2,none⟩=some (.string m.name):=hc 0 (by decide);have z1:wr.cell? ⟨b,bo+n*2+1,none⟩=some (slice Au (Zag L R m.id m.size).length cu):=hc 1 (by decide);have hbl:(Zag L R m.id m.size).length=m.size:=ZaO ..;rw [hbl] at z1 hub;have HUB:=Zh hub;clear hm hgo hN hst hsub hat hu hub hc hbl;go_upto_region 24 with fail;go_quiet (fail);have HST:=Zh (HST.o.drewN nq);go_upto_region 26 with fail;go_quiet (fail);have HST:=Zh (HST.o.drewN nq);clear z0 z1 y0 y1;go_upto_region 27 with fail;refine holds_one (by assumption) (by kernel_rfl) HL.o rfl HHL.o HNL.o HST.o HJ.o HKP.o HM.o HN.o (RowI.mono HSUB.o HR.o) HUB.o HGO.o ?_;intro _ _ _ _ _ _ _ _ _ _ _ _ _ _ _ _ _ _ _ _ _ _ _ _ _ _ _ _ _ _ _ _ _ _ _ _ _ _ _ _ _ _ _ _ _ _ I6 w6 hs6 h6;have H6:=Zh h6;have HS6:=Zh (HSUB.o.trans hs6);clear h6 hs6;go_wp2;go_roundw;case rel=>exact ⟨n+1,I6,by go_num,by omega,HS6.o,H6.o⟩
    case measure=>simp [intOf]<;>omega
   ·have d1:decide ((n:Int)<(ml:Int))=false:=by rw [Zk];omega
    have hnm:n=ml:=by have:=HNL1.o;omega
    rw [ZdF (by have:=HML.o;omega),show n - V.snaps.length=0 by have:=HML.o;omega] at hat;simp only [Zg,Zah,Zba] at hat;obtain ⟨hn1,hn2⟩:=hat;have hbl:dl=m.size:=by rw [E1.o,hn2];exact ZaO ..
    have hub:Zw I' (slice A m.size cA) (Zag L R m.id m.size):=by
     have:=(Zbv _ _).mono hsub HVD.o;rw [hn2,hbl] at this;exact this
    have HUB:=Zh hub;have HN1:=Zh (show Value.string (⟨#[126,104]⟩:ByteArray)=.string m.name by rw [<-hn1];rfl);have HBL:=Zh (show slice A dl cA=slice A m.size cA by rw [hbl]);clear hm hgo hN hst hsub hub hbl hn1 hn2 hnm;go_upto_region 24 with fail;go_quiet (fail);have HST:=Zh (HST.o.drewN nq);clear y0;go_upto_region 27 with fail;rw [HN1.o,HBL.o];refine holds_one (by assumption) (by kernel_rfl) HL.o rfl HHL.o HNL.o HST.o HJ.o HKP.o HM.o HN.o (RowI.mono HSUB.o HR.o) HUB.o HGO.o ?_;intro _ _ _ _ _ _ _ _ _ _ _ _ _ _ _ _ _ _ _ _ _ _ _ _ _ _ _ _ _ _ _ _ _ _ _ _ _ _ _ _ _ _ _ _ _ _ I6 w6 hs6 h6;have H6:=Zh h6;have HS6:=Zh (HSUB.o.trans hs6);clear h6 hs6;go_wp2;go_roundw;case rel=>exact ⟨n+1,I6,by go_num,by omega,HS6.o,H6.o⟩
    case measure=>simp [intOf]<;>omega
  ·obtain rfl:n=nl:=by omega
   have d0:decide ((n:Int)<(n:Int))=false:=by rw [Zk];omega
   have HST:=Zh hst;have HSUB:=Zh hsub;clear hst hsub;go_wp2_with fail;exact HQ.o _ _ _ _ _ _ _ _ _ _ _ _ _ _ _ _ _ _ _ _ _ _ _ _ _ _ _ _ _ _ _ _ _ _ _ _ _ _ _ _ _ _ _ _ _ _ _ _ _ _ _ _ _ _ _ _ _ _ _ _ _ _ _ _ _ _ _ _ _ _ _ _ _ _ _ _ _ HSUB.o HST.o
end
end Go.Proofs.YtcbdghojlbpomaaGreat
namespace Go.Proofs.YtcbdghojlbpomaaGreat
open Tryz
open HP (pt mapOf)
open Go.IntKind (i64 u64)
open Go.Value (int pointer slice)
open Go.Obj (cells)
open Go.RowKit
section
variable {W w : World} {I : Hp} {l : List HP} {p q : Nat} {S : Str}
set_option maxRecDepth 8000
set_option maxHeartbeats 16000000
theorem ipart_first (h:Hd) (R:List RO) {mk:Nat} (hs:St W I w (Zd p S::imgHP q p h::l)) (J:IJ S h R) (hk:Keeps S mk) {x:Mk} (hx:heldM h.marks=some x) :
  Calls prog 29 #[pointer (some ⟨q,0,none⟩),int i64 0,int i64 0] w fun e w'=>∃ I' A n c er,I.sub I'∧e=.returned (.tuple #[slice A n c,int i64 er])∧er≠4∧St W I' w' (Zd p S::imgHP q p h::l):=by
 have hpos:0<(heldL h.marks).length:=by
  rw [heldL_some hx,ZE];exact List.length_pos_of_mem (Z1.2 ⟨Zd7 hx,by simp⟩)
 obtain ⟨m,hm⟩:∃ m,(heldL h.marks)[0]?=some m:=⟨_,ZL hpos⟩;obtain ⟨N,hN⟩:=objs_ex h.l m.size;rcases Zbf N with h0|h0
 ·subst h0;refine (ipart_big h R 0 m 0 0 ⟨hs,J,hm,hN⟩ (by omega) (by omega)).mono ?_;rintro e w' ⟨I',q1,rfl,q3⟩;exact ⟨I',_,_,_,3,q1,rfl,by decide,q3⟩
 ·refine (ipart_spec h R 0 m N 0 ⟨hs,J,hm,hN⟩ hk h0).mono ?_;rintro e w' ⟨I',q1,v,rfl,hv,q3⟩;obtain ⟨A,c,rfl,_⟩:=RowI.cap hv;exact ⟨I',A,_,c,0,q1,rfl,by decide,q3⟩
theorem holds_end {ca cb:Code} {Q:Exit->Act->World->Prop} {K:Act->World->Prop} (hK:∀ x y,cb.wp prog Q x y->K x y) (hC:(f5).body.bind (fromR 32)=some (.seq ca cb)) {x0 x1 x2 x3 x4 x6 x7 x8 x9 x10 x11 x12 x13 x14 x16 x18 x19 x20 x21 x22 x23 x24 x25 x26 x27 x28 x29 x30 x31 x32 x33 x34 x35 x36 x37 x38 x39 x40 x41 x42 x43 x44 x45 x46 x47 x48 x49 x50 x51 x52 x53 x54 x55 x56 x57 x58 x59 x60 x61 x62 x63 x64 x65 x66 x67 x68 x69 x70 x71 x72 x73 x74 x75 x76 x77 x78 x79 x80 x81 x82 x83 x84 x85 x86 x87 x88 x89 x90 x91 x92 x93 x94 x95 x96 x97 x98 x99 x100 x101 x102 x103 x104 x105 x106 x107 x108 x109 x110 x111 x112 x113 x114 x115 x116 x117 x118 x119 x120 x121 x122 x123 x124 x125 x126 x127 x128 x129 x130 x131 x132 x133 x134 x135 x136 x137 x138 x139 x140 x141 x142 x143 x144 x145 x146 x147 x148 x149 x150 x151 x152 x153 x154 x155 x156 x157 x158 x159 x160 x161 x162 x163 x164 x165 x166 x167 x168 x169 x170 x171 x172 x173 x174 x175 x176 x177 x178 x179 x180 x181 x182 x183 x184 x185 x186 x187 x188 x189 x190 x191 x192 x193 x194 x195 x196 x197 x198 x199 x200 x201 x202 x203 x204 x205 x206 x207 x208 x209 x210 x211 x212 x213 x214 x215 x216 x217 x218 x219 x220 x221 x222 x223 x224 x225 x226 x227 x228 x229 x230 x231 x232 x233 x234 x235 x236:Value} {g17 cE dl cA ml cB mk:Nat} {AE A B:Option Addr} {h:Hd} {R:List RO} {V:Vw} {x:Mk} {es:List (Ev × Value)}
  (hs:St W I w (Zd p S::imgHP q p h::pt g17 (cells #[slice A dl cA,slice B ml cB] 35)::l)) (J:IJ S h R) (hk:Keeps S (mk+2)) (hmk:mk<=90000) (hx:heldM h.marks=some x)
  (hv:VwI I (.agg #[slice A dl cA,slice B ml cB]) V) (hvb:VwB V) (hE:EvsI I (slice AE es.length cE) es) (hnm:∀ x ∈ es,x.1.name.size<=1000) (hvw:viewI h R=foldV V (es.map (·.1)))
  (hQ:∀ (y0 y1 y2 y3 y4 y5 y6 y7 y8 y9 y10 y11 y13 y14 y15 y16 y17 y18 y19 y20 y21 y22 y23 y24 y25 y26 y27 y28 y29 y30 y31 y32 y33 y34 y35 y36 y37 y38 y39 y40 y41 y42 y43 y44 y45 y46 y47 y48 y49 y50 y51 y52 y53 y54 y55 y56 y57 y58 y59 y60 y61 y62 y63 y64 y65 y66 y67 y68 y69 y70 y71 y72 y73 y74 y75 y76 y77 y78 y79 y80 y81 y82 y83 y84 y85 y86 y87 y88 y89 y90 y91 y92 y93 y94 y95 y96 y97 y98 y99 y100 y101 y102 y103 y104 y105 y106 y107 y108 y109 y110 y111 y112 y113 y114 y115 y116 y117 y118 y119 y120 y121 y122 y123 y124 y125 y126 y127 y128 y129 y130 y131 y132 y133 y134 y135 y136 y137 y138 y139 y140 y141 y142 y143 y144 y145 y146 y147 y148 y149 y150 y151 y152 y153 y154 y155 y156 y157 y158 y159 y160 y161 y162 y163 y164 y165 y166 y167 y168 y169 y170 y171 y172 y173 y174 y175 y176 y177 y178 y179 y180 y181 y182 y183 y184 y185 y186 y187 y188 y189 y190 y191 y192 y193 y194 y195 y196 y197 y198 y199 y200 y201 y202 y203 y204 y205 y206 y207 y208 y209 y210 y211 y212 y213 y214 y215 y216 y217 y218 y219 y220 y221 y222 y223 y224 y225 y226 y227 y228 y229 y230 y231 y232 y233 y234 y235 y236:Value) (w':World),Below W.heap.size W w'->Q .ret ⟨#[y0,y1,y2,y3,y4,y5,y6,y7,y8,y9,y10,y11,.bool true,y13,y14,y15,y16,y17,y18,y19,y20,y21,y22,y23,y24,y25,y26,y27,y28,y29,y30,y31,y32,y33,y34,y35,y36,y37,y38,y39,y40,y41,y42,y43,y44,y45,y46,y47,y48,y49,y50,y51,y52,y53,y54,y55,y56,y57,y58,y59,y60,y61,y62,y63,y64,y65,y66,y67,y68,y69,y70,y71,y72,y73,y74,y75,y76,y77,y78,y79,y80,y81,y82,y83,y84,y85,y86,y87,y88,y89,y90,y91,y92,y93,y94,y95,y96,y97,y98,y99,y100,y101,y102,y103,y104,y105,y106,y107,y108,y109,y110,y111,y112,y113,y114,y115,y116,y117,y118,y119,y120,y121,y122,y123,y124,y125,y126,y127,y128,y129,y130,y131,y132,y133,y134,y135,y136,y137,y138,y139,y140,y141,y142,y143,y144,y145,y146,y147,y148,y149,y150,y151,y152,y153,y154,y155,y156,y157,y158,y159,y160,y161,y162,y163,y164,y165,y166,y167,y168,y169,y170,y171,y172,y173,y174,y175,y176,y177,y178,y179,y180,y181,y182,y183,y184,y185,y186,y187,y188,y189,y190,y191,y192,y193,y194,y195,y196,y197,y198,y199,y200,y201,y202,y203,y204,y205,y206,y207,y208,y209,y210,y211,y212,y213,y214,y215,y216,y217,y218,y219,y220,y221,y222,y223,y224,y225,y226,y227,y228,y229,y230,y231,y232,y233,y234,y235,y236],[]⟩ w') :
  ca.wp prog (Exit.then K Q) ⟨#[x0,x1,x2,x3,x4,slice AE es.length cE,x6,x7,x8,x9,x10,x11,x12,x13,x14,pointer (some ⟨q,0,none⟩),x16,pointer (some ⟨g17,0,none⟩),x18,x19,x20,x21,x22,x23,x24,x25,x26,x27,x28,x29,x30,x31,x32,x33,x34,x35,x36,x37,x38,x39,x40,x41,x42,x43,x44,x45,x46,x47,x48,x49,x50,x51,x52,x53,x54,x55,x56,x57,x58,x59,x60,x61,x62,x63,x64,x65,x66,x67,x68,x69,x70,x71,x72,x73,x74,x75,x76,x77,x78,x79,x80,x81,x82,x83,x84,x85,x86,x87,x88,x89,x90,x91,x92,x93,x94,x95,x96,x97,x98,x99,x100,x101,x102,x103,x104,x105,x106,x107,x108,x109,x110,x111,x112,x113,x114,x115,x116,x117,x118,x119,x120,x121,x122,x123,x124,x125,x126,x127,x128,x129,x130,x131,x132,x133,x134,x135,x136,x137,x138,x139,x140,x141,x142,x143,x144,x145,x146,x147,x148,x149,x150,x151,x152,x153,x154,x155,x156,x157,x158,x159,x160,x161,x162,x163,x164,x165,x166,x167,x168,x169,x170,x171,x172,x173,x174,x175,x176,x177,x178,x179,x180,x181,x182,x183,x184,x185,x186,x187,x188,x189,x190,x191,x192,x193,x194,x195,x196,x197,x198,x199,x200,x201,x202,x203,x204,x205,x206,x207,x208,x209,x210,x211,x212,x213,x214,x215,x216,x217,x218,x219,x220,x221,x222,x223,x224,x225,x226,x227,x228,x229,x230,x231,x232,x233,x234,x235,x236],[]⟩ w:=by
 injection hC with hC;injection hC with hC1 hC2;subst hC1 hC2;have HQ:=Zh hQ;have HVW:=Zh (J.view h R hs hk);have PART:=Zh (fun (wx:World) (I':Hp) (l':List HP) (hst:St W I' wx (Zd p S::imgHP q p h::l'))=>ipart_first h R hst J hk hx);have HOLD:=Zh (fun (wx:World) (I':Hp) (l':List HP) (hst:St W I' wx (Zd p S::imgHP q p h::l'))=>ihold_there h R ⟨#[103]⟩ hst J (by decide +kernel) hx);have FREE:=Zh (fun (wx:World) (I':Hp) (l':List HP) (hst:St W I' wx (Zd p S::imgHP q p h::l'))=>ifree_spec h R hst J hk hmk hx);have hfv:viewI (freeH h) (freeR h R)=viewI h R:=(free_view J.img).2;have hfh:=free_held h;have HVB:=Zh (VwB.view J.hd);have HV:=Zh hv;have HB0:=Zh hvb;have HE:=Zh hE;have HNM:=Zh hnm;obtain ⟨V1,hV1⟩:∃ x,viewI h R=x:=⟨_,rfl⟩;rw [hV1] at HVW HVB hvw hfv;have HFO:=Zh hvw;obtain ⟨h2,hh2⟩:∃ x,freeH h=x:=⟨_,rfl⟩;obtain ⟨R2,hR2⟩:∃ x,freeR h R=x:=⟨_,rfl⟩;rw [hh2,hR2] at FREE hfv;rw [hh2] at hfh;obtain ⟨F1,hF1⟩:∃ x,imgHP q p h=x:=⟨_,rfl⟩;rw [hF1] at HVW PART HOLD FREE;have HFV:=Zh hfv;have HFH:=Zh hfh;clear hs J hk hmk hx hv hvb hE hnm hvw hQ hfv hfh hV1 hh2 hR2 hF1;go_wp2_with fail;refine HVW.o.mono ?_;rintro e w2 ⟨I2,v,hs2,rfl,hv2,h2s⟩;obtain ⟨A2,n2,c2,B2,m2,d2,rfl,hn2⟩:=ZhL hv2;dsimp only;have h3:=h2s.alloc (cells #[slice A2 n2 c2,slice B2 m2 d2] 35);obtain ⟨g25,hg25⟩:∃ g,w2.heap.size=g:=⟨_,rfl⟩;rw [hg25] at h3;have HG:=Zh hg25;have H3:=Zh h3;have HV2:=Zh hv2;have HS2:=Zh hs2;clear h2s h3 hg25 hv2 hs2 hn2 HVW;go_upto_region 33 with fail;rw [HG.o];have h3:=H3.o;generalize (World.alloc _ _:World)=w3 at h3 |-;have HPT:=Zh (PART.o _ _ _ ((h3.pull 2 _ rfl).pull 2 _ rfl));simp only [Zx,Zy] at HPT;clear h3 H3 HG PART;go_wp2_with fail;refine HPT.o.mono ?_;rintro e w4 ⟨I4,A4,n4,c4,er,hs4,rfl,her,h4⟩;dsimp only;have HHO:=Zh (HOLD.o _ _ _ h4);have H4:=Zh h4;have HS4:=Zh (HS2.o.trans hs4);have HV4:=Zh (HV2.o.mono hs4);have d1:(er==4)=false:=by simpa using her
 clear h4 hs4 her HPT HV2 HOLD;go_wp2_with fail;refine HHO.o.mono ?_;rintro e w5 ⟨rfl,hb5⟩;dsimp only;have HFR:=Zh (FREE.o _ _ _ (H4.o.keep hb5));clear hb5 HHO H4 FREE;go_wp2_with fail;refine HFR.o.mono ?_;rintro e w6 ⟨I6,hs6,rfl,S6,h6,J6,hk6⟩;dsimp only;have FR2:=Zh (ifree_none h2 R2 h6 J6 HFH.o);have H6:=Zh h6;have HJ6:=Zh J6;have HK6:=Zh hk6;have HS6:=Zh (HS4.o.trans hs6);have HV6:=Zh (HV4.o.mono hs6);clear h6 J6 hk6 hs6 HFR HV4;go_wp2_with fail;refine FR2.o.mono ?_;rintro e w7 ⟨rfl,hb7⟩;dsimp only;have h7:=H6.o.keep hb7;have HHE:=Zh (ZnR h2 (fun x hx=>(Mk.named_size (HJ6.o.ok.names x hx)).1) HFH.o (ZQ HJ6.o.ok.many (by decide)) (h7.pull 1 _ rfl));have H7:=Zh h7;clear hb7 h7 FR2 H6;go_wp2_with fail;refine HHE.o.mono ?_;rintro e w8 ⟨rfl,hb8⟩;dsimp only;have h8:=H7.o.keep hb8;have HVX:=Zh (HJ6.o.view h2 R2 h8 HK6.o);rw [HFV.o] at HVX;clear hb8 h8 HHE H7;go_wp2_with fail;refine HVX.o.mono ?_;rintro e w9 ⟨I9,v,hs9,rfl,hv9,h9⟩;obtain ⟨A9,n9,c9,B9,m9,d9,rfl,hn9⟩:=ZhL hv9;dsimp only;have h10:=h9.alloc (cells #[slice A9 n9 c9,slice B9 m9 d9] 35);obtain ⟨g29,hg29⟩:∃ g,w9.heap.size=g:=⟨_,rfl⟩;rw [hg29] at h10;have HG:=Zh hg29;have H10:=Zh h10;have HV9:=Zh hv9;have HS9:=Zh (HS6.o.trans hs9);have HW6:=Zh (HV6.o.mono hs9);clear h9 h10 hg29 hv9 hs9 hn9 HVX HV6;go_upto_region 37 with fail;rw [HG.o];have h10:=H10.o;generalize (World.alloc _ _:World)=w10 at h10 |-;have HPN:=Zh (ipart_none h2 R2 0 0 ((h10.pull 2 _ rfl).pull 2 _ rfl) HJ6.o HFH.o);have H11:=Zh h10;clear h10 H10 HG;go_wp2_with fail;refine HPN.o.mono ?_;rintro e w11 ⟨rfl,hb11⟩;dsimp only;have h11:=H11.o.keep hb11;have hcq:∀ (w':World) (I':Hp),St W I' w' (pt g29 (cells #[slice A9 n9 c9,slice B9 m9 d9] 35)::Zd p S6::imgHP q p h2::pt g25 (cells #[slice A2 n2 c2,slice B2 m2 d2] 35)::pt g17 (cells #[slice A dl cA,slice B ml cB] 35)::l)->(w'.cell? ⟨g29,0,none⟩=some (slice A9 n9 c9)∧w'.cell? ⟨g29,1,none⟩=some (slice B9 m9 d9)∧w'.cell? ⟨g25,0,none⟩=some (slice A2 n2 c2)∧w'.cell? ⟨g25,1,none⟩=some (slice B2 m2 d2)∧w'.cell? ⟨g17,0,none⟩=some (slice A dl cA)∧w'.cell? ⟨g17,1,none⟩=some (slice B ml cB)):=fun w' I' q1=>⟨(Zq q1).1,(Zq q1).2,(Zq (q1.pull 3 _ rfl)).1,(Zq (q1.pull 3 _ rfl)).2,(Zq (q1.pull 4 _ rfl)).1,(Zq (q1.pull 4 _ rfl)).2⟩;have HCQ:=Zh hcq;have H12:=Zh h11;clear h11 hb11 HPN H11 hcq;go_upto_region 38 with fail;have h12:=H12.o.drew;obtain ⟨w12,hw12⟩:=Zn w11.drew;rw [<-hw12] at h12;have HW12:=Zh hw12;have Q12:=Zh (HCQ.o _ _ h12);have HSX:=Zh (Zkn V1 _ _ h12 HW6.o HV9.o (by have:=HVB.o.few;omega));have H13:=Zh h12;clear h12 hw12 H12
 refine ZcY (fun w'=>w'.cell? ⟨g29,0,none⟩=some (slice A9 n9 c9)∧w'.cell? ⟨g29,1,none⟩=some (slice B9 m9 d9)∧w'.cell? ⟨g25,0,none⟩=some (slice A2 n2 c2)∧w'.cell? ⟨g25,1,none⟩=some (slice B2 m2 d2)∧w'.cell? ⟨g17,0,none⟩=some (slice A dl cA)∧w'.cell? ⟨g17,1,none⟩=some (slice B ml cB)) [0,1,2,3,4,5,6,7,8,9,10,11,12,13,14,15,16,17,18,19,20] (Tp.pull [0,1,2,3,4,5,6,7,8] (Tp.one 9 (Tp.pull [10,11,12,13,14] (Tp.one 15 (Tp.one 16 (Tp.pull [17,18] (Tp.one 19 (Tp.pull [20] Tp.leaf)))))))) [21] (by kernel_rfl) (by kernel_rfl) (by (rw [<-HW12.o];exact Q12.o)) ?_;rw [<-HW12.o];unfold wpTp
 (try simp only [pickL,Zg,Zi])
 repeat (first|refine Zs _ (Or.inl ⟨by rfl,by (intro w hSw;(try dsimp only at hSw);go_simp;try with_reducible rfl)⟩) ?_|refine Zs _ (Or.inr ⟨by rfl,rfl⟩) ?_|fail);(try go_frame)
 refine ZC ?_;unfold wpTp
 (try simp only [pickL,Zg,Zi])
 go_wp2_with fail;refine HSX.o.mono ?_;rintro e w13 ⟨rfl,hb13⟩;dsimp only;have h13:=H13.o.keep hb13;have Q13:=Zh (HCQ.o _ _ h13);have HFX:=Zh (ZnX es V _ _ h13 (HV.o.mono HS9.o) HB0.o (HE.o.mono HS9.o) HNM.o);rw [<-HFO.o] at HFX;have H14:=Zh h13;clear h13 hb13 HSX H13 Q12;go_wp2;refine Zt Q13.o ?_;unfold wpTp
 (try simp only [pickL,Zg,Zi])
 repeat (first|refine Zs _ (Or.inl ⟨by rfl,by (intro w hSw;(try dsimp only at hSw);go_simp;try with_reducible rfl)⟩) ?_|refine Zs _ (Or.inr ⟨by rfl,rfl⟩) ?_|fail);(try go_frame)
 refine ZC ?_;unfold wpTp
 (try simp only [pickL,Zg,Zi])
 go_wp2_with fail;refine HFX.o.mono ?_;rintro e w14 ⟨I14,hs14,v14,rfl,hv14,h14⟩;obtain ⟨A14,n14,c14,B14,m14,d14,rfl,hn14⟩:=ZhL hv14;dsimp only;have Q14:=Zh (HCQ.o _ _ h14);have HSY:=Zh (Zkn V1 _ _ h14 (HV9.o.mono hs14) hv14 (by have:=HVB.o.few;omega));have H15:=Zh h14;clear h14 hs14 hv14 hn14 HFX H14 Q13;go_wp2;refine Zt Q14.o ?_;unfold wpTp
 (try simp only [pickL,Zg,Zi])
 go_wp2_with fail;refine HSY.o.mono ?_;rintro e w15 ⟨rfl,hb15⟩;dsimp only;have h15:=H15.o.keep hb15;have Q15:=Zh (HCQ.o _ _ h15);have HKN:=Zh (ZjB h15);clear h15 hb15 HSY H15 Q14;go_wp2;refine Zt Q15.o ?_;unfold wpTp
 (try simp only [pickL,Zg,Zi])
 repeat (first|refine Zs _ (Or.inl ⟨by rfl,by (intro w hSw;(try dsimp only at hSw);go_simp;try with_reducible rfl)⟩) ?_|refine Zs _ (Or.inr ⟨by rfl,rfl⟩) ?_|fail);(try go_frame)
 refine ZC ?_;unfold wpTp
 (try simp only [pickL,Zg,Zi])
 go_wp2_with fail;refine HKN.o.mono ?_;rintro e w16 ⟨I16,hs16,rfl,h16⟩;dsimp only;have Q16:=Zh (HCQ.o _ _ h16);have HB:=Zh h16.below;clear h16 hs16 HKN Q15;go_wp2;refine Zt Q16.o ?_;unfold wpTp
 (try simp only [pickL,Zg,Zi])
 repeat (first|refine Zs _ (Or.inl ⟨by rfl,by (intro w hSw;(try dsimp only at hSw);go_simp;try with_reducible rfl)⟩) ?_|refine Zs _ (Or.inr ⟨by rfl,rfl⟩) ?_|fail);(try go_frame)
 refine ZC ?_;unfold wpTp
 (try simp only [pickL,Zg,Zi])
 go_wp2;refine Zu ?_;go_wp2_with fail;exact HQ.o _ _ _ _ _ _ _ _ _ _ _ _ _ _ _ _ _ _ _ _ _ _ _ _ _ _ _ _ _ _ _ _ _ _ _ _ _ _ _ _ _ _ _ _ _ _ _ _ _ _ _ _ _ _ _ _ _ _ _ _ _ _ _ _ _ _ _ _ _ _ _ _ _ _ _ _ _ _ _ _ _ _ _ _ _ _ _ _ _ _ _ _ _ _ _ _ _ _ _ _ _ _ _ _ _ _ _ _ _ _ _ _ _ _ _ _ _ _ _ _ _ _ _ _ _ _ _ _ _ _ _ _ _ _ _ _ _ _ _ _ _ _ _ _ _ _ _ _ _ _ _ _ _ _ _ _ _ _ _ _ _ _ _ _ _ _ _ _ _ _ _ _ _ _ _ _ _ _ _ _ _ _ _ _ _ _ _ _ _ _ _ _ _ _ _ _ _ _ _ _ _ _ _ _ _ _ _ _ _ _ _ _ _ _ _ _ _ _ _ _ _ _ _ _ _ _ _ _ _ _ _ _ _ _ _ _ _ HB.o
end
end Go.Proofs.YtcbdghojlbpomaaGreat
namespace Go.Proofs.YtcbdghojlbpomaaGreat
open Tryz
open HP (pt mapOf)
open Go.IntKind (i64 u64)
open Go.Value (int pointer slice)
open Go.Obj (cells)
open Go.RowKit
theorem no_hold {ms:List Mk} (h:heldM ms=none):∀ m ∈ ms,holdN m.name=false:=fun m hm=>by
 have:=Zfo.1 h m hm;simpa using this
theorem DoR.nohold {h h':Hd} {R R':List RO} {e:Ev} {seq ans:Int} (D:DoR h R e seq ans h' R') (h0:heldM h.marks=none):heldM h'.marks=none:=by
 unfold DoR at D;split at D
 ·obtain ⟨_,rfl,_⟩:=D;exact h0
 ·rename_i c0;have hr:ZU e=true:=by
   cases q:ZU e with
   | true=>rfl
   | false=>exact absurd (.inl q) c0
  split at D
  ·obtain ⟨_,rfl,_⟩:=D;exact h0
  ·split at D
   ·split at D
    ·obtain ⟨_,rfl,_⟩:=D;exact h0
    ·obtain ⟨_,rfl,_⟩:=D;exact h0
   ·split at D
    ·obtain ⟨_,rfl,_⟩:=D;exact h0
    ·split at D
     ·obtain ⟨_,rfl,_⟩:=D;unfold ZaG;by_cases k4:e.kind=4
      ·rw [Zb k4];exact h0
      rw [Za k4];by_cases k5:e.kind=5
      ·rw [Zb k5];have hn:nameB e.name=true:=by
        rcases (Zbl e).1 hr with q|q|q|q|q
        ·omega
        ·omega
        ·omega
        ·exact q.2.2.2.2
        ·omega
       show heldM (h.marks++[⟨h.next,e.name,h.size,false⟩])=none;rw [ZmE,h0];show (if holdN e.name=true then _ else _)=_;rw [Zi1 hn,Za (by simp)]
      rw [Za k5];by_cases k6:e.kind=6
      ·rw [Zb k6];show heldM (ZaV _ _ h.marks)=none;rw [ZiC fun m hm _=>no_hold h0 m hm];exact h0
      ·rw [Za k6];exact h0
     ·split at D
      ·obtain ⟨_,rfl,_⟩:=D;exact h0
      ·obtain ⟨_,rfl,_⟩:=D;exact h0
end Go.Proofs.YtcbdghojlbpomaaGreat
