import Derived.Test.YtpjchngjhijgmaaGreatJP35
set_option linter.all false
set_option maxRecDepth 4000
set_option maxHeartbeats 8000000
open Go.RowKit
open Go.IntKind (i64 u64)
open Go.Value (int pointer slice)
open Go.Obj (cells)
namespace Go.Proofs.YtpjchngjhijgmaaGreat
open Tryz
open HP (pt mapOf)
variable {W w w':World} {I:Hp} {l:List HP}
def rFin (R:RJ) (f:Fl) (d:List Int):RJ:={ R with fill:=f,en:=R.en+1,l:=R.l++[⟨tagOf R.chain (R.en+1),R.en+1,d⟩] }
section
variable {q : Nat} {R : RJ}
theorem ZlT {ca cb:Code} {Q:Exit->Act->World->Prop} {K:Act->World->Prop} (hK:∀ x y,cb.wp prog Q x y->K x y) (hC:(f114).body.bind (fromR 10)=some (.seq ca cb)) {x2 x3 x4 x5 x7 x8 x9 x10 x11 x12 x13 x14 x15 x16 x17 x18 x19 x20 x21 x22 x23 x24 x25 x26 x27 x28 x29 x30 x31 x32 x33 x34 x35 x36 x37 x38 x39 x40 x41 x42 x43 x44 x45 x46 x47 x48 x49 x50 x51 x52 x53 x54 x55 x56 x57 x58 x59 x60 x61 x62 x63 x64 x65 x66 x67 x68 x69 x70 x71 x72 x73 x74 x75 x76 x77 x78 x79 x80 x81 x82 x83 x84 x85 x86 x87 x88 x89 x90 x91 x92 x93 x94 x95 x96 x97 x98 x99 x100 x101 x102 x103 x104 x105 x106 x107 x108 x109 x110 x111 x112 x113 x114 x115 x116:Value} {Ad:Option Addr} {cd g6:Nat} {d:List Int} {f:Fl} {V:RV}
  (h:St W I w (pt g6 (cells #[int i64 f.set,int i64 f.u0,int i64 f.u1,int i64 f.u2,int i64 f.u3] 108)::rjBlk q R V::Zo V.vl R.l::l)) (hr:rjI R V I) (hd:BytesI I (slice Ad d.length cd) d) (hdb:∀ y ∈ d,isByte y) (hdl:d.length<=90) (he:0<=R.en∧R.en<=4611686018427387904) (hl:R.l.length<=1000000) (ht:R.chain.length<=1000)
  (hQ:∀ (y0 y1 y2 y3 y6 y7 y8 y9 y10 y11 y12 y13 y14 y15 y16 y17 y18 y19 y20 y21 y22 y23 y24 y25 y26 y27 y28 y29 y30 y31 y32 y33 y34 y35 y36 y37 y38 y39 y40 y41 y42 y43 y44 y45 y46 y47 y48 y49 y50 y51 y52 y53 y54 y55 y56 y57 y58 y59 y60 y61 y62 y63 y64 y65 y66 y67 y68 y69 y70 y71 y72 y73 y74 y75 y76 y77 y78 y79 y80 y81 y82 y83 y84 y85 y86 y87 y88 y89 y90 y91 y92 y93 y94 y95 y96 y97 y98 y99 y100 y101 y102 y103 y104 y105 y106 y107 y108 y109 y110 y111 y112 y113 y114 y115 y116:Value) (I':Hp) (w':World),I.sub I'->St W I' w' (rjHP q (rFin R f d)::l)->Q .ret ⟨#[y0,y1,y2,y3,int i64 (R.en+1),int i64 0,y6,y7,y8,y9,y10,y11,y12,y13,y14,y15,y16,y17,y18,y19,y20,y21,y22,y23,y24,y25,y26,y27,y28,y29,y30,y31,y32,y33,y34,y35,y36,y37,y38,y39,y40,y41,y42,y43,y44,y45,y46,y47,y48,y49,y50,y51,y52,y53,y54,y55,y56,y57,y58,y59,y60,y61,y62,y63,y64,y65,y66,y67,y68,y69,y70,y71,y72,y73,y74,y75,y76,y77,y78,y79,y80,y81,y82,y83,y84,y85,y86,y87,y88,y89,y90,y91,y92,y93,y94,y95,y96,y97,y98,y99,y100,y101,y102,y103,y104,y105,y106,y107,y108,y109,y110,y111,y112,y113,y114,y115,y116],[]⟩ w') :
  ca.wp prog (Exit.then K Q) ⟨#[pointer (some ⟨q,0,none⟩),slice Ad d.length cd,x2,x3,x4,x5,pointer (some ⟨g6,0,none⟩),x7,x8,x9,x10,x11,x12,x13,x14,x15,x16,x17,x18,x19,x20,x21,x22,x23,x24,x25,x26,x27,x28,x29,x30,x31,x32,x33,x34,x35,x36,x37,x38,x39,x40,x41,x42,x43,x44,x45,x46,x47,x48,x49,x50,x51,x52,x53,x54,x55,x56,x57,x58,x59,x60,x61,x62,x63,x64,x65,x66,x67,x68,x69,x70,x71,x72,x73,x74,x75,x76,x77,x78,x79,x80,x81,x82,x83,x84,x85,x86,x87,x88,x89,x90,x91,x92,x93,x94,x95,x96,x97,x98,x99,x100,x101,x102,x103,x104,x105,x106,x107,x108,x109,x110,x111,x112,x113,x114,x115,x116],[]⟩ w:=by
 injection hC with hC;injection hC with hC1 hC2;subst hC1 hC2;obtain ⟨c,sets,fill,rl,en,sf,ch,cl⟩:=R;obtain ⟨vs,vl,vt,vc⟩:=V;obtain ⟨At,ct,e3,_⟩:=id hr.2.1;obtain ⟨Al,kl,e4,_⟩:=(h.pull 2 _ rfl).ents_slice;simp only at e3 e4 he hl ht hQ;subst e3 e4;obtain ⟨x0,x1,x2,x3,x4⟩:=Z8 h;obtain ⟨y4,y5,y6,y7,y8⟩:=Zgy (h.pull 1 _ rfl);obtain ⟨_,_,_,_,_,y10,_⟩:=Zad (h.pull 1 _ rfl);simp only at y4 y5 y6 y7 y8 y10;have lt:=(h.pull 1 _ rfl).lt;have lg:=h.lt;have fr:=frozen_of_row (h.pull 1 _ rfl).heap;have w1:IntKind.i64.wrap (en+1)=en+1:=by rw [Zx];omega
 have h2:St W I ((((((w.setCell ⟨q,4,none⟩ (int i64 f.set)).setCell ⟨q,5,none⟩ (int i64 f.u0)).setCell ⟨q,6,none⟩ (int i64 f.u1)).setCell ⟨q,7,none⟩ (int i64 f.u2)).setCell ⟨q,8,none⟩ (int i64 f.u3)).setCell ⟨q,10,none⟩ (int i64 (en+1))) (rjBlk q ⟨c,sets,f,rl,en+1,sf,ch,cl⟩ ⟨vs,slice Al rl.length kl,slice At ch.length ct,vc⟩::Zo (slice Al rl.length kl) rl::l):=((((((h.pull 1 _ rfl).setCell 4 (int i64 f.set)).setCell 5 (int i64 f.u0)).setCell 6 (int i64 f.u1)).setCell 7 (int i64 f.u2)).setCell 8 (int i64 f.u3)).setCell 10 (int i64 (en+1)) |>.pull 1 _ rfl |>.drop;have HR:=Zh (show rjI ⟨c,sets,f,rl,en+1,sf,ch,cl⟩ ⟨vs,slice Al rl.length kl,slice At ch.length ct,vc⟩ I from hr);have HD:=Zh hd;have HDB:=Zh hdb;have HQ:=Zh hQ;obtain ⟨n,hn⟩:=Zn d.length;rw [<-hn] at hdl |-;have HN:=Zh hn;obtain ⟨nt,hnt⟩:=Zn ch.length;obtain ⟨nl,hnl⟩:=Zn rl.length;rw [<-hnt] at ht;rw [<-hnl] at hl h2;have H2:=Zh h2;have HNT:=Zh hnt;have HNL:=Zh hnl;clear h h2 hr hd hdb hQ hn hnt hnl;go_upto_region 12 with fail;have h2:=H2.o;generalize (World.setCell _ _ _:World)=w2 at h2 |-;clear x0 x1 x2 x3 x4 y4 y5 y6 y7 y8 y10 lt lg fr H2
 have HC:=Zh (show ∀ (I':Hp) (w':World) (L:List HP),St W I' w' (rjBlk q ⟨c,sets,f,rl,en+1,sf,ch,cl⟩ ⟨vs,slice Al nl kl,slice At ch.length ct,vc⟩::L)->(w'.cell? ⟨q,9,none⟩=some (slice Al nl kl)∧w'.cell? ⟨q,10,none⟩=some (int i64 (en+1))∧w'.cell? ⟨q,12,none⟩=some (slice At nt ct)) from fun I' w' L h'=>by
  obtain ⟨_,_,_,_,k9,k10,_,k12,_⟩:=Zad h'
  exact ⟨k9,k10,by rw [HNT.o];exact k12⟩)
 have H2:=Zh h2.drew;clear h2;refine Ze2 (fun w'=>w'.cell? ⟨q,9,none⟩=some (slice Al nl kl)∧w'.cell? ⟨q,10,none⟩=some (int i64 (en+1))∧w'.cell? ⟨q,12,none⟩=some (slice At nt ct)) [0,1,2,3,4,5,6,7,8,9,10,11,12,13,14,15,16,17,18,19,20,21,22,23] (Tp.pull [0,1,2,3,4,5,6,7,8,9,10,11,12,14,15,16,17,19] (Tp.two 13 (Tp.one 18 (Tp.one 20 (Tp.pull [21] (Tp.one 22 (Tp.one 23 Tp.leaf))))) 18 (Tp.one 13 (Tp.one 20 (Tp.pull [21] (Tp.one 22 (Tp.one 23 Tp.leaf))))))) [24,25,26] (by kernel_rfl) (by kernel_rfl) (by (exact HC.o _ _ _ H2.o)) ?_;obtain ⟨w0,hw0⟩:=Zn w2.drew;rw [<-hw0] at H2 |-;clear hw0;unfold wpTp
 (try simp only [pickL,Zg,Zi])
 repeat (first|refine ZM _ (Or.inl ⟨by rfl,by (intro w hSw;(try dsimp only at hSw);go_simp;try with_reducible rfl)⟩) ?_|refine ZM _ (Or.inr ⟨by rfl,rfl⟩) ?_|fail);(try go_frame)
 refine Z7 ?_;unfold wpTp
 (try simp only [pickL,Zg,Zi])
 have HTA:=Zh (show ∀ (w':World) (L:List HP),St W I w' L->TagsAt w' At nt ch from fun w' L h'=>by
  obtain ⟨A,c,e,_,h9⟩:=ZbM h' HR.o.2.1;simp only [Zz] at e;obtain ⟨rfl,_,_⟩:=e;rw [HNT.o]
  exact h9)
 have h3:=H2.o.row_bare 5 1;obtain ⟨g3,hg3⟩:=Zn w0.heap.size;obtain ⟨w3,hw3⟩:=Zn (w0.alloc (cells #[] 5));rw [<-hg3,<-hw3] at h3;obtain ⟨v4,w4,hr4,h4⟩:=St.bytes_append 46 h3 (RowI.src HD.o h3.imm (Zcb d) (by omega)) (by rw [<-HN.o];omega);rw [ZX,Zu] at h4;obtain ⟨A4,c4,rfl⟩:=ZA h4.row_owns;rw [<-HN.o] at hr4;have H3:=Zh h3;have H4:=Zh h4;have HR4:=Zh hr4;have HG3:=Zh hg3;have HW3:=Zh hw3;have HTG:=Zh (fun (w':World) (L:List HP) (h':St W I w' L)=>ZhN At nt ct ch (en+1) w' (HTA.o _ _ h') (by omega));obtain ⟨tg,htg⟩:=Zn (tagOf ch (en+1));rw [<-htg] at HTG;have HTGE:=Zh htg;clear h3 h4 hr4 hg3 hw3 htg HTA;refine ⟨?o1,?o2⟩
 case' o1 =>
  have HT1:=Zh (HTG.o _ _ H2.o);go_wp2_with fail;refine HT1.o.mono ?_;rintro e w' ⟨rfl,rfl⟩;clear HT1;go_wp2;refine Zm (HC.o _ _ _ H2.o) ?_;unfold wpTp
  (try simp only [pickL,Zg,Zi])
  go_wp2_with fail;rw [<-HG3.o,<-HW3.o];refine Zm (HC.o _ _ _ (H3.o.pull 1 _ rfl)) ?_;unfold wpTp
  (try simp only [pickL,Zg,Zi])
 case' o2 =>
  go_wp2_with fail;rw [<-HG3.o,<-HW3.o];refine Zm (HC.o _ _ _ (H3.o.pull 1 _ rfl)) ?_;unfold wpTp
  (try simp only [pickL,Zg,Zi])
  have HT1:=Zh (HTG.o _ _ H3.o);go_wp2_with fail;refine HT1.o.mono ?_;rintro e w' ⟨rfl,rfl⟩;clear HT1;go_wp2;refine Zm (HC.o _ _ _ (H3.o.pull 1 _ rfl)) ?_;unfold wpTp
  (try simp only [pickL,Zg,Zi])
 all_goals
  go_wp2_with (at_builtin;refine ZZ _ rfl (.tmp 105) (.tmp 106) 46 46 rfl _ _ rfl rfl _ _ HR4.o ?_);refine Zm (HC.o _ _ _ (H4.o.pull 1 _ rfl)) ?_;clear HG3 HW3 H3 HR4 HTG H2;obtain ⟨I5,s5,hr5,h5⟩:=H4.o.freeze_row;have h6:=h5.alloc (cells #[int i64 tg,int i64 (en+1),slice A4 n c4] 50);obtain ⟨g6,hg6⟩:=Zn w4.heap.size;obtain ⟨w6,hw6⟩:=Zn (w4.alloc (cells #[int i64 tg,int i64 (en+1),slice A4 n c4] 50));rw [<-hg6,<-hw6] at h6;have hB:BytesI I5 (slice A4 n c4) d:=by
   have:=hr5;rw [<-HN.o] at this;show RowI I5 1 (slice A4 n c4) d.length (d.map byteV);rw [<-HN.o];exact this
  obtain ⟨A7,c7,w7,hr7,h7⟩:=(h6.pull 2 _ rfl).ents_append2 (e:=⟨tg,en+1,d⟩) hB HDB.o (by rw [<-HNL.o];omega);rw [<-HNL.o] at hr7 h7;have H6:=Zh (h6.pull 1 _ rfl);have H7:=Zh (h7.pull 2 _ rfl);have HR7:=Zh hr7;have S5:=Zh s5;clear hr5 h5 h6 hB h7 hr7 s5 H4;unfold wpTp
  (try simp only [pickL,Zg,Zi])
  repeat (first|refine ZM _ (Or.inl ⟨by rfl,by (intro w hSw;(try dsimp only at hSw);go_simp;try with_reducible rfl)⟩) ?_|refine ZM _ (Or.inr ⟨by rfl,rfl⟩) ?_|fail);(try go_frame)
  refine Z7 ?_;unfold wpTp
  (try simp only [pickL,Zg,Zi])
  go_wp2_with fail;rw [<-hg6,<-hw6];clear hg6 hw6;refine Zm (HC.o _ _ _ H6.o) ?_;unfold wpTp
  (try simp only [pickL,Zg,Zi])
  go_wp2_with (at_builtin;refine ZZ _ rfl (.tmp 91) (.tmp 109) 58 58 rfl _ _ rfl rfl _ _ HR7.o ?_);refine Zm (HC.o _ _ _ H7.o) ?_;unfold wpTp
  (try simp only [pickL,Zg,Zi])
  obtain ⟨_,_,_,_,x9,_,_,_,_,lt⟩:=Zad H7.o;simp only at x9;have fr:=frozen_of_row H7.o.heap;have h8:St W I5 (w7.setCell ⟨q,9,none⟩ (slice A7 (nl+1) c7)) (rjBlk q (rFin ⟨c,sets,fill,rl,en,sf,ch,cl⟩ f d) ⟨vs,slice A7 (nl+1) c7,slice At ch.length ct,vc⟩::Zo (slice A7 (nl+1) c7) (rl++[⟨tg,en+1,d⟩])::l):=((H7.o.setCell 9 (slice A7 (nl+1) c7)).pull 2 _ rfl).drop;rw [HTGE.o] at h8;have H8:=Zh (St.rj_shut (V:=⟨vs,slice A7 (nl+1) c7,slice At ch.length ct,vc⟩) (R:=rFin ⟨c,sets,fill,rl,en,sf,ch,cl⟩ f d) (HR.o.mono S5.o) h8);clear h8 H6 H7 HR7;go_wp2;refine Zw ?_;go_wp2_with fail;exact HQ.o _ _ _ _ _ _ _ _ _ _ _ _ _ _ _ _ _ _ _ _ _ _ _ _ _ _ _ _ _ _ _ _ _ _ _ _ _ _ _ _ _ _ _ _ _ _ _ _ _ _ _ _ _ _ _ _ _ _ _ _ _ _ _ _ _ _ _ _ _ _ _ _ _ _ _ _ _ _ _ _ _ _ _ _ _ _ _ _ _ _ _ _ _ _ _ _ _ _ _ _ _ _ _ _ _ _ _ _ _ _ _ _ _ _ _ I5 _ S5.o H8.o
end
section
variable {q : Nat} {R : RJ}
theorem St.sets_append {v v2:Value} {n m:Nat} {xs ys:List Value} (ty:TypeId) (h:St W I w (HP.row 159 1 v n xs::l)) (hs:SliceSrc w 1 v2 m ys) (hb:n+m<=1000000000) :
  ∃ v' w',(Builtin.append_ #[160,160] ty #[v,v2]).run prog w=.ok v' w'∧St W I w' (HP.row 159 1 v' (n+m) (xs++ys)::l):=by
 obtain ⟨A,c,rfl,hsrc,hA⟩:=hs;obtain ⟨i0,hi0,hz0,hz1,hz2⟩:=info_parts Zqa;obtain ⟨v',w',hr,ho',hgr,hv'⟩:=Zds (P:=prog) w 0 160 ty 159 i0 _ 1 8 underlying160 hi0 hz0 hz1 hz2 rfl (by decide) v n xs h.row_owns A m c ys hsrc hA (by unfold maxLen;omega) (by omega) (ZL _);exact ⟨v',w',hr,h.row_grown ho' hgr hv'⟩
theorem Zti {g:Nat} {x:Int} {t:TypeId} {f:Nat × Nat} (h:St W I w (pt g (cells #[int i64 x] t f)::l)):SliceSrc w 1 (slice (some ⟨g,0,none⟩) 1 1) 1 [int i64 x]:=by
 refine ⟨_,_,rfl,⟨rfl,fun _=>⟨_,rfl,fun j u hu=>?_⟩,fun u hu=>?_⟩,fun e=>by cases e⟩
 ·rw [add_plain,ZX,Zc h.heap j,<-hu];simp
 ·rw [Zbj.1 hu];rfl
theorem Zn8 (Ad:Option Addr) (cd:Nat) (d:List Int) (h:St W I w (rjHP q R::l)) (hd:BytesI I (slice Ad d.length cd) d) (hdb:∀ y ∈ d,isByte y) (he:0<=R.en∧R.en<=4611686018427387904) (hs:R.sets.length<=1000000) (hl:R.l.length<=1000000) (ht:R.chain.length<=1000) :
  Calls prog 114 #[pointer (some ⟨q,0,none⟩),slice Ad d.length cd] w fun e w'=>∃ I',I.sub I'∧e=.returned (.tuple #[int i64 (Zbe R d).1.1,int i64 (Zbe R d).1.2])∧St W I' w' (rjHP q (Zbe R d).2::l):=by
 obtain ⟨⟨⟨rn,re⟩,RR⟩,hRR⟩:∃ x,x=Zbe R d:=⟨_,rfl⟩;rw [<-hRR];unfold Zbe rWhy at hRR;have HRR:=Zh hRR;obtain ⟨n,hnn⟩:=Zn d.length;rw [<-hnn] at HRR |-;have HNN:=Zh hnn;have HD:=Zh hd;have HDB:=Zh hdb;have hdm:n<=maxLen:=by
  obtain ⟨A,c,e,_,h3,h4,_⟩:=hd;simp only [Zz] at e;omega
 unfold maxLen at hdm;have HH:=Zh h;obtain ⟨en,hen⟩:=Zn R.en;rw [<-hen] at HRR he;have HEN:=Zh hen;obtain ⟨V,hr,h1⟩:=h.rj_open;have hcells:=Zad h1;rw [<-hen] at hcells;obtain ⟨_,_,_,_,_,x10,_,_,_,lt⟩:=hcells;simp only;clear h hd hdb hRR hnn hen hr h1;go_enter func114,ntmps114;by_cases b1:n<1
 ·have d1:decide ((n:Int)<1)=true:=Zt (by omega);have HX:=Zh (HRR.o.trans (by rw [Zb (show (n:Int)<1∨90<(n:Int) by omega),Za (by decide)]));simp only [Zv] at HX;go_wp2;go_ret2;obtain ⟨⟨rfl,rfl⟩,rfl⟩:=HX.o;exact ⟨I,Hp.sub.refl _,rfl,HH.o⟩
 have d1:decide ((n:Int)<1)=false:=Zq (by omega);by_cases b2:90<n
 ·have d2:decide (90<(n:Int))=true:=Zt (by omega);have HX:=Zh (HRR.o.trans (by rw [Zb (show (n:Int)<1∨90<(n:Int) by omega),Za (by decide)]));simp only [Zv] at HX;go_wp2;go_ret2;obtain ⟨⟨rfl,rfl⟩,rfl⟩:=HX.o;exact ⟨I,Hp.sub.refl _,rfl,HH.o⟩
 have d2:decide (90<(n:Int))=false:=Zq (by omega);by_cases b3:1099511627776<=en
 ·have d3:decide (1099511627776<=en)=true:=Zt b3;have HX:=Zh (HRR.o.trans (by rw [Za (show ¬ ((n:Int)<1∨90<(n:Int)) by omega),Zb b3,Za (by decide)]));simp only [Zv] at HX;go_wp2;go_ret2;obtain ⟨⟨rfl,rfl⟩,rfl⟩:=HX.o;exact ⟨I,Hp.sub.refl _,rfl,HH.o⟩
 have d3:decide (1099511627776<=en)=false:=Zq b3;have HX:=Zh (HRR.o.trans (by rw [Za (show ¬ ((n:Int)<1∨90<(n:Int)) by omega),Za b3]));clear HRR;go_upto_region 5 with fail;obtain ⟨V,hr,h1⟩:=HH.o.rj_open;have HR:=Zh hr;have H1:=Zh h1
 have HMK:=Zh (show ∀ w' L,St W I w' (rjBlk q R V::L)->(w'.cell? ⟨q,0,none⟩=some (int i64 R.c.splay)∧w'.cell? ⟨q,1,none⟩=some (int i64 R.c.sets)∧w'.cell? ⟨q,2,none⟩=some (int i64 R.c.size)∧w'.cell? ⟨q,10,none⟩=some (int i64 en)∧w'.cell? ⟨q,4,none⟩=some (int i64 R.fill.set)∧w'.cell? ⟨q,5,none⟩=some (int i64 R.fill.u0)∧w'.cell? ⟨q,6,none⟩=some (int i64 R.fill.u1)∧w'.cell? ⟨q,7,none⟩=some (int i64 R.fill.u2)∧w'.cell? ⟨q,8,none⟩=some (int i64 R.fill.u3)) from fun w' L h'=>by
  obtain ⟨k0,k1,k2,_,_,k10,_⟩:=Zad h'
  exact ⟨k0,k1,k2,by rw [HEN.o];exact k10,Zgy h'⟩)
 obtain ⟨⟨⟨s1,v0,v1,v2,v3⟩,⟨ps,po⟩,nx,ok⟩,hrr⟩:∃ r,rput R.c R.fill (en+1) n=r:=⟨_,rfl⟩;have hrp:=ZlO R.c R.fill (en+1) n;have HPU:=Zh (show rPut R n=(⟨s1,v0,v1,v2,v3⟩,⟨ps,po⟩,nx,ok) by unfold rPut;rw [<-HEN.o];exact hrr);rw [hrr] at hrp;unfold Rg.val Fl.val Pl.val at hrp;simp only at hrp;have HRP:=Zh hrp;have w2:IntKind.i64.wrap (en+1)=en+1:=by rw [Zx];omega
 have h90:n<=90:=by omega
 clear h1 hr hrr hrp b1 b2 b3 d1 d2 d3 x10 lt HH;refine Zca (fun w'=>w'.cell? ⟨q,0,none⟩=some (int i64 R.c.splay)∧w'.cell? ⟨q,1,none⟩=some (int i64 R.c.sets)∧w'.cell? ⟨q,2,none⟩=some (int i64 R.c.size)∧w'.cell? ⟨q,10,none⟩=some (int i64 en)∧w'.cell? ⟨q,4,none⟩=some (int i64 R.fill.set)∧w'.cell? ⟨q,5,none⟩=some (int i64 R.fill.u0)∧w'.cell? ⟨q,6,none⟩=some (int i64 R.fill.u1)∧w'.cell? ⟨q,7,none⟩=some (int i64 R.fill.u2)∧w'.cell? ⟨q,8,none⟩=some (int i64 R.fill.u3)) [(0,false),(1,false),(2,false),(3,false),(4,false),(5,false),(6,false),(7,false),(8,false),(9,false),(10,false),(11,false),(12,false),(13,false),(14,false),(15,false),(16,false),(17,false),(18,true),(19,true),(20,true)] [21,22] [23,24,25,26] (by kernel_rfl) (by kernel_rfl) (by (intro w' hb;exact HMK.o _ _ (H1.o.drew.keep hb))) ?_;repeat (first|refine ZaH (by rfl) _ (by rfl) (by intro w;go_simp;try with_reducible rfl) ?_|refine ZaK (by rfl) _ (by rfl) (by (intro w hSw;(try dsimp only at hSw);go_simp;try with_reducible rfl)) ?_|refine ZaI (by rfl) (by rfl) ?_|fail);(try go_frame)
 refine Zb2 (by rfl) (.tuple #[.agg #[int i64 s1,int i64 v0,int i64 v1,int i64 v2,int i64 v3],.agg #[int i64 ps,int i64 po],.bool nx,.bool ok]) (60) (#[.agg #[int i64 R.c.splay,int i64 R.c.sets,int i64 R.c.size],.agg #[int i64 R.fill.set,int i64 R.fill.u0,int i64 R.fill.u1,int i64 R.fill.u2,int i64 R.fill.u3],int i64 (en+1),int i64 n]) (by rfl) (by intro w;go_simp;try with_reducible rfl) (by (rintro w1 _;exact HRP.o w1)) ?_
 (try go_frame)
 repeat (first|refine ZaH (by rfl) _ (by rfl) (by intro w;go_simp;try with_reducible rfl) ?_|refine ZaK (by rfl) _ (by rfl) (by (intro w hSw;(try dsimp only at hSw);go_simp;try with_reducible rfl)) ?_|refine ZaI (by rfl) (by rfl) ?_|fail);(try go_frame)
 refine Zce ?_;refine Zfw (by rfl) (by rfl) (fun g=>pointer (some ⟨g,0,none⟩)) (fun g=>pointer (some ⟨g,0,none⟩)) (cells #[int i64 0,int i64 0,int i64 0,int i64 0,int i64 0] 108) (cells #[int i64 0,int i64 0] 41) (by rfl) (by rfl) (by intro w;go_simp;try with_reducible rfl) (by intro w;go_simp;try with_reducible rfl) ?_;intro g6 g7;rintro w9 hz9;obtain ⟨hb9,l8,l9,hne⟩:=hz9.two (by decide);have h9:=H1.o.drew.fresh2 hb9 l8 l9 hne;clear hz9 hb9 l8 l9 H1 HRP;have f8:=frozen_of_row h9.heap;have f9:=frozen_of_row (h9.pull 1 _ rfl).heap;obtain ⟨b5,b6⟩:g6<w9.heap.size∧g7<w9.heap.size:=⟨h9.lt,(h9.pull 1 _ rfl).lt⟩;obtain ⟨y0,y1,y2,y3,y4⟩:=Z8 h9;obtain ⟨z0,z1⟩:=Zaz (h9.pull 1 _ rfl);have H9:=Zh h9;clear h9;go_wp2;refine Zw ?_;have h10:=((((H9.o.set5 (int i64 s1) (int i64 v0) (int i64 v1) (int i64 v2) (int i64 v3)).pull 1 _ rfl).set2 (int i64 ps) (int i64 po)).drop.pull 1 _ rfl);generalize (World.setCell _ _ _:World)=w10 at h10 |-;clear y0 y1 y2 y3 y4 z0 z1 f8 f9 H9 b5 b6;obtain ⟨vs,vl,vt,vc⟩:=V;obtain ⟨As,cs,e2,_⟩:=id HR.o.1;simp only at e2;subst e2;obtain ⟨ms,hms⟩:=Zn R.sets.length;have hcells:=Zad h10;rw [<-hms] at hcells;obtain ⟨_,x1,_,x3,_,_,_,_,_,lt⟩:=hcells;have HMS:=Zh hms;have H10:=Zh h10;obtain ⟨cse,hcse⟩:=Zn R.c.sets;rw [<-hcse] at x1;have HX2:=HX.o;rw [HPU.o,<-hcse,<-hms] at HX2;simp only at HX2;have HXX:=Zh HX2;clear h10 hms HX2 HX hcse;by_cases b6:nx=true∧cse<=(ms:Int)
 ·obtain ⟨rfl,b7⟩:=b6;have d7:decide (cse<=(ms:Int))=true:=Zt b7;have HY:=Zh (HXX.o.trans (by rw [Zb (show true=true∧cse<=(ms:Int) from ⟨rfl,b7⟩),Za (show ¬ ((6:Int)=0) by decide)]));simp only [Zv] at HY;clear HXX;go_upto_region 6 with fail;go_quiet (fail);go_wp2;go_ret2;obtain ⟨⟨rfl,rfl⟩,rfl⟩:=HY.o;exact ⟨I,Hp.sub.refl _,rfl,St.rj_shut HR.o ((H10.o.drewN _).pull 1 _ rfl).drop⟩
 ·have HY:=Zh (HXX.o.trans (by rw [Za b6,Zb (show (0:Int)=0 from rfl)]));simp only [Zv] at HY;clear HXX;cases nx with
  | false =>
   go_upto_region 6 with fail;go_quiet (fail);go_upto_region 10 with fail;obtain rfl:=HNN.o;refine ZlT (R:=R) (f:=⟨s1,v0,v1,v2,v3⟩) (d:=d) (V:=⟨slice As R.sets.length cs,vl,vt,vc⟩) (by assumption) (by kernel_rfl) ((H10.o.drewN _).pull 1 _ rfl) HR.o HD.o HDB.o ?_ ?_ hl ht ?_
   ·exact h90
   ·rw [<-HEN.o];exact he
   ·intro y0 y1 y2 y3 y6 y7 y8 y9 y10 y11 y12 y13 y14 y15 y16 y17 y18 y19 y20 y21 y22 y23 y24 y25 y26 y27 y28 y29 y30 y31 y32 y33 y34 y35 y36 y37 y38 y39 y40 y41 y42 y43 y44 y45 y46 y47 y48 y49 y50 y51 y52 y53 y54 y55 y56 y57 y58 y59 y60 y61 y62 y63 y64 y65 y66 y67 y68 y69 y70 y71 y72 y73 y74 y75 y76 y77 y78 y79 y80 y81 y82 y83 y84 y85 y86 y87 y88 y89 y90 y91 y92 y93 y94 y95 y96 y97 y98 y99 y100 y101 y102 y103 y104 y105 y106 y107 y108 y109 y110 y111 y112 y113 y114 y115 y116 I2 w2 s2 h2;go_ret2;obtain ⟨⟨rfl,rfl⟩,rfl⟩:=HY.o;have e1:rFin R ⟨s1,v0,v1,v2,v3⟩ d=rAdd R d:=by unfold rFin rAdd;rw [HPU.o];rfl
    rw [e1] at h2;exact ⟨I2,s2,by rw [HEN.o];rfl,h2⟩
  | true =>
   have d7:decide (cse<=(ms:Int))=false:=Zq fun q=>b6 ⟨rfl,q⟩;go_upto_region 6 with fail;go_quiet (fail);go_upto_region 9 with fail
   have HC:=Zh (show ∀ (I':Hp) (w':World) (L:List HP),St W I' w' (rjBlk q R ⟨slice As R.sets.length cs,vl,vt,vc⟩::L)->(w'.cell? ⟨q,3,none⟩=some (slice As ms cs)∧w'.cell? ⟨q,10,none⟩=some (int i64 en)) from fun I' w' L h'=>by
    obtain ⟨_,_,_,k3,_,k10,_⟩:=Zad h'
    exact ⟨by rw [HMS.o];exact k3,by rw [HEN.o];exact k10⟩)
   have h11:=(H10.o.drewN nq).drew;obtain ⟨w0,hw0⟩:=Zn ((w10.drewN nq).drew);rw [<-hw0] at h11;have H11:=Zh h11;clear h11;refine Ze2 (fun w'=>w'.cell? ⟨q,3,none⟩=some (slice As ms cs)∧w'.cell? ⟨q,10,none⟩=some (int i64 en)) [0,1,2,3,4,5,6,7,8,9,10,11,12,13,14] (Tp.pull [0,2,3,4,5,7,8,9,10,11,12] (Tp.two 1 (Tp.two 6 (Tp.one 13 (Tp.one 14 Tp.leaf)) 13 (Tp.one 6 (Tp.one 14 Tp.leaf))) 13 (Tp.one 1 (Tp.one 6 (Tp.one 14 Tp.leaf))))) [15,16,17] (by kernel_rfl) (by kernel_rfl) (by (rw [<-hw0];exact HC.o _ _ _ H11.o)) ?_;rw [<-hw0];clear hw0;unfold wpTp
   (try simp only [pickL,Zg,Zi])
   repeat (first|refine ZM _ (Or.inl ⟨by rfl,by (intro w hSw;(try dsimp only at hSw);go_simp;try with_reducible rfl)⟩) ?_|refine ZM _ (Or.inr ⟨by rfl,rfl⟩) ?_|fail);(try go_frame)
   refine Z7 ?_;unfold wpTp
   (try simp only [pickL,Zg,Zi])
   have HRS:=Zh HR.o.1;have HBA:=Zh (fun (w':World) (L:List HP) (h':St W I w' L)=>h'.row_bare 159 1);have HAL:=Zh (fun (w':World) (L:List HP) (h':St W I w' L)=>h'.alloc (cells #[int i64 (en+1)] 159))
   have HAP:=Zh (show ∀ (g:Nat) (w':World) (L:List HP),St W I w' (HP.row 159 1 (slice (some ⟨g,0,none⟩) 0 0) 0 []::L)->∃ A c w'',(Builtin.append_ #[160,160] 160 #[slice (some ⟨g,0,none⟩) 0 0,slice As ms cs]).run prog w'=.ok (slice A ms c) w''∧St W I w'' (HP.row 159 1 (slice A ms c) ms (R.sets.map intV)::L) from fun g w' L h'=>by
    have hsr:=HR.o.1;rw [<-HMS.o] at hsr;obtain ⟨v,w'',hr,h2⟩:=St.sets_append 160 h' (hsr.src h'.imm (fun u hu=>by obtain ⟨x,_,rfl⟩:=Zam.1 hu;rfl) (by omega)) (by have:=HMS.o;omega);rw [ZX,Zu] at h2;obtain ⟨A,c,rfl⟩:=ZA h2.row_owns
    exact ⟨A,c,w'',hr,h2⟩)
   refine ⟨?o1,?o3⟩
   case' o1 =>
    have h1:=HBA.o _ _ H11.o;obtain ⟨g1,hg1⟩:=Zn w0.heap.size;obtain ⟨w1,hw1⟩:=Zn (w0.alloc (cells #[] 159));rw [<-hg1,<-hw1] at h1;have H1:=Zh h1;clear h1;go_wp2_with fail;rw [<-hg1,<-hw1];clear hg1 hw1;refine Zm (HC.o _ _ _ (H1.o.pull 1 _ rfl)) ?_;unfold wpTp
    (try simp only [pickL,Zg,Zi])
    refine ⟨?o4,?o5⟩
   case' o4 =>
    obtain ⟨A4,c4,w2,hr4,h4⟩:=HAP.o _ _ _ (H1.o);have H2:=Zh (h4);have HR4:=Zh hr4;clear h4 hr4;go_wp2_with (at_builtin;refine ZZ _ rfl (.tmp 60) (.tmp 64) 160 160 rfl _ _ rfl rfl _ _ HR4.o ?_);clear HR4;refine Zm (HC.o _ _ _ (H2.o.pull 1 _ rfl)) ?_;unfold wpTp
    (try simp only [pickL,Zg,Zi])
    have h9:=HAL.o _ _ H2.o;obtain ⟨g5,hg5⟩:=Zn w2.heap.size;obtain ⟨w5,hw5⟩:=Zn (w2.alloc (cells #[int i64 (en+1)] 159));rw [<-hg5,<-hw5] at h9;have H5:=Zh (h9.pull 1 _ rfl);clear h9;go_wp2_with fail;rw [<-hg5,<-hw5];clear hg5 hw5;refine Zm (HC.o _ _ _ (H5.o.pull 2 _ rfl)) ?_;unfold wpTp
    (try simp only [pickL,Zg,Zi])
   case' o5 =>
    have h9:=HAL.o _ _ H1.o;obtain ⟨g5,hg5⟩:=Zn w1.heap.size;obtain ⟨w2,hw5⟩:=Zn (w1.alloc (cells #[int i64 (en+1)] 159));rw [<-hg5,<-hw5] at h9;have H2:=Zh (h9.pull 1 _ rfl);clear h9;go_wp2_with fail;rw [<-hg5,<-hw5];clear hg5 hw5;refine Zm (HC.o _ _ _ (H2.o.pull 2 _ rfl)) ?_;unfold wpTp
    (try simp only [pickL,Zg,Zi])
    obtain ⟨A4,c4,w5,hr4,h4⟩:=HAP.o _ _ _ (H2.o);have H5:=Zh (h4);have HR4:=Zh hr4;clear h4 hr4;go_wp2_with (at_builtin;refine ZZ _ rfl (.tmp 60) (.tmp 64) 160 160 rfl _ _ rfl rfl _ _ HR4.o ?_);clear HR4;refine Zm (HC.o _ _ _ (H5.o.pull 2 _ rfl)) ?_;unfold wpTp
    (try simp only [pickL,Zg,Zi])
   case' o3 =>
    have h9:=HAL.o _ _ H11.o;obtain ⟨g5,hg5⟩:=Zn w0.heap.size;obtain ⟨w1,hw5⟩:=Zn (w0.alloc (cells #[int i64 (en+1)] 159));rw [<-hg5,<-hw5] at h9;have H1:=Zh (h9);clear h9;go_wp2_with fail;rw [<-hg5,<-hw5];clear hg5 hw5;refine Zm (HC.o _ _ _ (H1.o.pull 1 _ rfl)) ?_;unfold wpTp
    (try simp only [pickL,Zg,Zi])
    have h1:=HBA.o _ _ H1.o;obtain ⟨g1,hg1⟩:=Zn w1.heap.size;obtain ⟨w2,hw1⟩:=Zn (w1.alloc (cells #[] 159));rw [<-hg1,<-hw1] at h1;have H2:=Zh h1;clear h1;go_wp2_with fail;rw [<-hg1,<-hw1];clear hg1 hw1;refine Zm (HC.o _ _ _ (H2.o.pull 2 _ rfl)) ?_;unfold wpTp
    (try simp only [pickL,Zg,Zi])
    obtain ⟨A4,c4,w5,hr4,h4⟩:=HAP.o _ _ _ (H2.o);have H5:=Zh (h4);have HR4:=Zh hr4;clear h4 hr4;go_wp2_with (at_builtin;refine ZZ _ rfl (.tmp 60) (.tmp 64) 160 160 rfl _ _ rfl rfl _ _ HR4.o ?_);clear HR4;refine Zm (HC.o _ _ _ (H5.o.pull 2 _ rfl)) ?_;unfold wpTp
    (try simp only [pickL,Zg,Zi])
   all_goals
    clear HBA HAL HAP H11 H1 H2;obtain ⟨v6,w6,hr6,h6⟩:=St.sets_append 160 H5.o (Zti (H5.o.pull 1 _ rfl)) (by have:=HMS.o;omega);obtain ⟨A6,c6,rfl⟩:=ZA h6.row_owns;obtain ⟨I7,s7,hr7,h7⟩:=h6.freeze_row;have HR6:=Zh hr6;have H7:=Zh (h7.drop);have HR7:=Zh hr7;have S7:=Zh s7;clear hr6 h6 h7 hr7 s7 H5;go_wp2_with (at_builtin;refine ZZ _ rfl (.tmp 65) (.tmp 72) 160 160 rfl _ _ rfl rfl _ _ HR6.o ?_);clear HR6;refine Zm (HC.o _ _ _ H7.o) ?_;unfold wpTp
    (try simp only [pickL,Zg,Zi])
    obtain ⟨_,_,_,x3,_,_,_,_,_,lt⟩:=Zad H7.o;have fr:=frozen_of_row H7.o.heap;have h8:St W I7 (w6.setCell ⟨q,3,none⟩ (slice A6 (ms+1) c6)) (rjBlk q { R with sets:=R.sets++[en+1] } ⟨slice A6 (ms+1) c6,vl,vt,vc⟩::pt g6 (cells #[int i64 s1,int i64 v0,int i64 v1,int i64 v2,int i64 v3] 108)::Zo vl R.l::l):=H7.o.setCell 3 (slice A6 (ms+1) c6);have H8:=Zh h8
    have HR8:=Zh (show rjI { R with sets:=R.sets++[en+1] } ⟨slice A6 (ms+1) c6,vl,vt,vc⟩ I7 from ⟨by
     have e:(R.sets++[en+1]).length=ms+1:=by rw [Zs,<-HMS.o];rfl
     show RowI I7 1 (slice A6 (ms+1) c6) (R.sets++[en+1]).length ((R.sets++[en+1]).map intV);rw [e,Zbo]
     exact HR7.o,(HR.o.mono S7.o).2⟩)
    clear h8 H7;go_wp2;refine Zw ?_;clear x3 lt fr;have h8:=H8.o;generalize (World.setCell _ _ _:World)=w8 at h8 |-;clear H8;go_upto_region 10 with fail;obtain rfl:=HNN.o;refine ZlT (R:={ R with sets:=R.sets++[en+1] }) (f:=⟨s1,v0,v1,v2,v3⟩) (d:=d) (V:=⟨slice A6 (ms+1) c6,vl,vt,vc⟩) (by assumption) (by kernel_rfl) (h8.pull 1 _ rfl) HR8.o (RowI.mono S7.o HD.o) HDB.o h90 (by rw [<-HEN.o];exact he) hl ht ?_;intro y0 y1 y2 y3 y6 y7 y8 y9 y10 y11 y12 y13 y14 y15 y16 y17 y18 y19 y20 y21 y22 y23 y24 y25 y26 y27 y28 y29 y30 y31 y32 y33 y34 y35 y36 y37 y38 y39 y40 y41 y42 y43 y44 y45 y46 y47 y48 y49 y50 y51 y52 y53 y54 y55 y56 y57 y58 y59 y60 y61 y62 y63 y64 y65 y66 y67 y68 y69 y70 y71 y72 y73 y74 y75 y76 y77 y78 y79 y80 y81 y82 y83 y84 y85 y86 y87 y88 y89 y90 y91 y92 y93 y94 y95 y96 y97 y98 y99 y100 y101 y102 y103 y104 y105 y106 y107 y108 y109 y110 y111 y112 y113 y114 y115 y116 I2 w2 s2 h2;go_ret2;obtain ⟨⟨rfl,rfl⟩,rfl⟩:=HY.o;have e1:rFin { R with sets:=R.sets++[en+1] } ⟨s1,v0,v1,v2,v3⟩ d=rAdd R d:=by unfold rFin rAdd;rw [HPU.o,HEN.o];rfl
    rw [e1] at h2;exact ⟨I2,S7.o.trans s2,by rw [HEN.o];rfl,h2⟩
end
def lenOf:Option Value->Nat
 | some (slice _ n _)=>n
 | _=>0
section
variable {q : Nat} {R : RJ}
theorem Zqo (h:St W I w (rjHP q R::l)) (hne:R.sets≠[]) (hb:∀ x ∈ R.sets,0<=x∧x<=4611686018427387904) (hs:R.sets.length<=1000000) (hc:R.cls.length<=1000) (hl:R.l.length<=1000000) :
  Calls prog 119 #[pointer (some ⟨q,0,none⟩)] w fun e w'=>∃ I',I.sub I'∧e=.returned (int i64 ((R.l.length - (rLess R).l.length:Nat)))∧St W I' w' (rjHP q (rLess R)::l):=by
 obtain ⟨V,hr,h1⟩:=h.rj_open;obtain ⟨vs,vl,vt,vc⟩:=V;obtain ⟨Ac,cc,e4,_⟩:=id hr.2.2;obtain ⟨As0,cs0,e5,_⟩:=id hr.1;simp only at e4 e5;subst e4 e5;have HSL:=Zh (ZnF (slice Ac R.cls.length cc) R.cls h1 hr.2.2 (by omega));obtain ⟨P,hP⟩:=Zn (rPos R);have hPP:=hP;unfold rPos at hP;obtain ⟨sl,hsl⟩:=Zn (slowC R.cls);rw [<-hsl] at HSL hP;obtain ⟨least,ok⟩:=sl;simp only at HSL hP;obtain ⟨sf,hsf⟩:=Zn R.safe;obtain ⟨nc,hnc⟩:=Zn R.cls.length;rw [<-hsf] at hP;obtain ⟨_,_,_,_,_,_,x11,_,x13,lt⟩:=Zad h1;simp only at x13;rw [<-hsf] at x11;rw [<-hnc] at HSL x13;have HR:=Zh hr;have H1:=Zh h1;have HPP:=Zh hPP;have HP:=Zh hP;have HB:=Zh hb;have HNE:=Zh hne;clear h h1 hr hne hb hsl hsf hnc hPP hP;go_enter func119,ntmps119;go_wp2_with fail;refine HSL.o.mono ?_;rintro e w2 ⟨rfl,rfl⟩;dsimp only;clear HSL;clear x13;have key:(ok=true∧P=min sf least)∨(ok=false∧P=sf):=by
  have:=HP.o;cases ok with
  | true=>exact .inl ⟨rfl,this.trans (Zb rfl)⟩
  | false=>exact .inr ⟨rfl,this.trans (Za (by simp))⟩
 clear HP;rcases key with ⟨rfl,hP⟩|⟨rfl,hP⟩;all_goals
  go_wp2_with fail;rw [<-hP];clear hP;clear x11 lt;go_loopw [] (fun wr=>∃ (k cs:Nat) (As:Option Addr) (I':Hp),k<R.sets.length∧I.sub I'∧Za8 P R.sets=Za8 P (R.sets.drop k)∧rjI { R with sets:=R.sets.drop k } ⟨slice As (R.sets.length - k) cs,vl,vt,slice Ac R.cls.length cc⟩ I'∧St W I' wr (rjBlk q { R with sets:=R.sets.drop k } ⟨slice As (R.sets.length - k) cs,vl,vt,slice Ac R.cls.length cc⟩::Zo vl R.l::l)) (fun wr=>lenOf (wr.cell? ⟨q,3,none⟩));case atStart=>exact ⟨0,cs0,As0,I,ZgN.2 HNE.o,Hp.sub.refl _,by rw [Zdo],by rw [Zdo,Nat.sub_zero];exact HR.o,by rw [Zdo,Nat.sub_zero];exact H1.o⟩
  case round =>
   obtain ⟨k,cs,As,I2,hk,hs2,htr,hr2,hst⟩:=hrel;obtain ⟨m,hm⟩:=Zn (R.sets.length - k);rw [<-hm] at hr2 hst;have hml:m<=1000000:=by omega
   have HM:=Zh hm;obtain ⟨_,_,_,x3,_,_,_,_,_,lt⟩:=Zad hst;simp only at x3;by_cases hm1:1<m
   ·have d1:decide (1<(m:Int))=true:=Zt (by omega);obtain ⟨b1,hb1⟩:∃ b,R.sets[k+1]?=some b:=⟨_,Zy (by omega)⟩;have hI:IntsI I2 (slice As (R.sets.drop k).length cs) (R.sets.drop k):=by
     have:=hr2.1;simp only at this;rw [ZW,<-hm] at this |-;unfold IntsI;rw [ZW,<-hm];exact this
    obtain ⟨g,off,rfl,hxc⟩:=hI.cells (i:=1) (n:=b1) (by rw [Zbw];exact hb1);have y1:=hxc (Hp.sub.refl _) hst;have hbb:=HB.o b1 (ZaG hb1);clear hm;have w1:IntKind.i64.wrap (b1 - 1)=b1 - 1:=by rw [Zx];omega
    by_cases hp:b1 - 1<=P
    ·have d2:decide (b1 - 1<=P)=true:=Zt hp;have fr:=frozen_of_row hst.heap;have h5:=hst.row_bare 159 1
     have hsu:=(show RowI I2 1 (slice (some ⟨g,off,none⟩) m cs) m ((R.sets.drop k).map intV) by
      have:=hr2.1;simp only at this;rw [ZW,<-HM.o] at this
      exact this).suf (k:=1) (by omega)
     rw [Nat.one_mul,<-ZeY,List.drop_drop] at hsu;obtain ⟨v6,w6,hr6,h6⟩:=St.sets_append 160 h5 (hsu.src h5.imm (fun u hu=>by obtain ⟨x,_,rfl⟩:=Zam.1 hu;rfl) (by omega)) (by omega);rw [ZX,Zu] at h6;obtain ⟨A6,c6,rfl⟩:=ZA h6.row_owns;obtain ⟨I7,s7,hr7,h7⟩:=h6.freeze_row;obtain ⟨_,_,_,x3',_,_,_,_,_,lt'⟩:=Zad h7;simp only at x3';have fr':=frozen_of_row h7.heap;have hcs:¬ cs=1:=by
      obtain ⟨A',c',e',_,a3,_⟩:=hr2.1;simp only [Zz] at e' a3;obtain ⟨_,e2,e3⟩:=e';omega
     have HR6:=Zh hr6;have HR7:=Zh hr7;have H7:=Zh h7;have S7:=Zh (hs2.trans s7);have HTR:=Zh htr;have HR2:=Zh (hr2.mono s7);have HB1:=Zh hb1;clear hxc hI hb1 h5 hsu h6 h7 hr6 hr7 hst hr2 hs2 htr s7;go_wp2_with (at_builtin;refine ZZ _ rfl (.tmp 44) (.tmp 49) 160 160 rfl _ _ rfl rfl _ _ HR6.o ?_);have h8:St W I7 (w6.setCell ⟨q,3,none⟩ (slice A6 (m - 1) c6)) (rjBlk q { R with sets:=R.sets.drop (k+1) } ⟨slice A6 (m - 1) c6,vl,vt,slice Ac R.cls.length cc⟩::Zo vl R.l::l):=H7.o.setCell 3 (slice A6 (m - 1) c6)
     have HR8:=Zh (show rjI { R with sets:=R.sets.drop (k+1) } ⟨slice A6 (m - 1) c6,vl,vt,slice Ac R.cls.length cc⟩ I7 from ⟨by
      show RowI I7 1 (slice A6 (m - 1) c6) (R.sets.drop (k+1)).length ((R.sets.drop (k+1)).map intV);rw [ZW,show R.sets.length - (k+1)=m - 1 by have:=HM.o;omega]
      exact HR7.o,HR2.o.2⟩)
     have HTR2:=Zh (show Za8 P R.sets=Za8 P (R.sets.drop (k+1)) by
      rw [HTR.o];have hk1:k+1<R.sets.length:=by have:=HM.o;omega
      have hb1:=HB1.o;rw [Zy hk1] at hb1;have hb2:=Zey hb1
      rw [ZaS hk,ZaS hk1,hb2,Za8,Zb hp])
     have H8:=Zh h8;clear h8;go_roundw;case rel=>exact ⟨k+1,c6,A6,I7,by have:=HM.o;omega,S7.o,HTR2.o,by rw [show R.sets.length - (k+1)=m - 1 by have:=HM.o;omega];exact HR8.o,by rw [show R.sets.length - (k+1)=m - 1 by have:=HM.o;omega];exact H8.o⟩
     case measure =>
      have h9:=(Zad H8.o).2.2.2.1;simp only at h9;rw [h9,x3];show m - 1<m;omega
    ·have d2:decide (b1 - 1<=P)=false:=Zq hp
     have HTS:=Zh (show Za8 P R.sets=R.sets.drop k by
      have hk1:k+1<R.sets.length:=by have:=HM.o;omega
      rw [Zy hk1] at hb1;have hb2:=Zey hb1
      rw [htr,ZaS hk,ZaS hk1,hb2,Za8,Za hp])
     have HST:=Zh hst;have HR2:=Zh hr2;have HS2:=Zh hs2;obtain ⟨ak,hak⟩:∃ x,R.sets[k]?=some x:=⟨_,Zy hk⟩;have HA:=Zh (show (R.sets.drop k)[0]?=some ak by rw [Zbw];exact hak)
     have HAD:=Zh (show (R.sets.drop k).headD 0=ak by
      have:=Zy hk;rw [hak] at this;rw [ZaS hk]
      exact (Zey this).symm)
     clear hst hr2 hs2 hb1 hxc hI htr hak;go_upto_region 7 with fail;refine Zk5 (by assumption) (by kernel_rfl) HST.o HR2.o HA.o hl ?_;intro y0 y1 y3 y4 y5 y6 y7 y8 y9 y10 y11 y12 y13 y14 y15 y16 y17 y18 y19 y20 y21 y22 y23 y24 y25 y26 y27 y28 y29 y30 y31 y32 y33 y34 y35 y36 y37 y38 y39 y40 y41 y42 y43 y44 y45 y46 y47 y48 y49 y50 y51 y52 y53 y54 y55 y56 y57 y58 y59 y60 y61 y62 y63 y64 y65 y66 y67 y68 y69 y70 y71 y72 y73 y74 y75 y76 y77 y78 y79 y80 y81 y82 y83 y84 y85 y86 y87 y88 y89 w9 h9;go_ret;have e1:rLess R={ R with sets:=R.sets.drop k,l:=R.l.filter fun e=>decide (ak<=e.seq) }:=by
      unfold rLess;rw [<-HPP.o,HTS.o,HAD.o]
     rw [e1];exact ⟨I2,HS2.o,rfl,h9⟩
   ·have d1:decide (1<(m:Int))=false:=Zq (by omega)
    have HTS:=Zh (show Za8 P R.sets=R.sets.drop k by
     rw [htr,ZaS hk,ZbS (by have:=HM.o;omega)]
     rfl)
    have HST:=Zh hst;have HR2:=Zh hr2;have HS2:=Zh hs2;obtain ⟨ak,hak⟩:∃ x,R.sets[k]?=some x:=⟨_,Zy hk⟩;have HA:=Zh (show (R.sets.drop k)[0]?=some ak by rw [Zbw];exact hak)
    have HAD:=Zh (show (R.sets.drop k).headD 0=ak by
     have:=Zy hk;rw [hak] at this;rw [ZaS hk]
     exact (Zey this).symm)
    clear hst hr2 hs2 htr hak hm;go_upto_region 7 with fail;refine Zk5 (by assumption) (by kernel_rfl) HST.o HR2.o HA.o hl ?_;intro y0 y1 y3 y4 y5 y6 y7 y8 y9 y10 y11 y12 y13 y14 y15 y16 y17 y18 y19 y20 y21 y22 y23 y24 y25 y26 y27 y28 y29 y30 y31 y32 y33 y34 y35 y36 y37 y38 y39 y40 y41 y42 y43 y44 y45 y46 y47 y48 y49 y50 y51 y52 y53 y54 y55 y56 y57 y58 y59 y60 y61 y62 y63 y64 y65 y66 y67 y68 y69 y70 y71 y72 y73 y74 y75 y76 y77 y78 y79 y80 y81 y82 y83 y84 y85 y86 y87 y88 y89 w9 h9;go_ret;have e1:rLess R={ R with sets:=R.sets.drop k,l:=R.l.filter fun e=>decide (ak<=e.seq) }:=by
     unfold rLess;rw [<-HPP.o,HTS.o,HAD.o]
    rw [e1];exact ⟨I2,HS2.o,rfl,h9⟩
end
end Go.Proofs.YtpjchngjhijgmaaGreat
