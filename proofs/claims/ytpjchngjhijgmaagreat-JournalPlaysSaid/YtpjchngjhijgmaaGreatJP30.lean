import Derived.Lib.AppendStr
import Derived.Test.YtpjchngjhijgmaaGreatJP29
set_option linter.all false
set_option maxRecDepth 4000
set_option maxHeartbeats 8000000
open Go.RowKit
open Go.IntKind (i64 u64)
open Go.Value (int pointer slice)
open Go.Obj (cells)
namespace Go.Proofs.YtpjchngjhijgmaaGreat
section
variable {W w : World} {I : Hp} {l : List HP}
theorem Zka (c:Rg) (w:World):Calls Tryz.prog 95 #[c.val] w fun e w'=>e=.returned (.bool c.okB)∧Below w.heap.size w w':=by
 obtain ⟨a,b,c⟩:=c;unfold Rg.val;go_enter Tryz.func95,Tryz.ntmps95;go_wp2;all_goals
  go_ret;refine ⟨ret_bool (Zl9 ?_),ZS _ _⟩;simp only [Zk,Zbu,false_iff];omega
theorem Zru {ca cb:Code} {Q:Exit->Act->World->Prop} {K:Act->World->Prop} (hK:∀ x y,cb.wp Tryz.prog Q x y->K x y) (hC:(Tryz.f60).body.bind (fromR 9)=some (.seq ca cb)) {x0 x1 x6 x7 x10 x11 x12 x13 x14 x15 x16 x17 x18 x19 x20 x21 x22 x23 x24 x25 x26 x27 x28 x29 x30 x31 x32 x33 x34 x35 x36 x37 x38 x39 x40 x41 x42 x43 x44 x45 x46 x47 x48 x49 x50 x51 x52 x53 x54 x55 x56 x57 x58 x59 x60 x61 x62 x63 x64 x65 x66 x67 x68 x69 x70 x71 x72 x73 x74 x75 x76 x77 x78 x79 x80 x81 x82 x83 x84 x85 x86 x87 x88 x89 x90 x91 x92 x93 x94 x95 x96 x97 x98 x99 x100 x101 x102 x103 x104 x105 x106 x107 x108 x109:Value} {g4 g5 g8 g9:Nat} {a b sz s u0 u1 u2 u3 seq n:Int} {k:Nat}
  (h:St W I w (HP.pt g4 (cells #[int i64 a,int i64 b,int i64 sz] 26)::HP.pt g5 (cells #[int i64 s,int i64 u0,int i64 u1,int i64 u2,int i64 u3] 108)::HP.pt g8 (cells #[int i64 0,int i64 0,int i64 0,int i64 0,int i64 0] 108)::HP.pt g9 (cells #[int i64 0,int i64 0] 41)::l))
  (ha:1<=a∧a<=4) (ho:Int.tmod seq a=k) (hk:k<4) (hn:1<=n∧n<=90) (hu:0<=(⟨s,u0,u1,u2,u3⟩:Fl).get k∧(⟨s,u0,u1,u2,u3⟩:Fl).get k<=4096) (hc:(⟨s,u0,u1,u2,u3⟩:Fl).get k+(n+22)<=sz)
  (hQ:∀ (y0 y1 y2 y3 y4 y5 y6 y7 y12 y13 y14 y15 y16 y17 y18 y19 y20 y21 y22 y23 y24 y25 y26 y27 y28 y29 y30 y31 y32 y33 y34 y35 y36 y37 y38 y39 y40 y41 y42 y43 y44 y45 y46 y47 y48 y49 y50 y51 y52 y53 y54 y55 y56 y57 y58 y59 y60 y61 y62 y63 y64 y65 y66 y67 y68 y69 y70 y71 y72 y73 y74 y75 y76 y77 y78 y79 y80 y81 y82 y83 y84 y85 y86 y87 y88 y89 y90 y91 y92 y93 y94 y95 y96 y97 y98 y99 y100 y101 y102 y103 y104 y105 y106 y107 y108 y109:Value) (w':World),St W I w' (HP.pt g8 (cells ((⟨s,u0,u1,u2,u3⟩:Fl).put k ((⟨s,u0,u1,u2,u3⟩:Fl).get k+(n+22))).cells 108)::HP.pt g9 (cells #[int i64 s,int i64 k] 41)::l)->Q .ret ⟨#[y0,y1,y2,y3,y4,y5,y6,y7,pointer (some ⟨g8,0,none⟩),pointer (some ⟨g9,0,none⟩),.bool false,.bool true,y12,y13,y14,y15,y16,y17,y18,y19,y20,y21,y22,y23,y24,y25,y26,y27,y28,y29,y30,y31,y32,y33,y34,y35,y36,y37,y38,y39,y40,y41,y42,y43,y44,y45,y46,y47,y48,y49,y50,y51,y52,y53,y54,y55,y56,y57,y58,y59,y60,y61,y62,y63,y64,y65,y66,y67,y68,y69,y70,y71,y72,y73,y74,y75,y76,y77,y78,y79,y80,y81,y82,y83,y84,y85,y86,y87,y88,y89,y90,y91,y92,y93,y94,y95,y96,y97,y98,y99,y100,y101,y102,y103,y104,y105,y106,y107,y108,y109],[]⟩ w') :
  ca.wp Tryz.prog (Exit.then K Q) ⟨#[x0,x1,int i64 seq,int i64 n,pointer (some ⟨g4,0,none⟩),pointer (some ⟨g5,0,none⟩),x6,x7,pointer (some ⟨g8,0,none⟩),pointer (some ⟨g9,0,none⟩),x10,x11,x12,x13,x14,x15,x16,x17,x18,x19,x20,x21,x22,x23,x24,x25,x26,x27,x28,x29,x30,x31,x32,x33,x34,x35,x36,x37,x38,x39,x40,x41,x42,x43,x44,x45,x46,x47,x48,x49,x50,x51,x52,x53,x54,x55,x56,x57,x58,x59,x60,x61,x62,x63,x64,x65,x66,x67,x68,x69,x70,x71,x72,x73,x74,x75,x76,x77,x78,x79,x80,x81,x82,x83,x84,x85,x86,x87,x88,x89,x90,x91,x92,x93,x94,x95,x96,x97,x98,x99,x100,x101,x102,x103,x104,x105,x106,x107,x108,x109],[]⟩ w:=by
 injection hC with hC;injection hC with hC1 hC2;subst hC1 hC2;obtain ⟨x0,x1,x2⟩:=Zak h;obtain ⟨f,hf⟩:∃ f:Fl,f=⟨s,u0,u1,u2,u3⟩:=⟨_,rfl⟩;have h1:=h.pull 1 _ rfl;have y:=ZdS h1 hk;rw [<-hf] at y hu hc hQ;obtain ⟨u,hu0⟩:=Zn (f.get k);rw [<-hu0] at y hu hc hQ;have f5:=frozen_of_row h1.heap;have ha0:¬ a=0:=by omega
 have hd:decide (u+(n+22)<=sz)=true:=Zt hc;have hw0:IntKind.i64.wrap (k:Int)=k:=by rw [Zx];omega
 have hw1:IntKind.i64.wrap (n+22)=n+22:=by rw [Zx];omega
 have hw2:IntKind.i64.wrap (u+(n+22))=u+(n+22):=by rw [Zx];omega
 have HF:=Zh hf;have HU:=Zh hu0;have HQ:=Zh hQ;have H1:=Zh h1;clear h h1 hQ hf hc ha hu hu0 hn;go_upto_region 11 with fail;go_quiet (fail);have h2:=H1.o.drewN nq;generalize (World.drewN _ _:World)=w3 at h2 |-;clear x0 x1 x2 y f5;have y:=ZdS h2 hk;rw [<-HF.o,<-HU.o] at y;have f5:=frozen_of_row h2.heap;have H2:=Zh h2;clear h2;go_upto_region 13 with fail;have h3:=ZgB (x:=u+(n+22)) H2.o hk;rw [<-HF.o] at h3;generalize (World.setCell _ _ _:World)=w4 at h3 |-;obtain ⟨fq,hfq⟩:=Zn (f.put k (u+(n+22)));have hqs:fq.set=s:=by rw [hfq,HF.o];unfold Fl.put;(repeat' split) <;> rfl
 rw [<-hfq] at h3;have HFQ:=Zh hfq;obtain ⟨q,q0,q1,q2,q3⟩:=fq;obtain rfl:q=s:=hqs;simp only [Fl.cells] at h3;clear hfq y f5;obtain ⟨x0,x1,x2,x3,x4⟩:=Z8 h3;have h4:=h3.pull 2 _ rfl;obtain ⟨y0,y1,y2,y3,y4⟩:=Z8 h4;obtain ⟨z0,z1⟩:=Zaz (h3.pull 3 _ rfl);have f8:=frozen_of_row h4.heap;have f9:=frozen_of_row (h3.pull 3 _ rfl).heap;have H3:=Zh h3;clear h3 h4;refine Zay (fun w'=>w'.cell? ⟨g5,0,none⟩=some (int i64 q)∧w'.cell? ⟨g5,1,none⟩=some (int i64 q0)∧w'.cell? ⟨g5,2,none⟩=some (int i64 q1)∧w'.cell? ⟨g5,3,none⟩=some (int i64 q2)∧w'.cell? ⟨g5,4,none⟩=some (int i64 q3)) [0,1,2,3,4] [5] [6,7,8] (by kernel_rfl) (by kernel_rfl) (by (exact ⟨x0,x1,x2,x3,x4⟩)) ?_;simp only [pickL,Zg,Zi];repeat (refine ZM _ (Or.inl ⟨by rfl,by (intro w hSw;(try dsimp only at hSw);go_simp;try with_reducible rfl)⟩) ?_;(try go_frame))
 refine Z7 ?_;unfold Zr;go_wp2_with fail;have h5:=((H3.o.pull 2 _ rfl).set5 (int i64 q) (int i64 q0) (int i64 q1) (int i64 q2) (int i64 q3)).drew;generalize (World.drew _:World)=w5 at h5 |-;clear x0 x1 x2 x3 x4 y0 y1 y2 y3 y4 z0 z1 f8 f9;obtain ⟨x0,x1,x2,x3,x4⟩:=Z8 (h5.pull 1 _ rfl);obtain ⟨z0,z1⟩:=Zaz (h5.pull 3 _ rfl);have f9:=frozen_of_row (h5.pull 3 _ rfl).heap;have H5:=Zh h5;clear h5;refine Zm ⟨x0,x1,x2,x3,x4⟩ ?_;unfold Zr;go_wp2_with fail;have h6:=(H5.o.pull 3 _ rfl).set2 (int i64 q) (int i64 k);generalize (World.setCell _ _ _:World)=w6 at h6 |-;have H6:=Zh h6;clear h6;refine Zw ?_;go_wp2_with fail;have h7:=(((H6.o.pull 2 _ rfl).drop).pull 2 _ rfl).drop;simp only [ZE,ZF] at h7;refine HQ.o _ _ _ _ _ _ _ _ _ _ _ _ _ _ _ _ _ _ _ _ _ _ _ _ _ _ _ _ _ _ _ _ _ _ _ _ _ _ _ _ _ _ _ _ _ _ _ _ _ _ _ _ _ _ _ _ _ _ _ _ _ _ _ _ _ _ _ _ _ _ _ _ _ _ _ _ _ _ _ _ _ _ _ _ _ _ _ _ _ _ _ _ _ _ _ _ _ _ _ _ _ _ _ _ _ _ _ ?_;rw [<-HFQ.o];simp only [Fl.cells];exact h7.perm (by ((try simp only [ZE,ZF,ZG,Zu]);repeat (first|with_reducible exact ZK _|(apply ZP;(· repeat (first|with_reducible exact ZO|with_reducible apply ZN))))))
theorem Zp9 {ca cb:Code} {Q:Exit->Act->World->Prop} {K:Act->World->Prop} (hK:∀ x y,cb.wp Tryz.prog Q x y->K x y) (hC:(Tryz.f60).body.bind (fromR 9)=some (.seq ca cb)) {x0 x1 x6 x7 x10 x11 x12 x13 x14 x15 x16 x17 x18 x19 x20 x21 x22 x23 x24 x25 x26 x27 x28 x29 x30 x31 x32 x33 x34 x35 x36 x37 x38 x39 x40 x41 x42 x43 x44 x45 x46 x47 x48 x49 x50 x51 x52 x53 x54 x55 x56 x57 x58 x59 x60 x61 x62 x63 x64 x65 x66 x67 x68 x69 x70 x71 x72 x73 x74 x75 x76 x77 x78 x79 x80 x81 x82 x83 x84 x85 x86 x87 x88 x89 x90 x91 x92 x93 x94 x95 x96 x97 x98 x99 x100 x101 x102 x103 x104 x105 x106 x107 x108 x109:Value} {g4 g5 g8 g9:Nat} {a b sz s u0 u1 u2 u3 seq n:Int} {k:Nat}
  (h:St W I w (HP.pt g4 (cells #[int i64 a,int i64 b,int i64 sz] 26)::HP.pt g5 (cells #[int i64 s,int i64 u0,int i64 u1,int i64 u2,int i64 u3] 108)::HP.pt g8 (cells #[int i64 0,int i64 0,int i64 0,int i64 0,int i64 0] 108)::HP.pt g9 (cells #[int i64 0,int i64 0] 41)::l))
  (ha:1<=a∧a<=4) (ho:Int.tmod seq a=k) (hk:k<4) (hn:1<=n∧n<=90) (hu:0<=(⟨s,u0,u1,u2,u3⟩:Fl).get k∧(⟨s,u0,u1,u2,u3⟩:Fl).get k<=4096) (hs:0<=s∧s<1073741824) (hc:¬ (⟨s,u0,u1,u2,u3⟩:Fl).get k+(n+22)<=sz)
  (hQ:∀ (y0 y1 y2 y3 y4 y5 y6 y7 y12 y13 y14 y15 y16 y17 y18 y19 y20 y21 y22 y23 y24 y25 y26 y27 y28 y29 y30 y31 y32 y33 y34 y35 y36 y37 y38 y39 y40 y41 y42 y43 y44 y45 y46 y47 y48 y49 y50 y51 y52 y53 y54 y55 y56 y57 y58 y59 y60 y61 y62 y63 y64 y65 y66 y67 y68 y69 y70 y71 y72 y73 y74 y75 y76 y77 y78 y79 y80 y81 y82 y83 y84 y85 y86 y87 y88 y89 y90 y91 y92 y93 y94 y95 y96 y97 y98 y99 y100 y101 y102 y103 y104 y105 y106 y107 y108 y109:Value) (w':World),St W I w' (HP.pt g8 (cells ((⟨s+1,0,0,0,0⟩:Fl).put k (n+22)).cells 108)::HP.pt g9 (cells #[int i64 (s+1),int i64 k] 41)::l)->Q .ret ⟨#[y0,y1,y2,y3,y4,y5,y6,y7,pointer (some ⟨g8,0,none⟩),pointer (some ⟨g9,0,none⟩),.bool true,.bool true,y12,y13,y14,y15,y16,y17,y18,y19,y20,y21,y22,y23,y24,y25,y26,y27,y28,y29,y30,y31,y32,y33,y34,y35,y36,y37,y38,y39,y40,y41,y42,y43,y44,y45,y46,y47,y48,y49,y50,y51,y52,y53,y54,y55,y56,y57,y58,y59,y60,y61,y62,y63,y64,y65,y66,y67,y68,y69,y70,y71,y72,y73,y74,y75,y76,y77,y78,y79,y80,y81,y82,y83,y84,y85,y86,y87,y88,y89,y90,y91,y92,y93,y94,y95,y96,y97,y98,y99,y100,y101,y102,y103,y104,y105,y106,y107,y108,y109],[]⟩ w') :
  ca.wp Tryz.prog (Exit.then K Q) ⟨#[x0,x1,int i64 seq,int i64 n,pointer (some ⟨g4,0,none⟩),pointer (some ⟨g5,0,none⟩),x6,x7,pointer (some ⟨g8,0,none⟩),pointer (some ⟨g9,0,none⟩),x10,x11,x12,x13,x14,x15,x16,x17,x18,x19,x20,x21,x22,x23,x24,x25,x26,x27,x28,x29,x30,x31,x32,x33,x34,x35,x36,x37,x38,x39,x40,x41,x42,x43,x44,x45,x46,x47,x48,x49,x50,x51,x52,x53,x54,x55,x56,x57,x58,x59,x60,x61,x62,x63,x64,x65,x66,x67,x68,x69,x70,x71,x72,x73,x74,x75,x76,x77,x78,x79,x80,x81,x82,x83,x84,x85,x86,x87,x88,x89,x90,x91,x92,x93,x94,x95,x96,x97,x98,x99,x100,x101,x102,x103,x104,x105,x106,x107,x108,x109],[]⟩ w:=by
 injection hC with hC;injection hC with hC1 hC2;subst hC1 hC2;obtain ⟨x0,x1,x2⟩:=Zak h;obtain ⟨f,hf⟩:∃ f:Fl,f=⟨s,u0,u1,u2,u3⟩:=⟨_,rfl⟩;have h1:=h.pull 1 _ rfl;have y:=ZdS h1 hk;rw [<-hf] at y hu hc;obtain ⟨u,hu0⟩:=Zn (f.get k);rw [<-hu0] at y hu hc;have f5:=frozen_of_row h1.heap;have ha0:¬ a=0:=by omega
 have hd:decide (u+(n+22)<=sz)=false:=Zq hc;have hw3:IntKind.i64.wrap (s+1)=s+1:=by rw [Zx];omega
 have hw0:IntKind.i64.wrap (k:Int)=k:=by rw [Zx];omega
 have hw1:IntKind.i64.wrap (n+22)=n+22:=by rw [Zx];omega
 have hw2:IntKind.i64.wrap (u+(n+22))=u+(n+22):=by rw [Zx];omega
 have HF:=Zh hf;have HU:=Zh hu0;have HQ:=Zh hQ;have H1:=Zh h1;clear h h1 hQ hf hc ha hu hu0 hn;go_upto_region 11 with fail;go_quiet (fail);have h2:=H1.o.drewN nq;generalize (World.drewN _ _:World)=w3 at h2 |-;clear x0 x1 x2 y f5;obtain ⟨y0,_⟩:=Z8 h2;have H2:=Zh h2;clear h2 hs;go_upto_region 15 with fail;have h3:=H2.o.alloc (cells #[int i64 (s+1),int i64 0,int i64 0,int i64 0,int i64 0] 108);obtain ⟨g16,hg16⟩:=Zn w3.heap.size;rw [<-hg16] at h3 |-;generalize (World.alloc _ _:World)=w4 at h3 |-;have f16:=frozen_of_row h3.heap;have y16:=ZdS h3 hk;have hl16:=h3.lt;have H3:=Zh h3;clear h3 y0 hg16 H2;go_upto_region 16 with fail;have h4:=ZgB (x:=n+22) H3.o hk;generalize (World.setCell _ _ _:World)=w5 at h4 |-;obtain ⟨fq,hfq⟩:=Zn ((⟨s+1,0,0,0,0⟩:Fl).put k (n+22));have hqs:fq.set=s+1:=by rw [hfq];unfold Fl.put;(repeat' split) <;> rfl
 rw [<-hfq] at h4;have HFQ:=Zh hfq;obtain ⟨q,q0,q1,q2,q3⟩:=fq;simp only at hqs;rw [<-hqs] at hw3 HQ HFQ;have HQS:=Zh hqs;simp only [Fl.cells] at h4;clear hqs hfq f16 hl16 y16;obtain ⟨x0,x1,x2,x3,x4⟩:=Z8 h4;have h5:=h4.pull 3 _ rfl;obtain ⟨y0,y1,y2,y3,y4⟩:=Z8 h5;obtain ⟨z0,z1⟩:=Zaz (h4.pull 4 _ rfl);have f8:=frozen_of_row h5.heap;have f9:=frozen_of_row (h4.pull 4 _ rfl).heap;have H4:=Zh h4;clear h4 h5;refine Zay (fun w'=>w'.cell? ⟨g16,0,none⟩=some (int i64 q)∧w'.cell? ⟨g16,1,none⟩=some (int i64 q0)∧w'.cell? ⟨g16,2,none⟩=some (int i64 q1)∧w'.cell? ⟨g16,3,none⟩=some (int i64 q2)∧w'.cell? ⟨g16,4,none⟩=some (int i64 q3)) [0,1,2,3,4] [5] [6,7,8] (by kernel_rfl) (by kernel_rfl) (by (exact ⟨x0,x1,x2,x3,x4⟩)) ?_;simp only [pickL,Zg,Zi];repeat (refine ZM _ (Or.inl ⟨by rfl,by (intro w hSw;(try dsimp only at hSw);go_simp;try with_reducible rfl)⟩) ?_;(try go_frame))
 refine Z7 ?_;unfold Zr;go_wp2_with fail;have h5:=((H4.o.pull 3 _ rfl).set5 (int i64 q) (int i64 q0) (int i64 q1) (int i64 q2) (int i64 q3)).drew;generalize (World.drew _:World)=w6 at h5 |-;clear x0 x1 x2 x3 x4 y0 y1 y2 y3 y4 z0 z1 f8 f9;obtain ⟨x0,x1,x2,x3,x4⟩:=Z8 (h5.pull 1 _ rfl);obtain ⟨z0,z1⟩:=Zaz (h5.pull 4 _ rfl);have f9:=frozen_of_row (h5.pull 4 _ rfl).heap;have H5:=Zh h5;clear h5;refine Zm ⟨x0,x1,x2,x3,x4⟩ ?_;unfold Zr;go_wp2_with fail;have h6:=(H5.o.pull 4 _ rfl).set2 (int i64 q) (int i64 k);generalize (World.setCell _ _ _:World)=w7 at h6 |-;have H6:=Zh h6;clear h6;refine Zw ?_;go_wp2_with fail;have h7:=((((H6.o.pull 2 _ rfl).drop).pull 2 _ rfl).drop.pull 2 _ rfl).drop;simp only [ZE,ZF] at h7;refine HQ.o _ _ _ _ _ _ _ _ _ _ _ _ _ _ _ _ _ _ _ _ _ _ _ _ _ _ _ _ _ _ _ _ _ _ _ _ _ _ _ _ _ _ _ _ _ _ _ _ _ _ _ _ _ _ _ _ _ _ _ _ _ _ _ _ _ _ _ _ _ _ _ _ _ _ _ _ _ _ _ _ _ _ _ _ _ _ _ _ _ _ _ _ _ _ _ _ _ _ _ _ _ _ _ _ _ _ _ ?_;rw [<-HFQ.o];simp only [Fl.cells];exact h7.perm (by ((try simp only [ZE,ZF,ZG,Zu]);repeat (first|with_reducible exact ZK _|(apply ZP;(· repeat (first|with_reducible exact ZO|with_reducible apply ZN))))))
theorem ZsB {c:Rg} {f:Fl} {seq n:Int} (h:c.okB=false∨f.okB c=false∨seq<1∨1099511627776<seq∨n<1∨90<n):rput c f seq n=(Fl.zero,⟨0,0⟩,false,false):=by
 unfold rput;rw [Zb h]
theorem Zrv {c:Rg} {f:Fl} {seq n:Int} (h1:c.okB=true) (h2:f.okB c=true) (h3:1<=seq∧seq<=1099511627776) (h4:1<=n∧n<=90):rput c f seq n=if f.get (seq % c.splay)+(n+22)<=c.size then (f.put (seq % c.splay) (f.get (seq % c.splay)+(n+22)),⟨f.set,seq % c.splay⟩,false,true)
  else (Fl.put ⟨f.set+1,0,0,0,0⟩ (seq % c.splay) (n+22),⟨f.set+1,seq % c.splay⟩,true,true):=by
 have hn:Zcg n=n+22:=by unfold Zcg;omega
 unfold rput;rw [Za (by rw [h1,h2];simp;omega),hn];by_cases q:f.get (seq % c.splay)+(n+22)<=c.size
 ·rw [Za (by omega),Zb q]
 ·rw [Zb (by omega),Za q]
theorem ZlO (c:Rg) (f:Fl) (seq n:Int) (w:World):Calls Tryz.prog 60 #[c.val,f.val,int i64 seq,int i64 n] w fun e w'=>e=.returned (.tuple #[(rput c f seq n).1.val,(rput c f seq n).2.1.val,.bool (rput c f seq n).2.2.1,.bool (rput c f seq n).2.2.2])∧Below w.heap.size w w':=by
 obtain ⟨a,b,sz⟩:=c;obtain ⟨s,u0,u1,u2,u3⟩:=f;have hr:=Zka ⟨a,b,sz⟩;have h4:=((((((St.init w).alloc (cells #[int i64 a,int i64 b,int i64 sz] 26)).alloc (cells #[int i64 s,int i64 u0,int i64 u1,int i64 u2,int i64 u3] 108)).alloc (cells #[int i64 0,int i64 0,int i64 0,int i64 0,int i64 0] 108)).alloc (cells #[int i64 0,int i64 0] 41)).alloc (cells #[int i64 0,int i64 0,int i64 0,int i64 0,int i64 0] 108));simp only [Zew] at h4;obtain ⟨ok,hok⟩:∃ ok,Rg.okB ⟨a,b,sz⟩=ok:=⟨_,rfl⟩;rw [hok] at hr;have HOK:=Zh hok;unfold Rg.val at hr;have HR:=Zh hr;have H4:=Zh h4;have HBAD:=Zh (@ZsB ⟨a,b,sz⟩ ⟨s,u0,u1,u2,u3⟩ seq n);have HGOOD:=Zh (@Zrv ⟨a,b,sz⟩ ⟨s,u0,u1,u2,u3⟩ seq n);clear hr hok h4;obtain ⟨r,hrr⟩:∃ r,rput ⟨a,b,sz⟩ ⟨s,u0,u1,u2,u3⟩ seq n=r:=⟨_,rfl⟩;rw [hrr] at HBAD HGOOD |-;unfold Rg.val Fl.val;obtain ⟨g12,hg12⟩:=Zn (w.heap.size+1+1+1+1);obtain ⟨g9,hg9⟩:=Zn (w.heap.size+1+1+1);obtain ⟨g8,hg8⟩:=Zn (w.heap.size+1+1);obtain ⟨g5,hg5⟩:=Zn (w.heap.size+1);obtain ⟨g4,hg4⟩:=Zn w.heap.size;go_enter Tryz.func60,Tryz.ntmps60;go_upto_region 2 with fail;have h4:=H4.o;generalize (World.alloc _ _:World)=w4 at h4 |-;rw [<-hg12,<-hg9,<-hg8,<-hg5,<-hg4] at h4;rw [<-hg12,<-hg9,<-hg8,<-hg5,<-hg4];have h4':St w w.hp w4 (HP.pt g12 (cells #[int i64 0,int i64 0,int i64 0,int i64 0,int i64 0] 108)::HP.pt g9 (cells #[int i64 0,int i64 0] 41)::HP.pt g8 (cells #[int i64 0,int i64 0,int i64 0,int i64 0,int i64 0] 108)::HP.pt g5 (cells #[int i64 s,int i64 u0,int i64 u1,int i64 u2,int i64 u3] 108)::HP.pt g4 (cells #[int i64 a,int i64 b,int i64 sz] 26)::[]):=h4;clear h4 H4 hg12 hg9 hg8 hg5 hg4 hrr;have H5:=Zh h4';obtain ⟨x0,x1,x2⟩:=Zak (h4'.pull 4 _ rfl);clear h4';go_wp2_with fail;refine (HR.o w4).mono ?_;rintro e w5 ⟨rfl,hb5⟩;have h5:=H5.o.keep hb5;clear x0 x1 x2 hb5 H5 HR;obtain ⟨x0,x1,x2⟩:=Zak (h5.pull 4 _ rfl);obtain ⟨y0,y1,y2,y3,y4⟩:=Z8 (h5.pull 3 _ rfl);obtain ⟨z0,z1,z2,z3,z4⟩:=Z8 (h5.pull 2 _ rfl);obtain ⟨p0,p1⟩:=Zaz (h5.pull 1 _ rfl);obtain ⟨q0,q1,q2,q3,q4⟩:=Z8 h5;have f8:=frozen_of_row (h5.pull 2 _ rfl).heap;have f9:=frozen_of_row (h5.pull 1 _ rfl).heap;have H5:=Zh h5;clear h5
 have HF0:=Zh (show ∀ P:Prop,(P->¬ (0<=s∧s<1073741824∧(0<=u0∧u0<=sz)∧(0<=u1∧u1<=sz)∧(0<=u2∧u2<=sz)∧(0<=u3∧u3<=sz)))->P->Fl.okB ⟨a,b,sz⟩ ⟨s,u0,u1,u2,u3⟩=false from fun P h1 h2=>by
  unfold Fl.okB;rw [ZT];have:=h1 h2;simp only
  omega)
 by_cases hbad:ok=false∨s<0∨1073741824<=s∨seq<1∨1099511627776<seq∨n<1∨90<n
 ·obtain rfl:=HBAD.o (by
   rcases hbad with h|h|h|h
   ·exact .inl (HOK.o.trans h)
   ·exact .inr (.inl (HF0.o _ (by omega) h))
   ·exact .inr (.inl (HF0.o _ (by omega) h))
   ·exact .inr (.inr h))
  have key:ok=false∨(ok=true∧decide (s<0)=true)∨(ok=true∧decide (s<0)=false∧decide (1073741824<=s)=true)∨(ok=true∧decide (s<0)=false∧decide (1073741824<=s)=false∧decide (seq<1)=true)∨(ok=true∧decide (s<0)=false∧decide (1073741824<=s)=false∧decide (seq<1)=false∧decide (1099511627776<seq)=true)∨(ok=true∧decide (s<0)=false∧decide (1073741824<=s)=false∧decide (seq<1)=false∧decide (1099511627776<seq)=false∧decide (n<1)=true)∨(ok=true∧decide (s<0)=false∧decide (1073741824<=s)=false∧decide (seq<1)=false∧decide (1099511627776<seq)=false∧decide (n<1)=false∧decide (90<n)=true):=by
   simp only [Zk,ZT];cases ok
   ·exact .inl rfl
   ·simp only [Zi4,false_or,ZaR] at hbad |-;omega
  clear hbad;rcases key with rfl|⟨rfl,d1⟩|⟨rfl,d1,d2⟩|⟨rfl,d1,d2,d3⟩|⟨rfl,d1,d2,d3,d4⟩|⟨rfl,d1,d2,d3,d4,d5⟩|⟨rfl,d1,d2,d3,d4,d5,d6⟩;all_goals
   go_upto_region 3 with fail;iterate 9 go_step
   have h6:=(H5.o.pull 2 _ rfl).set5 (int i64 0) (int i64 0) (int i64 0) (int i64 0) (int i64 0);generalize (World.setCell _ _ _:World)=w6 at h6 |-;clear x0 x1 x2 y0 y1 y2 y3 y4 z0 z1 z2 z3 z4 p0 p1 q0 q1 q2 q3 q4 f8 f9;have h7:=h6.pull 2 _ rfl;obtain ⟨p0,p1⟩:=Zaz h7;have f9:=frozen_of_row h7.heap;have H7:=Zh (h7.set2 (int i64 0) (int i64 0));clear h6 h7;go_wp2_with fail;have h7:=H7.o;simp only [ZF,ZE] at h7;generalize (World.setCell _ _ _:World)=w7 at h7 |-;obtain ⟨z0,z1,z2,z3,z4⟩:=Z8 (h7.pull 1 _ rfl);obtain ⟨q0,q1⟩:=Zaz h7;refine Zaj (v:=.tuple #[.agg #[int i64 0,int i64 0,int i64 0,int i64 0,int i64 0],.agg #[int i64 0,int i64 0],.bool false,.bool false]) (by simp [results,Tryz.results60,go_sem,z0,z1,z2,z3,z4,q0,q1]) rfl ?_;exact ⟨rfl,h7.below⟩
 ·have HB:=Zh (show 0<=s∧s<1073741824∧1<=seq∧seq<=1099511627776∧1<=n∧n<=90 by omega);obtain rfl:ok=true:=by cases ok <;> simp_all
  have d1:decide (s<0)=false:=Zq (by omega);have d2:decide (1073741824<=s)=false:=Zq (by omega);have d3:decide (seq<1)=false:=Zq (by omega);have d4:decide (1099511627776<seq)=false:=Zq (by omega);have d5:decide (n<1)=false:=Zq (by omega);have d6:decide (90<n)=false:=Zq (by omega);clear hbad;go_wp2_with fail;clear x0 x1 x2 y0 y1 y2 y3 y4 z0 z1 z2 z3 z4 p0 p1 q0 q1 q2 q3 q4 f8 f9 d1 d2 d3 d4 d5 d6;go_loopw [13] (fun a13 wr=>∃ i:Nat,a13=int i64 i∧i<=4∧(∀ j:Nat,j<i->0<=(⟨s,u0,u1,u2,u3⟩:Fl).get j∧(⟨s,u0,u1,u2,u3⟩:Fl).get j<=sz)∧St w w.hp wr (HP.pt g12 (cells #[int i64 0,int i64 0,int i64 0,int i64 0,int i64 0] 108)::HP.pt g9 (cells #[int i64 0,int i64 0] 41)::HP.pt g8 (cells #[int i64 0,int i64 0,int i64 0,int i64 0,int i64 0] 108)::HP.pt g5 (cells #[int i64 s,int i64 u0,int i64 u1,int i64 u2,int i64 u3] 108)::HP.pt g4 (cells #[int i64 a,int i64 b,int i64 sz] 26)::[])) (fun a13 _=>4 - (intOf a13).toNat);case atStart=>exact ⟨0,rfl,by omega,fun j hj=>by omega,H5.o⟩
  case round =>
   obtain ⟨i,rfl,hi,hall,h5⟩:=hrel;clear H5;obtain ⟨x0,x1,x2⟩:=Zak (h5.pull 4 _ rfl);by_cases hlt:i<4
   ·have d0:decide ((i:Int)<4)=true:=Zt (by omega);have y:=ZdS (h5.pull 3 _ rfl) hlt;obtain ⟨u,hu⟩:=Zn ((⟨s,u0,u1,u2,u3⟩:Fl).get i);rw [<-hu] at y;have H5:=Zh h5;clear h5;have hi4:(i:Int)<4:=by omega
    by_cases hbad:u<0∨sz<u
    ·obtain rfl:=HBAD.o (.inr (.inl (HF0.o _ (fun q=>by
      rw [hu] at q;unfold Fl.get at q;simp only at q
      rcases (show i=0∨i=1∨i=2∨i=3 by omega) with rfl|rfl|rfl|rfl <;> simp at q <;> omega) hbad)))
     have key:decide (u<0)=true∨(decide (u<0)=false∧decide (sz<u)=true):=by
      simp only [Zk,ZT];omega
     clear hbad hall hu;rcases key with d1|⟨d1,d2⟩;all_goals
      go_upto_region 7 with fail;go_quiet (fail);have h6:=H5.o.drewN nq;generalize (World.drewN _ _:World)=w6 at h6 |-;clear x0 x1 x2 y H5;obtain ⟨z0,z1,z2,z3,z4⟩:=Z8 (h6.pull 2 _ rfl);obtain ⟨p0,p1⟩:=Zaz (h6.pull 1 _ rfl);obtain ⟨q0,q1,q2,q3,q4⟩:=Z8 h6;have f8:=frozen_of_row (h6.pull 2 _ rfl).heap;have f9:=frozen_of_row (h6.pull 1 _ rfl).heap;have H5:=Zh h6;clear h6;go_upto_region 8 with fail;iterate 9 go_step
      have h6:=(H5.o.pull 2 _ rfl).set5 (int i64 0) (int i64 0) (int i64 0) (int i64 0) (int i64 0);generalize (World.setCell _ _ _:World)=w6 at h6 |-;clear z0 z1 z2 z3 z4 p0 p1 q0 q1 q2 q3 q4 f8 f9;have h7:=h6.pull 2 _ rfl;obtain ⟨p0,p1⟩:=Zaz h7;have f9:=frozen_of_row h7.heap;have H7:=Zh (h7.set2 (int i64 0) (int i64 0));clear h6 h7;go_wp2_with fail;have h7:=H7.o;simp only [ZF,ZE] at h7;generalize (World.setCell _ _ _:World)=w7 at h7 |-;obtain ⟨z0,z1,z2,z3,z4⟩:=Z8 (h7.pull 1 _ rfl);obtain ⟨q0,q1⟩:=Zaz h7;refine Zaj (v:=.tuple #[.agg #[int i64 0,int i64 0,int i64 0,int i64 0,int i64 0],.agg #[int i64 0,int i64 0],.bool false,.bool false]) (by simp [results,Tryz.results60,go_sem,z0,z1,z2,z3,z4,q0,q1]) rfl ?_;exact ⟨rfl,h7.below⟩
    ·have d1:decide (u<0)=false:=Zq (by omega);have d2:decide (sz<u)=false:=Zq (by omega)
     have HN:=Zh (show ∀ j:Nat,j<i+1->0<=(⟨s,u0,u1,u2,u3⟩:Fl).get j∧(⟨s,u0,u1,u2,u3⟩:Fl).get j<=sz from fun j hj=>by
      rcases ZeW j i with h|h
      ·exact hall j h
      ·have hji:j=i:=by omega
       rw [hji,<-hu];omega)
     clear hbad hall hu;go_upto_region 7 with fail;go_quiet (fail);have h6:=H5.o.drewN nq;generalize (World.drewN _ _:World)=w6 at h6 |-;have H6:=Zh h6;clear h6 H5;go_wp2;go_roundw;case rel=>exact ⟨i+1,by go_num,by omega,HN.o,H6.o⟩
     case measure=>simp [intOf]<;>omega
   ·obtain rfl:i=4:=by omega
    have g0:0<=u0∧u0<=sz:=hall 0 (by omega);have g1:0<=u1∧u1<=sz:=hall 1 (by omega);have g2:0<=u2∧u2<=sz:=hall 2 (by omega);have g3:0<=u3∧u3<=sz:=hall 3 (by omega);have H5:=Zh h5;have hbb:=HB.o;have hfk:Fl.okB ⟨a,b,sz⟩ ⟨s,u0,u1,u2,u3⟩=true:=by
     unfold Fl.okB;rw [Zk];simp only;omega
    have hgood:=HGOOD.o HOK.o hfk (by omega) (by omega);have ha:(1<=a∧a<=4)∧(4<=b∧b<=8)∧(512<=sz∧sz<=4096):=by
     have hk:=HOK.o;unfold Rg.okB at hk;rw [Zk] at hk;exact hk
    obtain ⟨k,hk⟩:∃ k:Nat,seq % a=k:=⟨(seq % a).toNat,by have:=ZgO seq (show a≠0 by omega);omega⟩;have hk4:k<4:=by have:=ZgP seq (show 0<a by omega);omega
    have hmod:Int.tmod seq a=k:=(ZfL (by omega)).trans hk;have hgl:0<=(⟨s,u0,u1,u2,u3⟩:Fl).get k∧(⟨s,u0,u1,u2,u3⟩:Fl).get k<=4096:=by
     unfold Fl.get;simp only
     (repeat' split) <;> omega
    simp only [hk] at hgood;have hperm:=(H5.o.drop).perm (show List.Perm _ (HP.pt g4 (cells #[int i64 a,int i64 b,int i64 sz] 26)::HP.pt g5 (cells #[int i64 s,int i64 u0,int i64 u1,int i64 u2,int i64 u3] 108)::HP.pt g8 (cells #[int i64 0,int i64 0,int i64 0,int i64 0,int i64 0] 108)::HP.pt g9 (cells #[int i64 0,int i64 0] 41)::[]) by ((try simp only [ZE,ZF,ZG,Zu]);repeat (first|with_reducible exact ZK _|(apply ZP;(· repeat (first|with_reducible exact ZO|with_reducible apply ZN))))));go_upto_region 9 with fail;by_cases hfit:(⟨s,u0,u1,u2,u3⟩:Fl).get k+(n+22)<=sz
    ·rw [Zb hfit] at hgood;subst hgood;refine Zru (by assumption) (by kernel_rfl) hperm ha.1 hmod hk4 (by omega) hgl hfit ?_;intro _ _ _ _ _ _ _ _ _ _ _ _ _ _ _ _ _ _ _ _ _ _ _ _ _ _ _ _ _ _ _ _ _ _ _ _ _ _ _ _ _ _ _ _ _ _ _ _ _ _ _ _ _ _ _ _ _ _ _ _ _ _ _ _ _ _ _ _ _ _ _ _ _ _ _ _ _ _ _ _ _ _ _ _ _ _ _ _ _ _ _ _ _ _ _ _ _ _ _ _ _ _ _ _ _ _ w7 h7;go_wp2_with fail;obtain ⟨fq,hfq⟩:∃ q:Fl,q=(⟨s,u0,u1,u2,u3⟩:Fl).put k ((⟨s,u0,u1,u2,u3⟩:Fl).get k+(n+22)):=⟨_,rfl⟩;rw [<-hfq] at h7 |-;obtain ⟨v,v0,v1,v2,v3⟩:=fq;simp only [Fl.cells] at h7;obtain ⟨z0,z1,z2,z3,z4⟩:=Z8 h7;obtain ⟨q0,q1⟩:=Zaz (h7.pull 1 _ rfl);refine Zaj (v:=.tuple #[.agg #[int i64 v,int i64 v0,int i64 v1,int i64 v2,int i64 v3],.agg #[int i64 s,int i64 k],.bool false,.bool true]) (by simp [results,Tryz.results60,go_sem,z0,z1,z2,z3,z4,q0,q1]) rfl ?_;exact ⟨rfl,h7.below⟩
    ·rw [Za hfit] at hgood;subst hgood;refine Zp9 (by assumption) (by kernel_rfl) hperm ha.1 hmod hk4 (by omega) hgl (by omega) hfit ?_;intro _ _ _ _ _ _ _ _ _ _ _ _ _ _ _ _ _ _ _ _ _ _ _ _ _ _ _ _ _ _ _ _ _ _ _ _ _ _ _ _ _ _ _ _ _ _ _ _ _ _ _ _ _ _ _ _ _ _ _ _ _ _ _ _ _ _ _ _ _ _ _ _ _ _ _ _ _ _ _ _ _ _ _ _ _ _ _ _ _ _ _ _ _ _ _ _ _ _ _ _ _ _ _ _ _ _ w7 h7;go_wp2_with fail;obtain ⟨fq,hfq⟩:∃ q:Fl,q=(⟨s+1,0,0,0,0⟩:Fl).put k (n+22):=⟨_,rfl⟩;rw [<-hfq] at h7 |-;obtain ⟨v,v0,v1,v2,v3⟩:=fq;simp only [Fl.cells] at h7;obtain ⟨z0,z1,z2,z3,z4⟩:=Z8 h7;obtain ⟨q0,q1⟩:=Zaz (h7.pull 1 _ rfl);refine Zaj (v:=.tuple #[.agg #[int i64 v,int i64 v0,int i64 v1,int i64 v2,int i64 v3],.agg #[int i64 (s+1),int i64 k],.bool true,.bool true]) (by simp [results,Tryz.results60,go_sem,z0,z1,z2,z3,z4,q0,q1]) rfl ?_;exact ⟨rfl,h7.below⟩
end
set_option maxRecDepth 100000 in
theorem Zjf (A:Option Addr) (n c:Nat) (l:List Tag) (w:World) (hl:TagsAt w A n l) (hn:n<=1000000) :
  Calls Tryz.prog 96 #[slice A n c] w fun e w'=>e=.returned (.bool (Z3 l))∧Below w.heap.size w w':=by
 by_cases h32:1<=n∧n<=32
 ·obtain ⟨h1,h2⟩:=h32;obtain ⟨b,off,x0,rfl,hB,hx0,_,_,_,a3⟩:=hl.at_ (k:=0) (by omega);simp only [ZcE,ZaP] at a3;have d1:decide ((n:Int)<1)=false:=by simp;omega
  have d2:decide ((32:Int)<n)=false:=by simp;omega
  by_cases hat:x0.at_=0
  ·have d3:(x0.at_ != 0)=false:=by simpa using hat
   have HAT:=Zh hat;have HX0:=Zh hx0;clear hat hx0;go_enter Tryz.func96,Tryz.ntmps96;go_wp2;go_loopw [3] (fun v3 wr=>∃ k:Nat,k<=n∧v3=int i64 k∧ZaA l k=true∧Below w.heap.size w wr) (fun v3 _=>n - (intOf v3).toNat);case atStart=>exact ⟨0,ZL _,rfl,rfl,ZI _ _⟩
   case round =>
    obtain ⟨k,hk,rfl,hd,hb⟩:=hrel;clear d1 d2 d3;obtain ⟨wo,rfl⟩:∃ wo:World,wo=wr:=⟨_,rfl⟩;by_cases hlt:k<n
    ·obtain ⟨b',off',x,hbo,_,hx,c0,c1,c2,c3⟩:=hl.at_ hlt;injection hbo with hbo;injection hbo with e1 e2;subst e1 e2;have hcell:∀ o,wo.cell? ⟨b,o,none⟩=w.cell? ⟨b,o,none⟩:=fun o=>hb.cell (p:=⟨b,o,none⟩) hB;rw [<-hcell] at c0 c1 c2 c3;have HX:=Zh hx;clear hx hcell a3;have hBr:b<wo.heap.size:=by have:=hb.size;omega
     obtain ⟨prev,hprev⟩:∃ prev,Zbf (l.take k)=prev:=⟨_,rfl⟩;have HP:=Zh hprev;have hx00:k=0->x.at_=0:=fun h=>by
      subst h;have:=HX.o.symm.trans HX0.o;injection this with this;rw [this];exact HAT.o
     have hpl:(l.take k).length=k:=by rw [ZJ,hl.1];omega
     have hbad:Zb4 x k prev->Z3 l=false:=fun h=>Zf7 hl.1 hlt HX.o hd (Zqt (by rw [hpl,HP.o];exact h) (by rw [hpl];exact hx00));have hgood:¬ Zb4 x k prev->tagOk x (l.take k)=noDup x (l.take k):=fun h=>Zpd (by rw [hpl,HP.o];exact h) (by rw [hpl];exact hx00);have hways:=ZrV x k prev;have HB:=Zh hbad;have HGD:=Zh hgood;have HW:=Zh hways;have HL:=Zh hl;clear hbad hgood hways hprev hpl hx00 hl;go_wp2_with fail;rcases HW.o with ⟨hr,q1⟩|⟨hr,q1,q2⟩|⟨q1,q2,⟨hr,q3⟩|⟨hr,q3,q4⟩|⟨q3,q4,⟨hr,q5⟩|⟨hr,q5,q6⟩|⟨q5,q6,⟨hr,q7⟩|⟨hr,q7,q8⟩|⟨q7,q8,hr⟩⟩⟩⟩;case inr.inr.inr.inr.inr.inr.inr.inr =>
      rcases ZbF k with hk0|hk0
      ·have HN:=Zh (HGD.o (fun h=>by have:=hr.1 h;omega));have q9:decide ((0:Int)<k)=false:=by simp;omega
       clear hr;go_quiet (fail);go_wp2;have HBW:Below w.heap.size w ((wo.alloc (cells #[int i64 x.id,int i64 x.own,int i64 x.heir,int i64 x.at_] 80)).drewN nq):=below_drewN (hb.alloc hb.size _) _;have hbx:((wo.alloc (cells #[int i64 x.id,int i64 x.own,int i64 x.heir,int i64 x.at_] 80)).drewN nq).cell? ⟨wo.heap.size,0,none⟩=some (int i64 x.id):=World.cell?_alloc_new wo _ _ 0;generalize (wo.alloc (cells #[int i64 x.id,int i64 x.own,int i64 x.heir,int i64 x.at_] 80)).drewN nq=W at *;clear c0 c1 c2 c3 q1 q2 q3 q4 q5 q6 q7 q8;go_loopw [5] (fun v5 wi=>∃ j:Nat,j<=k∧v5=int i64 j∧noDup x (l.take j)=true∧Below w.heap.size w wi∧wi.cell? ⟨wo.heap.size,0,none⟩=some (int i64 x.id)) (fun v5 _=>k - (intOf v5).toNat);case atStart=>exact ⟨0,ZL _,rfl,rfl,HBW,hbx⟩
       case round =>
        obtain ⟨j,hj,rfl,hnd,hbi,hbx'⟩:=hrel;have HND:=Zh hnd;clear hnd hbx;by_cases hjk:j<k
        ·exact absurd hjk (by omega)
        ·obtain rfl:j=k:=by omega
         have HT:=Zh ((Zed HX.o hd).trans (HN.o.trans HND.o));go_wp2;go_roundw;case rel=>exact ⟨j+1,by omega,by go_num,HT.o,hbi⟩
         case measure=>simp [intOf]<;>omega
      ·obtain ⟨b',off',p,hbo,_,hp,_,_,_,p3⟩:=HL.o.at_ (k:=k - 1) (by omega);injection hbo with hbo;injection hbo with e1 e2;subst e1 e2;have hpp:prev=p.at_:=by rw [<-HP.o,show k=k - 1+1 by omega,ZjF hp]
       have q9:decide ((0:Int)<k)=true:=by simp;omega
       have p3':wo.cell? ⟨b,off+((k:Int) - 1).toNat*4+3,none⟩=some (int i64 p.at_):=by
        rw [hb.cell (p:=⟨b,_,none⟩) hB,show ((k:Int) - 1).toNat=k - 1 by omega];exact p3
       have p3'':wo.cell? ⟨b,off+(k - 1)*4+3,none⟩=some (int i64 p.at_):=by
        rw [hb.cell (p:=⟨b,_,none⟩) hB];exact p3
       have i0:(0:Int)<=(k:Int) - 1:=by omega
       have i1:(k:Int) - 1<n:=by omega
       have i2:(1:Int)<=k:=by omega
       have i3:IntKind.i64.wrap ((k:Int) - 1)=(k:Int) - 1:=IntWalk.i64_in _ (by omega);have HPP:=Zh hpp;clear p3 hpp hp;by_cases hpa:x.at_<p.at_
       ·have q10:decide (x.at_<p.at_)=true:=by simpa using hpa
        have HR:=Zh (HB.o (hr.2 ⟨hk0,by rw [HPP.o];exact hpa⟩));clear hr hpa;go_quiet (fail);go_wp2;go_ret;exact ⟨ret_bool HR.o.symm,(below_drewN (hb.alloc hb.size _) _)⟩
       ·have q10:decide (x.at_<p.at_)=false:=by simpa using hpa
        have HN:=Zh (HGD.o (fun h=>by have:=hr.1 h;rw [HPP.o] at this;exact hpa this.2));clear hr hpa;go_quiet (fail);go_wp2;have HBW:Below w.heap.size w ((wo.alloc (cells #[int i64 x.id,int i64 x.own,int i64 x.heir,int i64 x.at_] 80)).drewN nq):=below_drewN (hb.alloc hb.size _) _;have hbx:((wo.alloc (cells #[int i64 x.id,int i64 x.own,int i64 x.heir,int i64 x.at_] 80)).drewN nq).cell? ⟨wo.heap.size,0,none⟩=some (int i64 x.id):=World.cell?_alloc_new wo _ _ 0;generalize (wo.alloc (cells #[int i64 x.id,int i64 x.own,int i64 x.heir,int i64 x.at_] 80)).drewN nq=W at *;clear c0 c1 c2 c3 q1 q2 q3 q4 q5 q6 q7 q8;go_loopw [5] (fun v5 wi=>∃ j:Nat,j<=k∧v5=int i64 j∧noDup x (l.take j)=true∧Below w.heap.size w wi∧wi.cell? ⟨wo.heap.size,0,none⟩=some (int i64 x.id)) (fun v5 _=>k - (intOf v5).toNat);case atStart=>exact ⟨0,ZL _,rfl,rfl,HBW,hbx⟩
        case round =>
         obtain ⟨j,hj,rfl,hnd,hbi,hbx'⟩:=hrel;have HND:=Zh hnd;clear hnd hbx;by_cases hjk:j<k
         ·obtain ⟨b',off',y,hbo,_,hy,y0,_,_,_⟩:=HL.o.at_ (k:=j) (by omega);injection hbo with hbo;injection hbo with e1 e2;subst e1 e2;have y0':wr.cell? ⟨b,off+j*4,none⟩=some (int i64 y.id):=by
           rw [hbi.cell (p:=⟨b,_,none⟩) hB];exact y0
          have hyk:(l.take k)[j]?=some y:=by rw [ZcG,Zb hjk];exact hy
          have HY:=Zh hy;have HYK:=Zh hyk;clear y0 hy hyk;have j0:(0:Int)<=j:=by omega
          have j1:(j:Int)<n:=by omega
          by_cases hid:y.id=x.id
          ·have qe:(y.id==x.id)=true:=by simpa using hid
           have HT:=Zh (Zf7 HL.o.1 hlt HX.o hd (Zk7 HYK.o qe));clear hid;go_wp2;go_quiet (fail);go_wp2;go_ret;exact ⟨ret_bool HT.o.symm,below_drewN hbi _⟩
          ·have qe:(y.id==x.id)=false:=by simpa using hid
           have HT:=Zh (Zkg HY.o qe HND.o);clear hid;go_wp2;go_quiet (fail);go_wp2;go_roundw;case rel=>exact ⟨j+1,by omega,by go_num,HT.o,below_drewN hbi _,by simpa using hbx'⟩
           case measure=>simp [intOf]<;>omega
         ·obtain rfl:j=k:=by omega
          have HT:=Zh ((Zed HX.o hd).trans (HN.o.trans HND.o));go_wp2;go_roundw;case rel=>exact ⟨j+1,by omega,by go_num,HT.o,hbi⟩
          case measure=>simp [intOf]<;>omega
     all_goals
      have HR:=Zh (HB.o hr);clear hr;go_quiet (fail);go_wp2;go_ret;exact ⟨ret_bool HR.o.symm,(below_drewN (hb.alloc hb.size _) _)⟩
    ·go_wp2;go_ret;obtain rfl:k=n:=by omega
     exact ⟨ret_bool (by rw [Z3,hl.1,hd];simp [h1,h2]),hb⟩
  ·have d3:(x0.at_ != 0)=true:=by simpa using hat
   have hr:Z3 l=false:=Zf7 hl.1 (by omega) hx0 rfl (Zof hat);rw [hr];clear hat;go_enter Tryz.func96,Tryz.ntmps96;go_wp2;go_ret;exact ⟨rfl,ZI _ _⟩
 ·have hr:Z3 l=false:=by rw [Z3,hl.1,Zq h32,Bool.false_and]
  rw [hr];by_cases h1:1<=n
  ·have d1:decide ((n:Int)<1)=false:=by simp;omega
   have d2:decide ((32:Int)<n)=true:=by simp;omega
   go_enter Tryz.func96,Tryz.ntmps96;go_wp2;go_ret;exact ⟨rfl,ZI _ _⟩
  ·have d1:decide ((n:Int)<1)=true:=by simp;omega
   go_enter Tryz.func96,Tryz.ntmps96;go_wp2;go_ret;exact ⟨rfl,ZI _ _⟩
inductive Tp where
 | leaf:Tp
 | one:Nat->Tp->Tp
 | two:Nat->Tp->Nat->Tp->Tp
 | pull:List Nat->Tp->Tp
def Tp.size:Tp->Nat
 | .leaf=>0
 | .one _ t=>t.size+1
 | .two _ t _ _=>t.size+1
 | .pull ks t=>ks.length+t.size
section
variable {P : Program} {md : Region.Mode} {w : World}
variable {Q : Exit -> Act -> World -> Prop} {S : World -> Prop} {N : Nat -> Bool}
def wpTp (P:Program) (l:List Oper) (S:World->Prop) (Q:Exit->Act->World->Prop) (T:Act->World->Prop):Tp->Act->World->Prop
 | .leaf,a,w=>T a w
 | .one i t,a,w=>wpList P l.toArray (Zcx S Q (wpTp P l S Q T t)) (pickL l [i]) a w
 | .two i t j u,a,w=>wpList P l.toArray (Zcx S Q (wpTp P l S Q T t)) (pickL l [i]) a w∧wpList P l.toArray (Zcx S Q (wpTp P l S Q T u)) (pickL l [j]) a w
 | .pull ks t,a,w=>Zc2 P l.toArray S (fun a1=>wpTp P l S Q T t a1 w) (pickL l ks) a
def ZmR (md:Region.Mode) (l:List Oper) (k t:Nat):Bool:=match l[t]? with
 | some o=>o.after.any fun e=>Region.binds md e&&e.on==k
 | none=>false
def pullB (md:Region.Mode) (l:List Oper) (N:Nat->Bool) (ks:List Nat):Bool:=(List.range l.length).all fun t=>N t||ks.all fun k=>ZmR md l k t||reaches md l.toArray k l.length t
def tpB (md:Region.Mode) (l:List Oper) (N:Nat->Bool) (tail:List Nat):Tp->Array Bool->Bool
 | .leaf,listed=>tailB md l.toArray tail listed
 | .one i t,listed=>decide (Region.ready md l.toArray listed=[i])&&tpB md l N tail t (listed.setIfInBounds i true)
 | .two i t j u,listed=>(decide (Region.ready md l.toArray listed=[i,j])&&decide (t.size=u.size))&&(tpB md l N tail t (listed.setIfInBounds i true)&&tpB md l N tail u (listed.setIfInBounds j true))
 | .pull ks t,listed=>(Za2 md l.toArray ks listed&&pullB md l N ks)&&tpB md l N tail t (Zag ks listed)
theorem Zrw {l:List Oper} {ks:List Nat} (h:pullB md l N ks=true):∀ k ∈ ks,∀ listed,ShutDown md l.toArray listed->listed.getD k true=false->∀ j ∈ Region.ready md l.toArray listed,N j=true:=by
 intro k hk listed hsd hun j hj;simp only [pullB,ZbG,ZdG] at h;obtain ⟨_,o,ho,hall⟩:=mem_ready.1 hj;have h2:=h j (by simpa using (Za9.1 ho).1);rw [Zd5] at h2;rcases h2 with h2|h2
 ·exact h2
 ·have h3:=ZbG.1 h2 k hk;rw [Zd5] at h3;have h4:listed.getD k false=true:=by
   rcases h3 with h3|h3
   ·unfold ZmR at h3;rw [show l[j]?=some o by simpa using ho] at h3;obtain ⟨e,he,hb⟩:=Array.any_eq_true'.1 h3;rw [ZR,ZfB] at hb;rw [<-hb.2];exact hall e he hb.1
   ·exact Zeb hsd _ j (fun o' ho' e he' hb=>by rw [ho] at ho';cases ho';exact hall e he' hb) h3
  rw [ZcL hun] at h4;cases h4
theorem Zfh {l:List Oper} {tail:List Nat} (hsel:Region.noSelect l.toArray=true) (hQ:∀ c (a:Act) d v w,Q (.panic c) (a.put d v) w->Q (.panic c) a w):∀ (t:Tp) (listed:Array Bool) (a:Act) (w:World),(∀ k ∈ tail,N k=false)->ShutDown md l.toArray listed->S w->tpB md l N tail t listed=true ->
  wpTp P l S Q (wpList P l.toArray Q (pickL l tail)) t a w->Zcf P md l.toArray Q S N (t.size+tail.length) listed a w
 | .leaf,listed,a,w,hN,_,_,hB,h=>by
  rw [Tp.size,ZX];exact Zhe tail listed a w hN hB h
 | .one k t,listed,a,w,hN,hs,_,hB,h=>by
  simp only [tpB,ZR,Zk] at hB;rw [Tp.size,show t.size+1+tail.length=(t.size+tail.length)+1 by omega];refine ⟨fun h1=>(by rw [hB.1] at h1;cases h1),fun i hi=>?_⟩;have hi':=hi;rw [hB.1] at hi';obtain rfl:i=k:=by simpa using hi'
  obtain ⟨o,ho⟩:=Zcm hi;have ho':l[i]?=some o:=by simpa using ho
  have e:pickL l [i]=[o]:=by simp [pickL,ho']
  unfold wpTp at h;rw [e] at h;exact Zb0 (fun a' w' h'=>⟨fun _=>h'.1,Zfh hsel hQ t _ a' w' hN (hs.next hi) h'.1 hB.2 h'.2⟩) (Zdt ho h)
 | .two k t k2 u,listed,a,w,hN,hs,_,hB,h=>by
  simp only [tpB,ZR,Zk] at hB;obtain ⟨⟨hr,hsz⟩,hB1,hB2⟩:=hB;rw [Tp.size,show t.size+1+tail.length=(t.size+tail.length)+1 by omega];refine ⟨fun h1=>(by rw [hr] at h1;cases h1),fun i hi=>?_⟩;have hi':=hi;rw [hr] at hi';obtain ⟨o,ho⟩:=Zcm hi;have ho':l[i]?=some o:=by simpa using ho
  have e:pickL l [i]=[o]:=by simp [pickL,ho']
  unfold wpTp at h;rcases (by simpa using hi':i=k∨i=k2) with rfl|rfl
  ·have h1:=h.1;rw [e] at h1;exact Zb0 (fun a' w' h'=>⟨fun _=>h'.1,Zfh hsel hQ t _ a' w' hN (hs.next hi) h'.1 hB1 h'.2⟩) (Zdt ho h1)
  ·have h1:=h.2;rw [e] at h1;rw [hsz];exact Zb0 (fun a' w' h'=>⟨fun _=>h'.1,Zfh hsel hQ u _ a' w' hN (hs.next hi) h'.1 hB2 h'.2⟩) (Zdt ho h1)
 | .pull ks t,listed,a,w,hN,hs,hS,hB,h=>by
  simp only [tpB,ZR] at hB;obtain ⟨⟨he,hp⟩,hB⟩:=hB;rw [Tp.size,Zbb];exact ZfQ hsel hQ hS ks listed a (Zrw hp) hs he (fun a1 h1=>Zfh hsel hQ t _ a1 w hN (ZgW ks _ he hs) hS hB h1) h
def Zm5 (md:Region.Mode) (l:List Oper) (hold:List Nat) (t:Tp) (tail:List Nat):Bool :=
 Region.noSelect l.toArray&&tpB md l (fun t=>hold.contains t) tail t (Array.replicate l.length false)&&decide (t.size+tail.length=l.length)&&tail.all (fun t=>!hold.contains t)
theorem Ze2 {id:Nat} {Q:Exit->Act->World->Prop} {a:Act} {l:List Oper} (S:World->Prop) (hold:List Nat) (t:Tp) (tail:List Nat) (hm:P.follows .mixedOrders=true) (hB:Zm5 .any l hold t tail=true) (hS:S w.drew)
  (h:wpTp P l S (NoPanic Q) (wpList P l.toArray (NoPanic Q) (pickL l tail)) t a w.drew):(Code.region id l.toArray true).wp P Q a w:=by
 refine wp_region_noPanic ?_;simp only [Zm5,ZR,Zk] at hB;obtain ⟨⟨⟨hsel,ht⟩,hn⟩,htl⟩:=hB;refine wp_region_any hm (Zf6 (S:=S) (N:=fun t=>hold.contains t) _ _ _ _ ?_);change Zcf P .any l.toArray _ _ _ l.toArray.size _ a w.drew;have hsz:l.toArray.size=t.size+tail.length:=by rw [hn];simp
 have hrep:Array.replicate l.toArray.size false=Array.replicate l.length false:=by simp
 rw [hrep,hsz]
 exact Zfh hsel (fun _ _ _ _ _ h=>h) t _ a _ (fun k hk=>by
  have:=ZbG.1 htl k hk
  simpa using this) (ShutDown.start _) hS ht h
end
section
variable {W w : World} {I : Hp} {l : List HP}
theorem St.row_bare (h:St W I w l) (e:TypeId) (k:Nat):St W I (w.alloc (cells #[] e)) (HP.row e k (slice (some ⟨w.heap.size,0,none⟩) 0 0) 0 []::l):=(h.alloc (cells #[] e)).row_shut (by simp) (ZC _) (by unfold maxLen;omega) (by simp) (by simp)
end
end Go.Proofs.YtpjchngjhijgmaaGreat
