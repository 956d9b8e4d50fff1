import Derived.Test.YtpjchngjhijgmaaGreatJP08
set_option linter.all false
set_option maxRecDepth 4000
set_option maxHeartbeats 8000000
open Go.RowKit
open Go.IntKind (i64 u64)
open Go.Value (int pointer slice)
open Go.Obj (cells)
namespace Go.Proofs.YtpjchngjhijgmaaGreat
open Tryz
open HP (pt mapOf)
variable {W w w':World} {I:Hp} {l:List HP}
section
theorem St.set5 {b:Nat} {c0 c1 c2 c3 c4:Value} {t:TypeId} {f:Nat × Nat} (h:St W I w (pt b (cells #[c0,c1,c2,c3,c4] t f)::l)) (v0 v1 v2 v3 v4:Value) :
  St W I (((((w.setCell ⟨b,0,none⟩ v0).setCell ⟨b,1,none⟩ v1).setCell ⟨b,2,none⟩ v2).setCell ⟨b,3,none⟩ v3).setCell ⟨b,4,none⟩ v4) (pt b (cells #[v0,v1,v2,v3,v4] t f)::l):=by
 have h5:=((((h.setCell 0 v0).setCell 1 v1).setCell 2 v2).setCell 3 v3).setCell 4 v4;simp only [Zf,Zd,Ze] at h5;exact h5
theorem St.set2 {b:Nat} {c0 c1:Value} {t:TypeId} {f:Nat × Nat} (h:St W I w (pt b (cells #[c0,c1] t f)::l)) (v0 v1:Value) :
  St W I ((w.setCell ⟨b,0,none⟩ v0).setCell ⟨b,1,none⟩ v1) (pt b (cells #[v0,v1] t f)::l):=by
 have h5:=(h.setCell 0 v0).setCell 1 v1;simp only [Zf,Zd,Ze] at h5;exact h5
theorem Z8 {b:Nat} {c0 c1 c2 c3 c4:Value} {t:TypeId} {f:Nat × Nat} (h:St W I w (pt b (cells #[c0,c1,c2,c3,c4] t f)::l)):w.cell? ⟨b,0,none⟩=some c0∧w.cell? ⟨b,1,none⟩=some c1∧w.cell? ⟨b,2,none⟩=some c2∧w.cell? ⟨b,3,none⟩=some c3∧w.cell? ⟨b,4,none⟩=some c4:=by
 have y:=Zc h.heap;have y0:=y 0;have y1:=y 1;have y2:=y 2;have y3:=y 3;have y4:=y 4;simp at y0 y1 y2 y3 y4;exact ⟨y0,y1,y2,y3,y4⟩
theorem Zak {b:Nat} {c0 c1 c2:Value} {t:TypeId} {f:Nat × Nat} (h:St W I w (pt b (cells #[c0,c1,c2] t f)::l)):w.cell? ⟨b,0,none⟩=some c0∧w.cell? ⟨b,1,none⟩=some c1∧w.cell? ⟨b,2,none⟩=some c2:=by
 have y:=Zc h.heap;have y0:=y 0;have y1:=y 1;have y2:=y 2;simp at y0 y1 y2;exact ⟨y0,y1,y2⟩
theorem Zaz {b:Nat} {c0 c1:Value} {t:TypeId} {f:Nat × Nat} (h:St W I w (pt b (cells #[c0,c1] t f)::l)):w.cell? ⟨b,0,none⟩=some c0∧w.cell? ⟨b,1,none⟩=some c1:=by
 have y:=Zc h.heap;have y0:=y 0;have y1:=y 1;simp at y0 y1;exact ⟨y0,y1⟩
def c5 (x0 x1 x2 x3 x4:Int):Array Value:=#[int i64 x0,int i64 x1,int i64 x2,int i64 x3,int i64 x4]
def Fl.cells (f:Fl):Array Value:=#[int i64 f.set,int i64 f.u0,int i64 f.u1,int i64 f.u2,int i64 f.u3]
theorem ZdS {g:Nat} {s u0 u1 u2 u3:Int} {ty:TypeId} {f:Nat × Nat} (h:St W I w (pt g (cells #[int i64 s,int i64 u0,int i64 u1,int i64 u2,int i64 u3] ty f)::l)) {k:Nat} (hk:k<4):w.cell? ⟨g,1+k,none⟩=some (int i64 ((⟨s,u0,u1,u2,u3⟩:Fl).get k)):=by
 obtain ⟨y0,y1,y2,y3,y4⟩:=Z8 h;rcases (show k=0∨k=1∨k=2∨k=3 by omega) with rfl|rfl|rfl|rfl
 ·exact y1
 ·exact y2
 ·exact y3
 ·exact y4
theorem ZgB {g:Nat} {s u0 u1 u2 u3 x:Int} {ty:TypeId} {f:Nat × Nat} (h:St W I w (pt g (cells #[int i64 s,int i64 u0,int i64 u1,int i64 u2,int i64 u3] ty f)::l)) {k:Nat} (hk:k<4):St W I (w.setCell ⟨g,1+k,none⟩ (int i64 x)) (pt g (cells ((⟨s,u0,u1,u2,u3⟩:Fl).put k x).cells ty f)::l):=by
 rcases (show k=0∨k=1∨k=2∨k=3 by omega) with rfl|rfl|rfl|rfl
 ·exact h.setCell 1 (int i64 x)
 ·exact h.setCell 2 (int i64 x)
 ·exact h.setCell 3 (int i64 x)
 ·exact h.setCell 4 (int i64 x)
theorem ZmA {a b:Code} {Q:Exit->Act->World->Prop} {K:Act->World->Prop} (hK:∀ x y,b.wp prog Q x y->K x y) (hC:(f130).body.bind (fromR 2)=some (.seq a b)) {x0 x1 x2 x3 x4 x5 x6 x7 x10 x11 x12 x13 x14 x15 x16 x17 x18 x19 x20 x21 x22 x23 x24 x25 x26 x27 x28 x29 x30 x31 x32 x33 x34 x35 x36 x37 x38 x39 x40 x41 x42 x43 x44 x45 x46 x47 x48 x49 x50 x51 x52 x53 x54 x55 x56 x57 x58 x59 x60 x61 x62 x63 x64 x65 x66 x67 x68 x69 x70 x71 x72 x73:Value} {g8 g9:Nat}
  (h:St W I w (pt g8 (cells #[int i64 0,int i64 0,int i64 0,int i64 0,int i64 0] 108)::pt g9 (cells #[int i64 0,int i64 0] 41)::l))
  (hQ:∀ (y0 y1 y2 y3 y4 y5 y6 y7 y12 y13 y14 y15 y16 y17 y18 y19 y20 y21 y22 y23 y24 y25 y26 y27 y28 y29 y30 y31 y32 y33 y34 y35 y36 y37 y38 y39 y40 y41 y42 y43 y44 y45 y46 y47 y48 y49 y50 y51 y52 y53 y54 y55 y56 y57 y58 y59 y60 y61 y62 y63 y64 y65 y66 y67 y68 y69 y70 y71 y72 y73:Value) (w':World),St W I w' (pt g8 (cells #[int i64 0,int i64 0,int i64 0,int i64 0,int i64 0] 108)::pt g9 (cells #[int i64 0,int i64 0] 41)::l)->Q .ret ⟨#[y0,y1,y2,y3,y4,y5,y6,y7,pointer (some ⟨g8,0,none⟩),pointer (some ⟨g9,0,none⟩),.bool false,.bool false,y12,y13,y14,y15,y16,y17,y18,y19,y20,y21,y22,y23,y24,y25,y26,y27,y28,y29,y30,y31,y32,y33,y34,y35,y36,y37,y38,y39,y40,y41,y42,y43,y44,y45,y46,y47,y48,y49,y50,y51,y52,y53,y54,y55,y56,y57,y58,y59,y60,y61,y62,y63,y64,y65,y66,y67,y68,y69,y70,y71,y72,y73],[]⟩ w') :
  a.wp prog (Exit.then K Q) ⟨#[x0,x1,x2,x3,x4,x5,x6,x7,pointer (some ⟨g8,0,none⟩),pointer (some ⟨g9,0,none⟩),x10,x11,x12,x13,x14,x15,x16,x17,x18,x19,x20,x21,x22,x23,x24,x25,x26,x27,x28,x29,x30,x31,x32,x33,x34,x35,x36,x37,x38,x39,x40,x41,x42,x43,x44,x45,x46,x47,x48,x49,x50,x51,x52,x53,x54,x55,x56,x57,x58,x59,x60,x61,x62,x63,x64,x65,x66,x67,x68,x69,x70,x71,x72,x73],[]⟩ w:=by
 injection hC with hC;injection hC with hC1 hC2;subst hC1 hC2;obtain ⟨x0,x1,x2,x3,x4⟩:=Z8 h;obtain ⟨y0,y1⟩:=Zaz (h.pull 1 _ rfl);have f0:=frozen_of_row h.heap;have f1:=frozen_of_row (h.pull 1 _ rfl).heap;have HQ:=Zh hQ;have H1:=Zh h;clear h hQ;go_upto_region 2 with fail;refine Zay (fun w'=>(w'.cell? ⟨g8,0,none⟩=some (int i64 0)∧w'.cell? ⟨g8,1,none⟩=some (int i64 0)∧w'.cell? ⟨g8,2,none⟩=some (int i64 0)∧w'.cell? ⟨g8,3,none⟩=some (int i64 0)∧w'.cell? ⟨g8,4,none⟩=some (int i64 0))∧w'.cell? ⟨g9,0,none⟩=some (int i64 0)∧w'.cell? ⟨g9,1,none⟩=some (int i64 0)) [0,1] [2] [3,4,5] (by kernel_rfl) (by kernel_rfl) (by (exact ⟨⟨x0,x1,x2,x3,x4⟩,y0,y1⟩)) ?_;simp only [pickL,Zg,Zi];repeat (refine ZM _ (Or.inl ⟨by rfl,by (intro w hSw;(try dsimp only at hSw);go_simp;try with_reducible rfl)⟩) ?_;(try go_frame))
 refine Z7 ?_;unfold Zr;go_wp2_with fail;have h2:=(H1.o.set5 (int i64 0) (int i64 0) (int i64 0) (int i64 0) (int i64 0)).drew;generalize (World.drew _:World)=w5 at h2 |-;clear x0 x1 x2 x3 x4 y0 y1 f0 f1;obtain ⟨x0,x1,x2,x3,x4⟩:=Z8 h2;obtain ⟨y0,y1⟩:=Zaz (h2.pull 1 _ rfl);have f1:=frozen_of_row (h2.pull 1 _ rfl).heap;have H2:=Zh h2;clear h2;refine Zm ⟨⟨x0,x1,x2,x3,x4⟩,y0,y1⟩ ?_;unfold Zr;go_wp2;refine Zw ?_;have h3:=((H2.o.pull 1 _ rfl).set2 (int i64 0) (int i64 0)).pull 1 _ rfl;generalize (World.setCell _ _ _:World)=w6 at h3 |-;have H3:=Zh h3;clear h3;go_wp2_with fail;exact HQ.o _ _ _ _ _ _ _ _ _ _ _ _ _ _ _ _ _ _ _ _ _ _ _ _ _ _ _ _ _ _ _ _ _ _ _ _ _ _ _ _ _ _ _ _ _ _ _ _ _ _ _ _ _ _ _ _ _ _ _ _ _ _ _ _ _ _ _ _ _ _ _ H3.o
theorem Zma {ca cb:Code} {Q:Exit->Act->World->Prop} {K:Act->World->Prop} (hK:∀ x y,cb.wp prog Q x y->K x y) (hC:(f130).body.bind (fromR 6)=some (.seq ca cb)) {x0 x1 x2 x3 x4 x6 x7 x11 x14 x15 x16 x17 x18 x19 x20 x21 x22 x23 x24 x25 x26 x27 x28 x29 x30 x31 x32 x33 x34 x35 x36 x37 x38 x39 x40 x41 x42 x43 x44 x45 x46 x47 x48 x49 x50 x51 x52 x53 x54 x55 x56 x57 x58 x59 x60 x61 x62 x63 x64 x65 x66 x67 x68 x69 x70 x71 x72 x73:Value} {g5 g8 g9:Nat} {s u0 u1 u2 u3 z:Int} {k:Nat} {nx:Bool}
  (h:St W I w (pt g5 (cells #[int i64 s,int i64 u0,int i64 u1,int i64 u2,int i64 u3] 108)::pt g8 (cells #[int i64 0,int i64 0,int i64 0,int i64 0,int i64 0] 108)::pt g9 (cells #[int i64 0,int i64 0] 41)::l))
  (hk:k<4) (hu:0<=(⟨s,u0,u1,u2,u3⟩:Fl).get k+z∧(⟨s,u0,u1,u2,u3⟩:Fl).get k+z<=5000)
  (hQ:∀ (y0 y1 y2 y3 y4 y5 y6 y7 y12 y13 y14 y15 y16 y17 y18 y19 y20 y21 y22 y23 y24 y25 y26 y27 y28 y29 y30 y31 y32 y33 y34 y35 y36 y37 y38 y39 y40 y41 y42 y43 y44 y45 y46 y47 y48 y49 y50 y51 y52 y53 y54 y55 y56 y57 y58 y59 y60 y61 y62 y63 y64 y65 y66 y67 y68 y69 y70 y71 y72 y73:Value) (w':World),St W I w' (pt g8 (cells ((⟨s,u0,u1,u2,u3⟩:Fl).put k ((⟨s,u0,u1,u2,u3⟩:Fl).get k+z)).cells 108)::pt g9 (cells #[int i64 s,int i64 k] 41)::l)->Q .ret ⟨#[y0,y1,y2,y3,y4,y5,y6,y7,pointer (some ⟨g8,0,none⟩),pointer (some ⟨g9,0,none⟩),.bool nx,.bool true,y12,y13,y14,y15,y16,y17,y18,y19,y20,y21,y22,y23,y24,y25,y26,y27,y28,y29,y30,y31,y32,y33,y34,y35,y36,y37,y38,y39,y40,y41,y42,y43,y44,y45,y46,y47,y48,y49,y50,y51,y52,y53,y54,y55,y56,y57,y58,y59,y60,y61,y62,y63,y64,y65,y66,y67,y68,y69,y70,y71,y72,y73],[]⟩ w') :
  ca.wp prog (Exit.then K Q) ⟨#[x0,x1,x2,x3,x4,pointer (some ⟨g5,0,none⟩),x6,x7,pointer (some ⟨g8,0,none⟩),pointer (some ⟨g9,0,none⟩),.bool nx,x11,int i64 z,int i64 k,x14,x15,x16,x17,x18,x19,x20,x21,x22,x23,x24,x25,x26,x27,x28,x29,x30,x31,x32,x33,x34,x35,x36,x37,x38,x39,x40,x41,x42,x43,x44,x45,x46,x47,x48,x49,x50,x51,x52,x53,x54,x55,x56,x57,x58,x59,x60,x61,x62,x63,x64,x65,x66,x67,x68,x69,x70,x71,x72,x73],[]⟩ w:=by
 injection hC with hC;injection hC with hC1 hC2;subst hC1 hC2;have y:=ZdS h hk;obtain ⟨f,hf⟩:∃ f:Fl,f=⟨s,u0,u1,u2,u3⟩:=⟨_,rfl⟩;rw [<-hf] at y hu hQ;obtain ⟨u,hu0⟩:=Zn (f.get k);rw [<-hu0] at y hu hQ;have f5:=frozen_of_row h.heap;have lg:=h.lt;have hw0:IntKind.i64.wrap (u+z)=u+z:=by rw [Zx];omega
 have HF:=Zh hf;have HQ:=Zh hQ;have H1:=Zh h;clear h hQ hf hu hu0;go_upto_region 7 with fail;have h3:=ZgB (x:=u+z) H1.o hk;rw [<-HF.o] at h3;generalize (World.setCell _ _ _:World)=w4 at h3 |-;obtain ⟨fq,hfq⟩:=Zn (f.put k (u+z));have hqs:fq.set=s:=by rw [hfq,HF.o];unfold Fl.put;(repeat' split) <;> rfl
 rw [<-hfq] at h3;have HFQ:=Zh hfq;obtain ⟨q,q0,q1,q2,q3⟩:=fq;obtain rfl:q=s:=hqs;simp only [Fl.cells] at h3;clear hfq y f5 lg;obtain ⟨x0,x1,x2,x3,x4⟩:=Z8 h3;have h4:=h3.pull 1 _ rfl;obtain ⟨y0,y1,y2,y3,y4⟩:=Z8 h4;obtain ⟨z0,z1⟩:=Zaz (h3.pull 2 _ rfl);have f8:=frozen_of_row h4.heap;have f9:=frozen_of_row (h3.pull 2 _ rfl).heap;have H3:=Zh h3;clear h3 h4;refine Zay (fun w'=>w'.cell? ⟨g5,0,none⟩=some (int i64 q)∧w'.cell? ⟨g5,1,none⟩=some (int i64 q0)∧w'.cell? ⟨g5,2,none⟩=some (int i64 q1)∧w'.cell? ⟨g5,3,none⟩=some (int i64 q2)∧w'.cell? ⟨g5,4,none⟩=some (int i64 q3)) [0,1,2,3,5,4] [6,7] [8,9] (by kernel_rfl) (by kernel_rfl) (by (exact ⟨x0,x1,x2,x3,x4⟩)) ?_;simp only [pickL,Zg,Zi];repeat (refine ZM _ (Or.inl ⟨by rfl,by (intro w hSw;(try dsimp only at hSw);go_simp;try with_reducible rfl)⟩) ?_;(try go_frame))
 refine Z7 ?_;unfold Zr;go_wp2_with fail;have h5:=((H3.o.pull 1 _ rfl).set5 (int i64 q) (int i64 q0) (int i64 q1) (int i64 q2) (int i64 q3)).drew;generalize (World.drew _:World)=w5 at h5 |-;clear x0 x1 x2 x3 x4 y0 y1 y2 y3 y4 z0 z1 f8 f9;obtain ⟨x0,x1,x2,x3,x4⟩:=Z8 (h5.pull 1 _ rfl);obtain ⟨z0,z1⟩:=Zaz (h5.pull 2 _ rfl);have f9:=frozen_of_row (h5.pull 2 _ rfl).heap;have H5:=Zh h5;clear h5;refine Zm ⟨x0,x1,x2,x3,x4⟩ ?_;unfold Zr;go_wp2_with fail;have h6:=(H5.o.pull 2 _ rfl).set2 (int i64 q) (int i64 k);generalize (World.setCell _ _ _:World)=w6 at h6 |-;obtain ⟨x0,x1,x2,x3,x4⟩:=Z8 (h6.pull 2 _ rfl);have H6:=Zh h6;clear h6;refine Zm ⟨x0,x1,x2,x3,x4⟩ ?_;unfold Zr;go_wp2;refine Zw ?_;go_wp2_with fail;refine HQ.o _ _ _ _ _ _ _ _ _ _ _ _ _ _ _ _ _ _ _ _ _ _ _ _ _ _ _ _ _ _ _ _ _ _ _ _ _ _ _ _ _ _ _ _ _ _ _ _ _ _ _ _ _ _ _ _ _ _ _ _ _ _ _ _ _ _ _ _ _ _ _ ?_;rw [<-HFQ.o];exact ((H6.o.pull 2 _ rfl).drop).pull 1 _ rfl
theorem Fl.empty_get (s o:Int):(⟨s,0,0,0,0⟩:Fl).get o=0:=by
 unfold Fl.get
 (repeat' split) <;> rfl
def nextF (f:Fl) (nx:Bool):Fl:=if nx=true then ⟨f.set+1,0,0,0,0⟩ else f
theorem Zsi {ca cb:Code} {Q:Exit->Act->World->Prop} {K:Act->World->Prop} (hK:∀ x y,cb.wp prog Q x y->K x y) (hC:(f130).body.bind (fromR 3)=some (.seq ca cb)) {x0 x1 x6 x7 x11 x12 x13 x14 x15 x16 x17 x18 x19 x20 x21 x22 x23 x24 x25 x26 x27 x28 x29 x30 x31 x32 x33 x34 x35 x36 x37 x38 x39 x40 x41 x42 x43 x44 x45 x46 x47 x48 x49 x50 x51 x52 x53 x54 x55 x56 x57 x58 x59 x60 x61 x62 x63 x64 x65 x66 x67 x68 x69 x70 x71 x72 x73:Value} {g4 g5 g8 g9:Nat} {a b sz s u0 u1 u2 u3 seq n z:Int} {k:Nat} {nx:Bool}
  (h:St W I w (pt g4 (cells #[int i64 a,int i64 b,int i64 sz] 26)::pt g5 (cells #[int i64 s,int i64 u0,int i64 u1,int i64 u2,int i64 u3] 108)::pt g8 (cells #[int i64 0,int i64 0,int i64 0,int i64 0,int i64 0] 108)::pt g9 (cells #[int i64 0,int i64 0] 41)::l))
  (ha:1<=a∧a<=4) (ho:Int.tmod seq a=k) (hk:k<4) (hz:Zcg n=z) (hz1:0<=z∧z<=112) (hs:0<=s∧s<1073741824) (hu:0<=(⟨s,u0,u1,u2,u3⟩:Fl).get k∧(⟨s,u0,u1,u2,u3⟩:Fl).get k<=4096) (hc:decide (sz<(⟨s,u0,u1,u2,u3⟩:Fl).get k+z)=nx)
  (hQ:∀ (y0 y1 y2 y3 y4 y5 y6 y7 y12 y13 y14 y15 y16 y17 y18 y19 y20 y21 y22 y23 y24 y25 y26 y27 y28 y29 y30 y31 y32 y33 y34 y35 y36 y37 y38 y39 y40 y41 y42 y43 y44 y45 y46 y47 y48 y49 y50 y51 y52 y53 y54 y55 y56 y57 y58 y59 y60 y61 y62 y63 y64 y65 y66 y67 y68 y69 y70 y71 y72 y73:Value) (w':World),St W I w' (pt g8 (cells ((nextF ⟨s,u0,u1,u2,u3⟩ nx).put k ((nextF ⟨s,u0,u1,u2,u3⟩ nx).get k+z)).cells 108)::pt g9 (cells #[int i64 (nextF ⟨s,u0,u1,u2,u3⟩ nx).set,int i64 k] 41)::l)->Q .ret ⟨#[y0,y1,y2,y3,y4,y5,y6,y7,pointer (some ⟨g8,0,none⟩),pointer (some ⟨g9,0,none⟩),.bool nx,.bool true,y12,y13,y14,y15,y16,y17,y18,y19,y20,y21,y22,y23,y24,y25,y26,y27,y28,y29,y30,y31,y32,y33,y34,y35,y36,y37,y38,y39,y40,y41,y42,y43,y44,y45,y46,y47,y48,y49,y50,y51,y52,y53,y54,y55,y56,y57,y58,y59,y60,y61,y62,y63,y64,y65,y66,y67,y68,y69,y70,y71,y72,y73],[]⟩ w') :
  ca.wp prog (Exit.then K Q) ⟨#[x0,x1,int i64 seq,int i64 n,pointer (some ⟨g4,0,none⟩),pointer (some ⟨g5,0,none⟩),x6,x7,pointer (some ⟨g8,0,none⟩),pointer (some ⟨g9,0,none⟩),.bool false,x11,x12,x13,x14,x15,x16,x17,x18,x19,x20,x21,x22,x23,x24,x25,x26,x27,x28,x29,x30,x31,x32,x33,x34,x35,x36,x37,x38,x39,x40,x41,x42,x43,x44,x45,x46,x47,x48,x49,x50,x51,x52,x53,x54,x55,x56,x57,x58,x59,x60,x61,x62,x63,x64,x65,x66,x67,x68,x69,x70,x71,x72,x73],[]⟩ w:=by
 injection hC with hC;injection hC with hC1 hC2;subst hC1 hC2;obtain ⟨x0,x1,x2⟩:=Zak h;have h1:=h.pull 1 _ rfl;have y:=ZdS h1 hk;obtain ⟨u,hu0⟩:=Zn ((⟨s,u0,u1,u2,u3⟩:Fl).get k);rw [<-hu0] at y hu hc;have ha0:¬ a=0:=by omega
 have hw0:IntKind.i64.wrap (k:Int)=k:=by rw [Zx];omega
 have hw1:IntKind.i64.wrap (u+z)=u+z:=by rw [Zx];omega
 have hw2:IntKind.i64.wrap (s+1)=s+1:=by rw [Zx];omega
 have HQ:=Zh hQ;have H1:=Zh h;have HU:=Zh hu0;have HUB:=Zh (And.intro hu hz1);have HZ:=Zh (Zkt n);rw [hz] at HZ;clear h h1 hQ hz ha hu hs hz1 hu0;go_upto_region 3 with fail;refine Zay (fun w'=>w'.cell? ⟨g4,0,none⟩=some (int i64 a)) [0,2,3,4,5] [1,6] [7] (by kernel_rfl) (by kernel_rfl) (by (exact x0)) ?_;simp only [pickL,Zg,Zi];repeat (refine ZM _ (Or.inl ⟨by rfl,by (intro w hSw;(try dsimp only at hSw);go_simp;try with_reducible rfl)⟩) ?_;(try go_frame))
 refine Z7 ?_;unfold Zr;go_wp2_with fail;refine (HZ.o _).mono ?_;rintro e w2 ⟨rfl,rfl⟩;go_wp2;refine Zm x0 ?_;unfold Zr;go_wp2;refine Zm x0 ?_;unfold Zr;go_wp2;refine Zw ?_;go_upto_region 4 with fail;cases nx;all_goals
  go_quiet (fail);have h2:=H1.o.drew.drewN nq;generalize (World.drewN _ _:World)=w3 at h2 |-;clear x0 x1 x2 y hc;obtain ⟨y0,y1,y2,y3,y4⟩:=Z8 (h2.pull 1 _ rfl);have f5:=frozen_of_row (h2.pull 1 _ rfl).heap;have lg:=(h2.pull 1 _ rfl).lt;have H2:=Zh h2;clear h2
 ·go_upto_region 6 with fail;exact Zma (by assumption) (by kernel_rfl) (H2.o.drop) hk (by rw [<-HU.o];have:=HUB.o;omega) HQ.o
 ·go_upto_region 6 with fail;have h3:=((H2.o.pull 1 _ rfl).set5 (int i64 (s+1)) (int i64 0) (int i64 0) (int i64 0) (int i64 0)).pull 1 _ rfl;refine Zma (by assumption) (by kernel_rfl) h3.drop hk (by have:=Fl.empty_get (s+1) k;have:=HUB.o;omega) HQ.o
end
section
theorem Zlm {c:Rg} {f:Fl} (h:f.okB c=true) (hc:c.okB=true):(0<=f.u0∧f.u0<=4096)∧(0<=f.u1∧f.u1<=4096)∧(0<=f.u2∧f.u2<=4096)∧(0<=f.u3∧f.u3<=4096)∧(0<=f.set∧f.set<1073741824):=by
 unfold Fl.okB at h;unfold Rg.okB at hc;rw [Zk] at h hc;omega
theorem ZqY (c:Rg) (f:Fl) (seq n:Int) (w:World):Calls prog 130 #[c.val,f.val,int i64 seq,int i64 n] w fun e w'=>e=.returned (.tuple #[(rput c f seq n).1.val,(rput c f seq n).2.1.val,.bool (rput c f seq n).2.2.1,.bool (rput c f seq n).2.2.2])∧Below w.heap.size w w':=by
 obtain ⟨a,b,sz⟩:=c;obtain ⟨s,u0,u1,u2,u3⟩:=f;have hr:=Zgb ⟨a,b,sz⟩;have hf:=ZqX ⟨a,b,sz⟩ ⟨s,u0,u1,u2,u3⟩;have h4:=(((((St.init w).alloc (cells #[int i64 a,int i64 b,int i64 sz] 26)).alloc (cells #[int i64 s,int i64 u0,int i64 u1,int i64 u2,int i64 u3] 108)).alloc (cells #[int i64 0,int i64 0,int i64 0,int i64 0,int i64 0] 108)).alloc (cells #[int i64 0,int i64 0] 41));simp only [Zew] at h4;obtain ⟨ok,hok⟩:∃ ok,Rg.okB ⟨a,b,sz⟩=ok:=⟨_,rfl⟩;obtain ⟨fk,hfk⟩:∃ fk,Fl.okB ⟨a,b,sz⟩ ⟨s,u0,u1,u2,u3⟩=fk:=⟨_,rfl⟩;rw [hok] at hr;rw [hfk] at hf;have HOK:=Zh hok;have HFK:=Zh hfk;unfold Rg.val at hr;unfold Fl.val Rg.val at hf;have HR:=Zh hr;have HF:=Zh hf;have H4:=Zh h4;clear hr hf hok hfk h4;obtain ⟨r,hrr⟩:∃ r,rput ⟨a,b,sz⟩ ⟨s,u0,u1,u2,u3⟩ seq n=r:=⟨_,rfl⟩;have HRR:=Zh hrr;rw [hrr];clear hrr;unfold Rg.val Fl.val;go_enter func130,ntmps130;go_upto_region 1 with fail;have h4:=H4.o;have HB4:=Zh h4.below;generalize (World.alloc _ _:World)=w4 at h4 HB4 |-;obtain ⟨x0,x1,x2⟩:=Zak (h4.pull 3 _ rfl);obtain ⟨y0,y1,y2,y3,y4⟩:=Z8 (h4.pull 2 _ rfl);have H5:=Zh h4;clear h4 H4;go_wp2_with fail;refine (HR.o w4).mono ?_;rintro e w5 ⟨rfl,hb5⟩;have h5:=H5.o.keep hb5;clear x0 x1 x2 y0 y1 y2 y3 y4 hb5;obtain ⟨x0,x1,x2⟩:=Zak (h5.pull 3 _ rfl);obtain ⟨y0,y1,y2,y3,y4⟩:=Z8 (h5.pull 2 _ rfl);have H6:=Zh h5;clear h5 HB4 H5;cases ok with
 | false =>
  obtain rfl:(Fl.zero,⟨0,0⟩,false,false)=r:=by rw [<-HRR.o];unfold rput;rw [Zb (.inl HOK.o)]
  go_upto_region 2 with fail;refine ZmA (by assumption) (by kernel_rfl) (H6.o.pull 1 _ rfl) ?_;intro _ _ _ _ _ _ _ _ _ _ _ _ _ _ _ _ _ _ _ _ _ _ _ _ _ _ _ _ _ _ _ _ _ _ _ _ _ _ _ _ _ _ _ _ _ _ _ _ _ _ _ _ _ _ _ _ _ _ _ _ _ _ _ _ _ _ _ _ _ _ w7 h7;simp only [ZF,ZE] at h7;go_wp2_with fail;obtain ⟨z0,z1,z2,z3,z4⟩:=Z8 h7;obtain ⟨q0,q1⟩:=Zaz (h7.pull 1 _ rfl);refine Zaj (v:=.tuple #[.agg #[int i64 0,int i64 0,int i64 0,int i64 0,int i64 0],.agg #[int i64 0,int i64 0],.bool false,.bool false]) (by simp [results,results130,go_sem,z0,z1,z2,z3,z4,q0,q1]) rfl ?_;exact ⟨rfl,h7.below⟩
 | true =>
  have hf5:=HF.o w5;by_cases hbad:fk=false∨seq<1∨1099511627776<seq∨n<1∨90<n
  ·obtain rfl:(Fl.zero,⟨0,0⟩,false,false)=r:=by rw [<-HRR.o];unfold rput;rw [Zb (.inr (by rw [HFK.o];exact hbad))]
   have key:fk=false∨(fk=true∧decide (seq<1)=true)∨(fk=true∧decide (seq<1)=false∧decide (1099511627776<seq)=true)∨(fk=true∧decide (seq<1)=false∧decide (1099511627776<seq)=false∧decide (n<1)=true)∨(fk=true∧decide (seq<1)=false∧decide (1099511627776<seq)=false∧decide (n<1)=false∧decide (90<n)=true):=by
    simp only [Zk,ZT];cases fk
    ·exact .inl rfl
    ·simp only [Zi4,false_or,ZaR] at hbad |-;omega
   clear hbad;rcases key with rfl|⟨rfl,d1⟩|⟨rfl,d1,d2⟩|⟨rfl,d1,d2,d3⟩|⟨rfl,d1,d2,d3,d4⟩;all_goals
    go_wp2_with fail;refine hf5.mono ?_;clear hf5;rintro e w6 ⟨rfl,hb6⟩;have h6:=H6.o.keep hb6;clear x0 x1 x2 y0 y1 y2 y3 y4 hb6 H6;have H6:=Zh h6;clear h6;go_upto_region 2 with fail;refine ZmA (by assumption) (by kernel_rfl) (H6.o.pull 1 _ rfl) ?_;intro _ _ _ _ _ _ _ _ _ _ _ _ _ _ _ _ _ _ _ _ _ _ _ _ _ _ _ _ _ _ _ _ _ _ _ _ _ _ _ _ _ _ _ _ _ _ _ _ _ _ _ _ _ _ _ _ _ _ _ _ _ _ _ _ _ _ _ _ _ _ w7 h7;simp only [ZF,ZE] at h7;go_wp2_with fail;obtain ⟨z0,z1,z2,z3,z4⟩:=Z8 h7;obtain ⟨q0,q1⟩:=Zaz (h7.pull 1 _ rfl);refine Zaj (v:=.tuple #[.agg #[int i64 0,int i64 0,int i64 0,int i64 0,int i64 0],.agg #[int i64 0,int i64 0],.bool false,.bool false]) (by simp [results,results130,go_sem,z0,z1,z2,z3,z4,q0,q1]) rfl ?_;exact ⟨rfl,h7.below⟩
  ·obtain rfl:fk=true:=by cases fk <;> simp_all
   obtain ⟨ha,_,hsz⟩:(1<=a∧a<=4)∧(4<=b∧b<=8)∧(512<=sz∧sz<=4096):=by
    have hk:=HOK.o;unfold Rg.okB at hk;rw [Zk] at hk;exact hk
   have hg:=Zlm HFK.o HOK.o;obtain ⟨k,hk⟩:∃ k:Nat,(k:Int)=seq % a:=⟨(seq % a).toNat,by have:=ZgO seq (show a≠0 by omega);omega⟩;have hm1:seq % a<a:=ZgP _ (by omega);have hm:Int.tmod seq a=k:=by rw [hk];exact ZfL (by omega)
   obtain ⟨z,hz,hz1,hz2⟩:∃ z,Zcg n=z∧0<=z∧z<=112:=⟨_,rfl,by unfold Zcg;omega,by unfold Zcg;omega⟩;obtain ⟨nx,hnx⟩:=Zn (decide (sz<(⟨s,u0,u1,u2,u3⟩:Fl).get k+z));have hu:0<=(⟨s,u0,u1,u2,u3⟩:Fl).get k∧(⟨s,u0,u1,u2,u3⟩:Fl).get k<=4096:=by
    unfold Fl.get
    (repeat' split) <;> simp only at hg |- <;> omega
   obtain ⟨F,hF⟩:=Zn ((nextF ⟨s,u0,u1,u2,u3⟩ nx).put k ((nextF ⟨s,u0,u1,u2,u3⟩ nx).get k+z));obtain ⟨ps,hps⟩:=Zn ((nextF ⟨s,u0,u1,u2,u3⟩ nx).set);obtain rfl:(F,⟨ps,k⟩,nx,true)=r:=by
    rw [<-HRR.o];unfold rput;rw [Za (by rw [HOK.o,HFK.o];simp only [Zi4,false_or];omega)];simp only [hz,<-hk];rw [hF,hps];by_cases hc:sz<(⟨s,u0,u1,u2,u3⟩:Fl).get k+z
    ·rw [Zb hc,hnx,Zt hc];show ((⟨s+1,0,0,0,0⟩:Fl).put k ((⟨s+1,0,0,0,0⟩:Fl).get k+z),_,_,_)=_;rw [Fl.empty_get,Int.zero_add];rfl
    ·rw [Za hc,hnx,Zq hc];rfl
   have d1:decide (seq<1)=false:=Zq (by omega);have d2:decide (1099511627776<seq)=false:=Zq (by omega);have d3:decide (n<1)=false:=Zq (by omega);have d4:decide (90<n)=false:=Zq (by omega);have hk4:k<4:=by omega
   have HZ:=Zh hz;have HZ1:=Zh (And.intro hz1 hz2);have HU:=Zh hu;have HS:=Zh hg.2.2.2.2;have HM:=Zh hm;have HNX:=Zh hnx;have HFF:=Zh hF;have HPS:=Zh hps;clear hz hz1 hz2 hu hg hm hnx hF hps hk hm1 hsz hbad;go_wp2_with fail;refine hf5.mono ?_;clear hf5;rintro e w6 ⟨rfl,hb6⟩;have h6:=H6.o.keep hb6;clear x0 x1 x2 y0 y1 y2 y3 y4 hb6 H6;have H6:=Zh h6;clear h6;go_upto_region 3 with fail;refine Zsi (by assumption) (by kernel_rfl) (H6.o.perm (by ((try simp only [ZE,ZF,ZG,Zu]);repeat (first|with_reducible exact ZK _|(apply ZP;(· repeat (first|with_reducible exact ZO|with_reducible apply ZN))))))) ha HM.o hk4 HZ.o HZ1.o HS.o HU.o HNX.o.symm ?_;intro _ _ _ _ _ _ _ _ _ _ _ _ _ _ _ _ _ _ _ _ _ _ _ _ _ _ _ _ _ _ _ _ _ _ _ _ _ _ _ _ _ _ _ _ _ _ _ _ _ _ _ _ _ _ _ _ _ _ _ _ _ _ _ _ _ _ _ _ _ _ w7 h7;rw [<-HFF.o,<-HPS.o] at h7;obtain ⟨q,q0,q1,q2,q3⟩:=F;simp only [Fl.cells] at h7;go_wp2_with fail;obtain ⟨z0,z1,z2,z3,z4⟩:=Z8 h7;obtain ⟨y0,y1⟩:=Zaz (h7.pull 1 _ rfl);refine Zaj (v:=.tuple #[.agg #[int i64 q,int i64 q0,int i64 q1,int i64 q2,int i64 q3],.agg #[int i64 ps,int i64 k],.bool nx,.bool true]) (by simp [results,results130,go_sem,z0,z1,z2,z3,z4,y0,y1]) rfl ?_;exact ⟨rfl,h7.below⟩
theorem Zik (c:Rg) (f:Fl) (seq n:Int) (w:World):Calls prog 69 #[c.val,f.val,int i64 seq,int i64 n] w fun e w'=>e=.returned (.tuple #[(rput c f seq n).1.val,(rput c f seq n).2.1.val,.bool (rput c f seq n).2.2.1])∧Below w.heap.size w w':=by
 have hp:=ZqY c f seq n;obtain ⟨⟨⟨s1,v0,v1,v2,v3⟩,⟨ps,po⟩,nx,ok⟩,hr⟩:∃ r,rput c f seq n=r:=⟨_,rfl⟩;rw [hr] at hp |-;obtain ⟨a,b,sz⟩:=c;obtain ⟨s,u0,u1,u2,u3⟩:=f;have h4:=(((((St.init w).alloc (cells #[int i64 a,int i64 b,int i64 sz] 26)).alloc (cells #[int i64 s,int i64 u0,int i64 u1,int i64 u2,int i64 u3] 108)).alloc (cells #[int i64 0,int i64 0,int i64 0,int i64 0,int i64 0] 108)).alloc (cells #[int i64 0,int i64 0] 41));simp only [Zew] at h4;unfold Rg.val Fl.val at hp |-;simp only [Pl.val] at hp |-;have HP:=Zh hp;have H4:=Zh h4;clear hp h4 hr;go_enter func69,ntmps69;go_upto_region 1 with fail;have h4:=H4.o;generalize (World.alloc _ _:World)=w4 at h4 |-;obtain ⟨x0,x1,x2⟩:=Zak (h4.pull 3 _ rfl);obtain ⟨y0,y1,y2,y3,y4⟩:=Z8 (h4.pull 2 _ rfl);have H5:=Zh h4;clear h4 H4;go_wp2_with fail;refine (HP.o w4).mono ?_;rintro e w5 ⟨rfl,hb5⟩;have h5:=H5.o.keep hb5;clear x0 x1 x2 y0 y1 y2 y3 y4 hb5;have h6:=(h5.alloc (cells #[int i64 s1,int i64 v0,int i64 v1,int i64 v2,int i64 v3] 108)).alloc (cells #[int i64 ps,int i64 po] 41);simp only [Zew] at h6;have H6:=Zh h6;have H5:=Zh h5;clear h5 h6;go_upto_region 2 with fail;have h6:=H6.o;generalize (World.alloc _ _:World)=w6 at h6 |-;obtain ⟨x0,x1,x2,x3,x4⟩:=Z8 (h6.pull 1 _ rfl);obtain ⟨y0,y1⟩:=Zaz h6;have f2:=frozen_of_row (h6.pull 3 _ rfl).heap;obtain ⟨z0,z1,z2,z3,z4⟩:=Z8 (h6.pull 3 _ rfl);have H7:=Zh h6;clear h6 H6;refine Zay (fun w'=>(w'.cell? ⟨w5.heap.size,0,none⟩=some (int i64 s1)∧w'.cell? ⟨w5.heap.size,1,none⟩=some (int i64 v0)∧w'.cell? ⟨w5.heap.size,2,none⟩=some (int i64 v1)∧w'.cell? ⟨w5.heap.size,3,none⟩=some (int i64 v2)∧w'.cell? ⟨w5.heap.size,4,none⟩=some (int i64 v3))∧w'.cell? ⟨w5.heap.size+1,0,none⟩=some (int i64 ps)∧w'.cell? ⟨w5.heap.size+1,1,none⟩=some (int i64 po)) [0,1,2] [3,4] [5] (by kernel_rfl) (by kernel_rfl) (by (exact ⟨⟨x0,x1,x2,x3,x4⟩,y0,y1⟩)) ?_;simp only [pickL,Zg,Zi];repeat (refine ZM _ (Or.inl ⟨by rfl,by (intro w hSw;(try dsimp only at hSw);go_simp;try with_reducible rfl)⟩) ?_;(try go_frame))
 refine Z7 ?_;unfold Zr;go_wp2_with fail;have h8:=((H7.o.pull 3 _ rfl).set5 (int i64 s1) (int i64 v0) (int i64 v1) (int i64 v2) (int i64 v3)).drew;generalize (World.drew _:World)=w8 at h8 |-;clear x0 x1 x2 x3 x4 y0 y1 f2 z0 z1 z2 z3 z4;obtain ⟨x0,x1,x2,x3,x4⟩:=Z8 (h8.pull 2 _ rfl);obtain ⟨y0,y1⟩:=Zaz (h8.pull 1 _ rfl);have f3:=frozen_of_row (h8.pull 3 _ rfl).heap;obtain ⟨z0,z1⟩:=Zaz (h8.pull 3 _ rfl);have H8:=Zh h8;clear h8;refine Zm ⟨⟨x0,x1,x2,x3,x4⟩,y0,y1⟩ ?_;unfold Zr;go_wp2_with fail;have h9:=((H8.o.pull 3 _ rfl).set2 (int i64 ps) (int i64 po));generalize (World.setCell _ _ _:World)=w9 at h9 |-;clear x0 x1 x2 x3 x4 y0 y1 f3 z0 z1;obtain ⟨x0,x1,x2,x3,x4⟩:=Z8 (h9.pull 3 _ rfl);obtain ⟨y0,y1⟩:=Zaz (h9.pull 2 _ rfl);refine Zm ⟨⟨x0,x1,x2,x3,x4⟩,y0,y1⟩ ?_;unfold Zr;obtain ⟨q0,q1⟩:=Zaz h9;obtain ⟨z0,z1,z2,z3,z4⟩:=Z8 (h9.pull 1 _ rfl);have H9:=Zh h9.below;clear h9;go_wp2;refine Zw ?_;go_wp2;refine Zaj (v:=.tuple #[.agg #[int i64 s1,int i64 v0,int i64 v1,int i64 v2,int i64 v3],.agg #[int i64 ps,int i64 po],.bool nx]) (by simp [results,results69,go_sem,z0,z1,z2,z3,z4,q0,q1]) rfl ?_;exact ⟨rfl,H9.o⟩
end
def sevN:Nat->Nat->List Int
 | 0,u=>[(u:Int)]
 | f+1,u=>if 128<=u then (((u % 128:Nat):Int)+128)::sevN f (u / 128) else [(u:Int)]
def varB (n:Int):List Int:=sevN 8 n.toNat
theorem Zhi:∀ (f u:Nat),1<=(sevN f u).length∧(sevN f u).length<=f+1
 | 0,u=>by simp [sevN]
 | f+1,u=>by
  have:=Zhi f (u / 128);unfold sevN;split <;> simp <;> omega
theorem ZfY (n:Int):1<=(varB n).length∧(varB n).length<=9:=Zhi 8 _
theorem Zku:∀ (f u:Nat),u<2 ^ (7*f+7)->∀ x ∈ sevN f u,isByte x
 | 0,u,hu=>by
  simp only [sevN,Zbj,forall_eq,isByte];simp at hu;omega
 | f+1,u,hu=>by
  unfold sevN;split
  ·intro x hx;rcases Z4.1 hx with rfl|hx
   ·unfold isByte;omega
   ·refine Zku f (u / 128) ?_ x hx;rw [show 7*(f+1)+7=(7*f+7)+7 by omega,ZfJ] at hu;omega
  ·intro x hx;rw [Zbj] at hx;subst hx;unfold isByte;omega
theorem Zkv {n:Int} (h:n<9223372036854775808):∀ x ∈ varB n,isByte x:=Zku 8 _ (by simp;omega)
theorem u8_or128 (x:Int) (h0:0<=x) (h1:x<256):bits .or .u8 x 128=x % 128+128:=by
 obtain ⟨X,rfl⟩:∃ X:Nat,x=X:=⟨x.toNat,by omega⟩;have:∀ X:Nat,X<256->bits .or .u8 (X:Int) 128=(X:Int) % 128+128:=by decide +kernel
 exact this X (by omega)
theorem Zln (x:Int) (h0:0<=x) (h1:x<256):bits .and .u8 x 127=x % 128:=by
 obtain ⟨X,rfl⟩:∃ X:Nat,x=X:=⟨x.toNat,by omega⟩;have:∀ X:Nat,X<256->bits .and .u8 (X:Int) 127=(X:Int) % 128:=by decide +kernel
 exact this X (by omega)
section
theorem Zsj (v:Value) (b:List Int) (n:Int) (w:World) (hs:SliceSrc w 1 v b.length (b.map byteV)) (hn0:0<=n) (hn:n<9223372036854775808) (hbl:b.length<=1000000) :
  Calls prog 204 #[v,int i64 n] w fun e w'=>∃ v',e=.returned v'∧Below w.heap.size w w'∧w'.ownsRow w.heap.size 5 1 v' (b++varB n).length ((b++varB n).map byteV):=by
 obtain ⟨N,rfl⟩:∃ N:Nat,n=N:=⟨n.toNat,by omega⟩;have hn63:N<9223372036854775808:=by omega
 go_enter func204,ntmps204;go_wp2_with fail;refine (Zbk v b.length (b.map byteV) w hs hbl).mono ?_;rintro e w1 ⟨v1,rfl,ho1,hb1⟩;have h1:St w w.hp w1 (HP.row 5 1 v1 b.length (b.map byteV)::[]):=(St.init w).row_fresh hb1 ho1;obtain ⟨A1,c1,rfl⟩:=ZA ho1;have H1:=Zh h1;have hmx:max (N:Int) 0=N:=by omega
 clear h1 ho1 hb1;go_wp2_with fail;have hst0:(128:Nat)<=128:=ZC _;go_loopw [5,6] (fun a5 a6 wr=>∃ (p:List Int) (f u:Nat) (A:Option Addr) (c:Nat),a6=int u64 u∧a5=slice A (b++p).length c∧p++sevN f u=sevN 8 N∧u<2 ^ (7*f+7)∧f<=8∧p.length+f=8∧St w w.hp wr (HP.row 5 1 (slice A (b++p).length c) (b++p).length ((b++p).map byteV)::[])) (fun _ a6 _=>(intOf a6).toNat);case atStart=>exact ⟨[],8,N,A1,c1,rfl,by simp,rfl,by simp;omega,by omega,rfl,by simpa using H1.o⟩
 case round =>
  obtain ⟨p,f,u,A,c,rfl,rfl,hp,hu,hf,hpf,hst⟩:=hrel
  have hu63:u<9223372036854775808:=ZfC hu (by
   have:=ZiJ (show 1<=2 by decide) (show 7*f+7<=63 by omega)
   omega)
  by_cases hge:128<=u
  ·have dg:decide ((128:Int)<=(u:Int))=true:=by rw [Zk];omega
   cases f with
   | zero=>simp at hu;omega
   | succ f =>
    have ho:=u8_or128 ((u:Int) % 256) (by omega) (by omega);have e0:(u:Int) % 256 % 128+128=((u % 128:Nat):Int)+128:=by omega
    have hst2:=hst.keep (ZS wr (cells #[int .u8 (((u % 128:Nat):Int)+128)] 5));obtain ⟨v',w',hr,h2⟩:=St.bytes_append 46 hst2 (Zij wr (((u % 128:Nat):Int)+128)) (by rw [Zs];omega);obtain ⟨A',c',rfl⟩:=ZA h2.row_owns;have e2:(b++p).length+1=(b++(p++[((u % 128:Nat):Int)+128])).length:=by simp [Zbb]
    have e3:(b++p).map byteV++[int .u8 (((u % 128:Nat):Int)+128)]=(b++(p++[((u % 128:Nat):Int)+128])).map byteV:=by rw [<-ZV,Zbo (l₂:=[((u % 128:Nat):Int)+128])];rfl
    rw [e3,e2] at h2;rw [e2] at hr
    have HP:=Zh (show (p++[((u % 128:Nat):Int)+128])++sevN f (u / 128)=sevN 8 N by
     rw [<-hp,ZV];conv=>rhs;unfold sevN
     rw [Zb hge]
     rfl)
    have HU:=Zh (show u / 128<2 ^ (7*f+7) by
     rw [show 7*(f+1)+7=(7*f+7)+7 by omega,ZfJ] at hu
     omega)
    have ho:=ho.trans e0;have HR:=Zh hr;have H2:=Zh h2;have HL:=Zh hpf;clear hst hst2 hr h2 e2 e3 e0 hp hu hpf hst0;go_wp2_with (at_builtin;refine ZZ _ rfl (.tmp 14) (.tmp 18) 46 46 rfl _ _ rfl rfl _ _ HR.o ?_);go_roundw;case rel=>exact ⟨_,f,u / 128,A',c',by go_num,by simp,HP.o,HU.o,by omega,by have:=HL.o;rw [Zs,ZcT];omega,H2.o⟩
    case measure=>simp [intOf]<;>omega
  ·have dg:decide ((128:Int)<=(u:Int))=false:=by rw [ZT];omega
   have hs:sevN f u=[(u:Int)]:=by
    cases f with
    | zero=>rfl
    | succ f=>unfold sevN;rw [Za hge]
   rw [hs] at hp;have e0:(u:Int) % 256=u:=by omega
   have hst2:=hst.keep (ZS wr (cells #[int .u8 (u:Int)] 5));obtain ⟨v',w',hr,h2⟩:=St.bytes_append 46 hst2 (Zij wr (u:Int)) (by rw [Zs];omega);obtain ⟨A',c',rfl⟩:=ZA h2.row_owns;have e2:(b++p).length+1=(b++varB N).length:=by
    have:varB (N:Int)=p++[(u:Int)]:=by rw [hp];rfl
    rw [this];simp [Zbb]
   have e3:(b++p).map byteV++[int .u8 (u:Int)]=(b++varB N).map byteV:=by
    have:varB (N:Int)=p++[(u:Int)]:=by rw [hp];rfl
    rw [this,<-ZV,Zbo (l₂:=[(u:Int)])];rfl
   rw [e3,e2] at h2;rw [e2] at hr;have HR:=Zh hr;have H2:=Zh h2;clear hst hst2 hr h2 e2 e3 hp hu hpf hst0 hs;go_wp2_with (at_builtin;refine ZZ _ rfl (.tmp 22) (.tmp 25) 46 46 rfl _ _ rfl rfl _ _ HR.o ?_);go_ret;refine ⟨_,rfl,H2.o.below,?_⟩;have e9:b.length+(varB (N:Int)).length=(b++varB N).length:=by simp
   show w'.ownsRow _ _ _ (slice A' (b.length+(varB (N:Int)).length) c') _ _;rw [e9];exact H2.o.row_new
theorem ZsW {n x:Int} {i:Nat} (h0:0<=n) (h1:n<2 ^ (7*i)) (hx0:0<=x) (hx1:x<128) (hi:i<9):bits .or u64 n (IntKind.u64.wrap (x*2 ^ (7*i)))=n+x*2 ^ (7*i):=by
 obtain ⟨N,rfl⟩:∃ N:Nat,n=N:=⟨n.toNat,by omega⟩;obtain ⟨X,rfl⟩:∃ X:Nat,x=X:=⟨x.toNat,by omega⟩;have hN:N<2 ^ (7*i):=by exact_mod_cast h1
 have hX:X<128:=by omega
 have hp:X*2 ^ (7*i)+2 ^ (7*i)<=2 ^ 63:=by
  have h2:2 ^ (7*i)*128<=2 ^ 63:=by
   rw [show (128:Nat)=2 ^ 7 by rfl,<-ZfJ];exact ZiJ (by decide) (by omega)
  have h3:(X+1)*2 ^ (7*i)<=128*2 ^ (7*i):=Zdb _ (by omega);rw [ZcK,Nat.one_mul] at h3;omega
 have e1:(X:Int)*2 ^ (7*i)=((X*2 ^ (7*i):Nat):Int):=by push_cast;rfl
 rw [e1,IntKind.wrap_u64];have e2:((X*2 ^ (7*i):Nat):Int) % 18446744073709551616=((X*2 ^ (7*i):Nat):Int):=by omega
 rw [e2];show IntKind.u64.wrap ((BitVec.ofInt 64 (N:Int) ||| BitVec.ofInt 64 ((X*2 ^ (7*i):Nat):Int)).toNat:Nat)=_;rw [BitVec.toNat_or,Zi1,Zi1,Zi2,Zi2,Zi3 (by omega),Zi3 (by omega),Nat.or_comm,ZfK,<-Nat.two_pow_add_eq_or_of_lt hN,IntKind.wrap_u64,ZfK];omega
theorem Zfd (v:Value) (b rest:List Int) (at':Nat) (N:Nat) (w:World) (hs:SliceSrc w 1 v b.length (b.map byteV)) (hb:b.drop at'=varB N++rest) (hn:N<9223372036854775808) (hbl:b.length<=1000000) :
  Calls prog 212 #[v,int i64 at'] w fun e w'=>e=.returned (.tuple #[int i64 N,int i64 (at'+(varB N).length:Nat),.bool true])∧w=w':=by
 obtain ⟨A,c,rfl,hsrc,_⟩:=hs;have hvl:=ZfY (N:Int);have hbl2:b.length=at'+((varB N).length+rest.length):=by
  have:=congrArg List.length hb;rw [ZW,Zs] at this;omega
 obtain ⟨g,o,rfl,hlt0,hc⟩:=ZgA hsrc (by omega);have HC:=Zh hc;have HB:=Zh hb;clear hc hsrc hb;have h1:decide ((at':Int)<0)=false:=by rw [ZT];omega
 go_enter func212,ntmps212;go_wp2_with fail;go_loop [7,8,9] (fun a7 a8 a9=>∃ (i f u:Nat),a8=int i64 i∧i+f=8∧a7=int u64 ((N:Int) % 2 ^ (7*i))∧u=N / 2 ^ (7*i)∧b.drop (at'+i)=sevN f u++rest∧(varB N).length=i+(sevN f u).length∧(0<i->0<u)) (fun _ a8 _=>9 - (intOf a8).toNat);case atStart=>exact ⟨0,8,N,rfl,rfl,by simp [Nat.mod_one],by simp,HB.o,by simp [varB],by omega⟩
 case round =>
  obtain ⟨i,f,u,rfl,hif,rfl,hu,hd,hl,hpos⟩:=hrel;have hlen:=congrArg List.length hd;rw [ZW,Zs] at hlen;have hl1:=Zhi f u;have d0:decide ((i:Int)<9)=true:=by rw [Zk];omega
  have d1:decide ((at':Int)<(b.length:Int) - (i:Int))=true:=by rw [Zk];omega
  have hin:(at':Int)+(i:Int)<(b.length:Int):=by omega
  have hp0:0<2 ^ (7*i):=Nat.pow_pos (by decide);have hmod:N % 2 ^ (7*i)<2 ^ (7*i):=Nat.mod_lt _ hp0;have hor:=ZsW (n:=((N % 2 ^ (7*i):Nat):Int)) (x:=((u % 128:Nat):Int)) (i:=i) (by omega) (by exact_mod_cast hmod) (by omega) (by omega) (by omega);have hdm:=Nat.div_add_mod N (2 ^ (7*i));rw [<-hu] at hdm;have e1:((N % 2 ^ (7*i):Nat):Int)+((u % 128:Nat):Int)*2 ^ (7*i)=((N % 2 ^ (7*i)+2 ^ (7*i)*(u % 128):Nat):Int):=by push_cast;rw [Int.mul_comm]
  rw [e1] at hor;by_cases hge:128<=u
  ·cases f with
   | zero =>
    have:2 ^ 63<=2 ^ (7*i)*u:=by
     obtain rfl:i=8:=by omega
     omega
    omega
   | succ f =>
    have hs1:sevN (f+1) u=(((u % 128:Nat):Int)+128)::sevN f (u / 128):=by
     conv=>lhs;unfold sevN
     rw [Zb hge]
    have hx:b[at'+i]?=some (((u % 128:Nat):Int)+128):=by
     have:=congrArg (fun l=>l[0]?) hd;simpa [hs1] using this
    have y1:w.cell? ⟨g,o+(at'+i),none⟩=some (int .u8 (((u % 128:Nat):Int)+128)):=HC.o (at'+i) _ (by rw [ZcH,hx];rfl);have ha:=Zln (((u % 128:Nat):Int)+128) (by omega) (by omega);have ha2:(((u % 128:Nat):Int)+128) % 128=((u % 128:Nat):Int):=by omega
    rw [ha2] at ha;have dg:decide ((128:Int)<=((u % 128:Nat):Int)+128)=true:=by rw [Zk];omega
    rw [show N % 2 ^ (7*i)+2 ^ (7*i)*(u % 128)=N % 2 ^ (7*(i+1)) by
     rw [show 7*(i+1)=7*i+7 by omega,ZfJ,Nat.mod_mul,<-hu]] at hor
    push_cast at hor ha
    have HOR:=Zh hor;have HA:=Zh ha;have hw5:IntKind.u64.wrap ((u:Int) % 128)=(u:Int) % 128:=by rw [IntKind.wrap_u64];omega
    have HW5:=Zh hw5
    have HD:=Zh (show b.drop (at'+(i+1))=sevN f (u / 128)++rest by
     rw [<-Zbb,<-List.drop_drop,hd,hs1]
     rfl)
    have HU:=Zh (show u / 128=N / 2 ^ (7*(i+1)) by
     rw [show 7*(i+1)=7*i+7 by omega,ZfJ,<-Nat.div_div_eq_div_mul,<-hu])
    have HL:=Zh (show (varB (N:Int)).length=(i+1)+(sevN f (u / 128)).length by rw [hl,hs1,Z9];omega);have hq:0<u / 128:=by omega
    clear hs1 hx hd hl hlen hl1 hdm hmod hu e1 hpos hp0 ha2 hor ha hw5;go_wp2;go_round;case rel=>exact ⟨i+1,f,u / 128,by go_num,by omega,by rw [HA.o,HW5.o,HOR.o],HU.o,HD.o,HL.o,fun _=>hq⟩
    case measure=>simp [intOf]<;>omega
  ·have hs1:sevN f u=[(u:Int)]:=by
    cases f with
    | zero=>rfl
    | succ f=>unfold sevN;rw [Za hge]
   have hx:b[at'+i]?=some (u:Int):=by
    have:=congrArg (fun l=>l[0]?) hd;simpa [hs1] using this
   have hu128:u % 128=u:=by omega
   rw [hu128] at hor;have y1:w.cell? ⟨g,o+(at'+i),none⟩=some (int .u8 (u:Int)):=HC.o (at'+i) _ (by rw [ZcH,hx];rfl);have ha:=Zln (u:Int) (by omega) (by omega);have ha2:(u:Int) % 128=(u:Int):=by omega
   rw [ha2] at ha;have dg:decide ((128:Int)<=(u:Int))=false:=by rw [ZT];omega
   have e2:N % 2 ^ (7*i)+2 ^ (7*i)*u=N:=by omega
   rw [e2] at hor
   push_cast at hor
   have hl2:(varB (N:Int)).length=i+1:=by rw [hl,hs1];rfl
   have HL:=Zh hl2;have hw1:IntKind.i64.wrap (N:Int)=N:=by rw [Zx];omega
   clear hs1 hx hd hl hlen hl1 hdm hmod hu e1 hp0 ha2 hl2 hbl2 hvl hu128;by_cases h0:u=0
   ·subst h0;obtain rfl:i=0:=by
     rcases ZbF i with h|h
     ·exact h
     ·exact absurd (hpos h) (by omega)
    obtain rfl:N=0:=by
     rw [<-e2];simp [Nat.mod_one]
    have y2:w.cell? ⟨g,o+at',none⟩=some (int .u8 0):=by simpa using y1
    have hor0:bits .or u64 0 0=0:=by decide
    have hand0:bits .and .u8 0 127=0:=by decide
    clear y1 e2 hpos hor ha hif dg hge hw1;go_wp2;refine Zaj (v:=.tuple #[int i64 0,int i64 (at'+(0+1):Nat),.bool true]) (by simp [results,results212,go_sem,Int.add_assoc]) rfl ?_;exact ⟨rfl,rfl⟩
   ·clear e2;have hq0:(((u:Int))==0)=false:=by simpa using h0
    go_wp2;refine Zaj (v:=.tuple #[int i64 N,int i64 (at'+(i+1):Nat),.bool true]) (by simp [results,results212,go_sem,Int.add_assoc]) rfl ?_;rw [HL.o];exact ⟨rfl,rfl⟩
end
theorem Zde {α:Type} {mk:α->List Value} {k:Nat} (hk:∀ a,(mk a).length=k):∀ (l:List α) (i j:Nat) (a:α),l[i]?=some a->j<k->(l.flatMap mk)[i*k+j]?=(mk a)[j]?
 | [],i,j,a,h,_=>by simp at h
 | b::l,0,j,a,h,hj=>by
  simp only [Zg,Zaa] at h;subst h;rw [Za0,ZcE,ZX,ZiQ (by rw [hk];exact hj)]
 | b::l,i+1,j,a,h,hj=>by
  rw [Za0,ZfE (by rw [hk,ZcK];omega),hk,show (i+1)*k+j - k=i*k+j by rw [ZcK];omega];exact Zde hk l i j a (by simpa using h) hj
theorem ZeK {α:Type} {mk:α->List Value} {k:Nat} (hk:∀ a,(mk a).length=k):∀ l:List α,(l.flatMap mk).length=l.length*k
 | []=>by simp
 | a::l=>by rw [Za0,Zs,hk,ZeK hk l,Z9,ZcK];omega
theorem ZbL {α:Type} {mk:α->List Value} {k:Nat} {W w:World} {I I':Hp} {m:List HP} {v:Value} {l:List α} (h:RowI I k v l.length (l.flatMap mk)) (hs:I.sub I') (hst:St W I' w m) (hmk:∀ a,(mk a).length=k) {i:Nat} {a:α} (ha:l[i]?=some a) :
  ∃ b off,v=slice (some ⟨b,off,none⟩) l.length (match v with|slice _ _ c=>c|_=>0)∧∀ j,j<k->w.cell? ⟨b,off+i*k+j,none⟩=(mk a)[j]?:=by
 obtain ⟨A,c',rfl,h2,h3,h4,h5,h6⟩:=h;have hjl:=(ZH.1 ha).1;obtain ⟨b,off,cs,t,f,rfl,e2,e3⟩:=h6 (by omega);refine ⟨b,off,rfl,fun j hj=>?_⟩;rw [Zc (hst.imm_heap (hs _ _ e2)),Zbb];have h7:=Zde hmk l i j a ha hj;obtain ⟨u,hu⟩:∃ u,(mk a)[j]?=some u:=⟨_,Zy (by rw [hmk];exact hj)⟩;rw [hu];exact e3 (i*k+j) u (by rw [h7,hu])
end Go.Proofs.YtpjchngjhijgmaaGreat
