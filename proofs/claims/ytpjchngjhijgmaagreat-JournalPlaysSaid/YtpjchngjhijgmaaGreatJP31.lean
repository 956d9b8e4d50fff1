import Derived.Test.YtpjchngjhijgmaaGreatJP30
set_option linter.all false
set_option maxRecDepth 4000
set_option maxHeartbeats 8000000
open Go.RowKit
open Go.IntKind (i64 u64)
open Go.Value (int pointer slice)
open Go.Obj (cells)
namespace Go.Proofs.YtpjchngjhijgmaaGreat
open Tryz
open HP (pt mapOf)
variable {W w w':World} {I:Hp} {l:List HP}
structure RJ where
 c:Rg
 sets:List Int
 fill:Fl
 l:List En
 en:Int
 safe:Int
 chain:List Tag
 cls:List Cl
structure RV where
 vs:Value
 vl:Value
 vt:Value
 vc:Value
def Zft (R:RJ) (V:RV):Array Value :=
 #[int i64 R.c.splay,int i64 R.c.sets,int i64 R.c.size,V.vs,int i64 R.fill.set,int i64 R.fill.u0,int i64 R.fill.u1,int i64 R.fill.u2,int i64 R.fill.u3,V.vl,int i64 R.en,int i64 R.safe,V.vt,V.vc]
def rjI (R:RJ) (V:RV) (I:Hp):Prop:=RowI I 1 V.vs R.sets.length (R.sets.map intV)∧RowI I 4 V.vt R.chain.length (flat R.chain)∧RowI I 3 V.vc R.cls.length (R.cls.flatMap Cl.vals)
theorem rjI.mono {R:RJ} {V:RV} {I I':Hp} (s:I.sub I') (h:rjI R V I):rjI R V I':=⟨h.1.mono s,h.2.1.mono s,h.2.2.mono s⟩
def rjBlk (q:Nat) (R:RJ) (V:RV):HP:=pt q (cells (Zft R V) 162)
def rjHP (q:Nat) (R:RJ):HP:=HP.ex fun V:RV=>HP.all [rjBlk q R V,HP.imm ⟨rjI R V,fun s h=>h.mono s⟩,Zo V.vl R.l]
def Zdi (c:Rg) (at':Int) (ts:List Tag):RJ:=⟨c,[at'+1],Fl.zero,[],at',at',ts,[]⟩
theorem ZmM {α:Type} {p:α->Bool}:∀ {l:List α} {x:α},x ∈ l.takeWhile p->p x=true
 | [],_,h=>by cases h
 | a::l,x,h=>by
  rw [Zcv] at h;split at h
  ·rename_i q;rcases Z4.1 h with rfl|h
   ·exact q
   ·exact ZmM h
  ·cases h
theorem ZiF {α:Type} {p:α->Bool}:∀ {l:List α},(∀ x ∈ l,p x=true)->l.takeWhile p=l
 | [],_=>rfl
 | a::l,h=>by rw [Zcv,Zb (h a (Zat ..)),ZiF fun x hx=>h x (ZaB _ hx)]
theorem Zkb {l:List Tag}:∀ k,k<=l.length->ZaA l k=true->∀ t ∈ l.take k,t.at_<=Zbf (l.take k)
 | 0,_,_,t,ht=>by simp at ht
 | k+1,hk,h,t,ht=>by
  obtain ⟨x,hx⟩:∃ x,l[k]?=some x:=⟨_,Zy (by omega)⟩;unfold ZaA at h;rw [hx,ZR] at h;obtain ⟨h1,h2⟩:=h;have ih:=Zkb k (by omega) h1;simp only [tagOk,ZR,Zk] at h2;have hf:=h2.2.2.1;rw [Zee hx] at ht |-;rw [ZfU];rcases Za6.1 ht with ht|ht
  ·have:=ih t ht;omega
  ·rw [Zbj.1 ht];exact Zdc _
theorem ZoY {l:List Tag} (h:Z3 l=true):∀ t ∈ l,t.at_<=Zbf l:=by
 unfold Z3 at h;have:=Zkb l.length (ZC _) (Bool.and_eq_true_iff.1 h).2;rwa [ZbJ] at this
theorem ZlP {l:List Tag} {e:Int} (h:Z3 l=true):l.length<=(ZQ l e).length↔Zbf l<=e:=by
 have hne:l≠[]:=fun q=>by subst q;simp [Z3] at h
 constructor
 ·intro hl;have hp:ZQ l e<+:l:=Zdr _;have hle:=hp.length_le;have hall:ZQ l e=l:=hp.eq_of_length (by omega);have hmem:l.getLast hne ∈ ZQ l e:=by rw [hall];exact List.getLast_mem hne
  have hx:=ZmM (show l.getLast hne ∈ l.takeWhile (fun t=>decide (t.at_<=e)) from hmem);have hla:Zbf l=(l.getLast hne).at_:=by unfold Zbf;rw [List.getLast?_eq_some_getLast hne];rfl
  rw [hla];simpa using hx
 ·intro hl;have hall:∀ t ∈ l,(decide (t.at_<=e))=true:=fun t ht=>by
   rw [Zk];exact ZbT (ZoY h t ht) hl
  unfold ZQ;rw [ZiF hall];exact ZC _
section
variable {q : Nat} {R : RJ}
theorem St.rj_open (h:St W I w (rjHP q R::l)):∃ V:RV,rjI R V I∧St W I w (rjBlk q R V::Zo V.vl R.l::l):=by
 obtain ⟨V,h1⟩:=h.ex_open;obtain ⟨hr,h2⟩:=((h1.all_open).pull 1 _ rfl).imm_open;exact ⟨V,hr,h2⟩
theorem St.rj_shut {V:RV} (hr:rjI R V I) (h:St W I w (rjBlk q R V::Zo V.vl R.l::l)):St W I w (rjHP q R::l):=by
 refine St.ex_shut V ?_;refine St.all_shut ?_;exact ((St.imm_shut (A:=⟨rjI R V,fun s h=>h.mono s⟩) hr h).pull 1 _ rfl)
theorem Zcc {V:RV} (h:St W I w (rjBlk q R V::l)) (i:Nat):w.cell? ⟨q,i,none⟩=(Zft R V)[i]?:=Zc h.heap i
theorem Zad {V:RV} (h:St W I w (rjBlk q R V::l)):w.cell? ⟨q,0,none⟩=some (int i64 R.c.splay)∧w.cell? ⟨q,1,none⟩=some (int i64 R.c.sets)∧w.cell? ⟨q,2,none⟩=some (int i64 R.c.size)∧w.cell? ⟨q,3,none⟩=some V.vs∧w.cell? ⟨q,9,none⟩=some V.vl∧w.cell? ⟨q,10,none⟩=some (int i64 R.en)∧w.cell? ⟨q,11,none⟩=some (int i64 R.safe)∧w.cell? ⟨q,12,none⟩=some V.vt∧w.cell? ⟨q,13,none⟩=some V.vc∧q<w.heap.size :=
 ⟨Zcc h 0,Zcc h 1,Zcc h 2,Zcc h 3,Zcc h 9,Zcc h 10,Zcc h 11,Zcc h 12,Zcc h 13,h.lt⟩
theorem Zf3 {V:RV} (h1:St W I w (rjBlk q R V::l)) (hr:rjI R V I) {a:Int} (ha:R.sets[0]?=some a):Calls prog 97 #[pointer (some ⟨q,0,none⟩)] w fun e w'=>e=.returned (int i64 a)∧w=w':=by
 obtain ⟨As,cs,e2,hln,_⟩:=id hr.1;have x:w.cell? ⟨q,3,none⟩=some V.vs:=Zcc h1 3;have hI:IntsI I V.vs R.sets:=hr.1;rw [e2] at x hI;have hpos:0<R.sets.length:=(ZH.1 ha).1;obtain ⟨b,off,rfl,hc⟩:=hI.cells ha;have y:=hc (Hp.sub.refl _) h1;rw [ZaP] at y;have lt:=h1.lt;clear h1 hr hI hc hln e2 ha;go_enter func97,ntmps97;go_wp2;go_ret;exact ⟨rfl,rfl⟩
theorem Zqa:(prog.info? 159).map (fun i=>(i.zero,i.size,i.bytes))=some (some (.agg #[int i64 0]),1,8):=by kernel_rfl
theorem Zho {g:Nat} {x:Int} {t:TypeId} {f:Nat × Nat} (h:St W I w (pt g (cells #[int i64 x] t f)::l)):∃ I',I.sub I'∧RowI I' 1 (slice (some ⟨g,0,none⟩) 1 1) [x].length ([x].map intV)∧St W I' w l:=by
 obtain ⟨I',hs,hI,h2⟩:=h.freeze;exact ⟨I',hs,⟨some ⟨g,0,none⟩,1,rfl,rfl,ZC _,by unfold maxLen;omega,(fun e=>by cases e),fun _=>⟨g,0,_,_,_,rfl,hI,fun i y hy=>by simpa [intV] using hy⟩⟩,h2⟩
theorem Zqb (c:Rg) (at':Int) (At:Option Addr) (ct:Nat) (ts:List Tag) (h:St W I w l) (ht:RowI I 4 (slice At ts.length ct) ts.length (flat ts)) (hn:ts.length<=1000) :
  Calls prog 36 #[c.val,int i64 at',slice At ts.length ct] w fun e w'=>(goodM c at' ts=false∧e=.returned (pointer none)∧St W I w' l)∨(goodM c at' ts=true∧∃ I' q,I.sub I'∧e=.returned (pointer (some ⟨q,0,none⟩))∧St W I' w' (rjHP q (Zdi c at' ts)::l)):=by
 have HT:=Zh ht
 have HTA:=Zh (show ∀ w' L,St W I w' L->TagsAt w' At ts.length ts from fun w' L h1=>by
  obtain ⟨A,c,e,_,h9⟩:=ZbM h1 ht;simp only [Zz] at e;obtain ⟨rfl,_,_⟩:=e
  exact h9)
 have h1:=h.alloc (cells #[int i64 c.splay,int i64 c.sets,int i64 c.size] 26);have HRI:=Zh (fun w1=>Zka c w1);simp only [Rg.val] at HRI |-;have H1:=Zh h1;obtain ⟨g3,hg3⟩:=Zn w.heap.size;obtain ⟨w1,hw1⟩:=Zn (w.alloc (cells #[int i64 c.splay,int i64 c.sets,int i64 c.size] 26));rw [<-hg3,<-hw1] at H1;have hn1:(ts.length:Int)<=1000:=by omega
 clear h ht h1;go_enter func36,ntmps36;go_upto_region 1 with fail;rw [<-hg3,<-hw1];clear hg3 hw1;obtain ⟨c0,c1,c2⟩:=Zak H1.o;go_wp2_with fail;refine (HRI.o _).mono ?_;rintro e w2 ⟨rfl,hb2⟩;have h2:=H1.o.keep hb2;have H2:=Zh h2;obtain ⟨k0,hk0⟩:=Zn c.okB;rw [<-hk0];have HK0:=Zh hk0;clear hb2 h2 hk0 HRI H1 c0 c1 c2;cases k0 with
 | false =>
  have HG:=Zh (Zdf (c:=c) (at':=at') (ts:=ts) (.inl HK0.o.symm));go_wp2;go_ret;exact .inl ⟨HG.o,rfl,H2.o.drop⟩
 | true =>
 by_cases h0:at'<0
 ·have d0:decide (at'<0)=true:=Zt h0;have HG:=Zh (Zdf (c:=c) (at':=at') (ts:=ts) (.inr (.inl h0)));go_wp2;go_ret;exact .inl ⟨HG.o,rfl,H2.o.drop⟩
 have d0:decide (at'<0)=false:=Zq h0;by_cases h4:1099511627776<at'
 ·have d4:decide (1099511627776<at')=true:=Zt h4;have HG:=Zh (Zdf (c:=c) (at':=at') (ts:=ts) (.inr (.inr (.inl h4))));go_wp2;go_ret;exact .inl ⟨HG.o,rfl,H2.o.drop⟩
 have d4:decide (1099511627776<at')=false:=Zq h4;have HRC:=Zh (Zjf At ts.length ct ts w2 (HTA.o _ _ H2.o) (by omega));obtain ⟨k1,hk1⟩:=Zn (Z3 ts);rw [<-hk1] at HRC;have HK1:=Zh hk1;clear hk1;go_wp2_with fail;refine HRC.o.mono ?_;rintro e w3 ⟨rfl,hb3⟩;have h3:=H2.o.keep hb3;have H3:=Zh h3;clear hb3 h3 HRC H2;cases k1 with
 | false =>
  have HG:=Zh (Zdf (c:=c) (at':=at') (ts:=ts) (.inr (.inr (.inr (.inl HK1.o.symm)))));go_wp2;go_ret;exact .inl ⟨HG.o,rfl,H3.o.drop⟩
 | true =>
 obtain ⟨m,hm⟩:∃ m,ts.length=m+1:=⟨ts.length - 1,by
  have:=HK1.o.symm;unfold Z3 at this;have:=(Bool.and_eq_true_iff.1 this).1;rw [Zk] at this
  omega⟩
 obtain ⟨b,off,t,rfl,hbl,htm,_,_,_,y3⟩:=(HTA.o _ _ H3.o).at_ (k:=m) (by omega);have hla:Zbf ts=t.at_:=Zog hm htm;have hcw:=ZlP (e:=at') HK1.o.symm;rw [hla] at hcw;have HCW:=Zh hcw;obtain ⟨n,hnn⟩:=Zn ts.length;have HT3:=HT;rw [<-hnn] at HT3 hm |-;have HNN:=Zh hnn;have hwm:IntKind.i64.wrap ((n:Int) - 1)=(m:Int):=by rw [Zx];omega
 have hmn:m<n:=by omega
 clear hla htm hcw hnn hm;by_cases h5:at'<t.at_
 ·have d5:decide (at'<t.at_)=true:=Zt h5
  have HG:=Zh (Zdf (c:=c) (at':=at') (ts:=ts) (.inr (.inr (.inr (.inr (by
   apply Classical.byContradiction;intro hc;have:=HCW.o.1 (by omega)
   omega))))))
  go_wp2;go_ret;exact .inl ⟨HG.o,rfl,H3.o.drop⟩
 have d5:decide (at'<t.at_)=false:=Zq h5
 have HG:=Zh (show goodM c at' ts=true by
  unfold goodM;rw [<-HK0.o,<-HK1.o];simp only [ZR,Zk]
  exact ⟨⟨⟨⟨trivial,by omega⟩,by omega⟩,trivial⟩,HCW.o.2 (by omega)⟩)
 have hw9:IntKind.i64.wrap (at'+1)=at'+1:=by rw [Zx];omega
 go_upto_region 3 with fail;clear y3 d0 d4 d5 h5 hwm;refine Ze2 (fun w'=>w'.cell? ⟨g3,0,none⟩=some (int i64 c.splay)∧w'.cell? ⟨g3,1,none⟩=some (int i64 c.sets)∧w'.cell? ⟨g3,2,none⟩=some (int i64 c.size)) [0,1,2,3,4,5,6,7,8,9] (Tp.pull [0,1,2,3,5,6,8] (Tp.two 4 (Tp.one 7 (Tp.one 9 Tp.leaf)) 7 (Tp.two 4 (Tp.one 9 Tp.leaf) 9 (Tp.one 4 Tp.leaf)))) [10,11,12] (by kernel_rfl) (by kernel_rfl) (by (exact Zak H3.o.drew)) ?_;have H4:=Zh H3.o.drew;obtain ⟨w0,hw0⟩:=Zn w3.drew;rw [<-hw0] at H4 |-;clear hw0 H3;unfold wpTp
 (try simp only [pickL,Zg,Zi])
 repeat (first|refine ZM _ (Or.inl ⟨by rfl,by (intro w hSw;(try dsimp only at hSw);go_simp;try with_reducible rfl)⟩) ?_|refine ZM _ (Or.inr ⟨by rfl,rfl⟩) ?_|fail);(try go_frame)
 refine Z7 ?_;unfold wpTp
 (try simp only [pickL,Zg,Zi])
 refine ⟨?_,?_⟩
 ·have h5:=H4.o.alloc (cells #[int i64 (at'+1)] 159);obtain ⟨g5,hg5⟩:=Zn w0.heap.size;obtain ⟨w5,hw5⟩:=Zn (w0.alloc (cells #[int i64 (at'+1)] 159));rw [<-hg5,<-hw5] at h5;have H5:=Zh h5;clear h5 H4;go_wp2_with fail;rw [<-hg5,<-hw5];clear hg5 hw5;refine Zm (Zak (H5.o.pull 1 _ rfl)) ?_;unfold wpTp
  (try simp only [pickL,Zg,Zi])
  have h7:=H5.o.row_bare 80 4;obtain ⟨g7,hg7⟩:=Zn w5.heap.size;obtain ⟨w7,hw7⟩:=Zn (w5.alloc (cells #[] 80));rw [<-hg7,<-hw7] at h7;have H7:=Zh h7;clear h7 H5;go_wp2_with fail;rw [<-hg7,<-hw7];clear hg7 hw7;refine Zm (Zak (H7.o.pull 2 _ rfl)) ?_;unfold wpTp
  (try simp only [pickL,Zg,Zi])
  have h8:=H7.o;obtain ⟨v9,w9,hr9,h9⟩:=St.tags_append 65 h8 (RowI.src HT3.o h8.imm (ZeN ts) (by have:=HNN.o;omega)) (by have:=HNN.o;omega);rw [ZX,Zu] at h9;obtain ⟨A9,c9,rfl⟩:=ZA h9.row_owns;have HR9:=Zh hr9;have H9a:=Zh h9;clear h8 hr9 h9 H7;go_wp2_with (at_builtin;refine ZZ _ rfl (.tmp 41) (.tmp 42) 65 65 rfl _ _ rfl rfl _ _ HR9.o ?_);clear HR9;refine Zm (Zak (H9a.o.pull 2 _ rfl)) ?_;unfold wpTp
  (try simp only [pickL,Zg,Zi])
  obtain ⟨I1,s1,r1,h1⟩:=(H9a.o).freeze_row;obtain ⟨I2,s2,r2,h2⟩:=Zho (h1);have H9:=Zh ((h2.drop.alloc (cells (Zft (Zdi c at' ts) ⟨slice (some ⟨g5,0,none⟩) 1 1,slice none 0 0,slice A9 n c9,slice none 0 0⟩) 162)).ents_nil.pull 1 _ rfl);have HI:=Zh (show rjI (Zdi c at' ts) ⟨slice (some ⟨g5,0,none⟩) 1 1,slice none 0 0,slice A9 n c9,slice none 0 0⟩ I2 from ⟨r2,by rw [HNN.o] at r1;exact RowI.mono s2 (by rw [HNN.o];exact r1),ZbB _ _⟩);have HSS:=Zh (s1.trans s2);clear r1 r2 h1 h2 s1 s2 H9a;go_wp2;refine Zw ?_;go_wp2;go_ret;exact .inr ⟨HG.o,I2,_,HSS.o,rfl,St.rj_shut HI.o H9.o⟩
 ·have h7:=H4.o.row_bare 80 4;obtain ⟨g7,hg7⟩:=Zn w0.heap.size;obtain ⟨w7,hw7⟩:=Zn (w0.alloc (cells #[] 80));rw [<-hg7,<-hw7] at h7;have H7:=Zh h7;clear h7 H4;go_wp2_with fail;rw [<-hg7,<-hw7];clear hg7 hw7;refine Zm (Zak (H7.o.pull 1 _ rfl)) ?_;unfold wpTp
  (try simp only [pickL,Zg,Zi])
  refine ⟨?_,?_⟩
  ·have h5:=H7.o.alloc (cells #[int i64 (at'+1)] 159);obtain ⟨g5,hg5⟩:=Zn w7.heap.size;obtain ⟨w5,hw5⟩:=Zn (w7.alloc (cells #[int i64 (at'+1)] 159));rw [<-hg5,<-hw5] at h5;have H5:=Zh h5;clear h5 H7;go_wp2_with fail;rw [<-hg5,<-hw5];clear hg5 hw5;refine Zm (Zak (H5.o.pull 2 _ rfl)) ?_;unfold wpTp
   (try simp only [pickL,Zg,Zi])
   have h8:=H5.o.pull 1 _ rfl;obtain ⟨v9,w9,hr9,h9⟩:=St.tags_append 65 h8 (RowI.src HT3.o h8.imm (ZeN ts) (by have:=HNN.o;omega)) (by have:=HNN.o;omega);rw [ZX,Zu] at h9;obtain ⟨A9,c9,rfl⟩:=ZA h9.row_owns;have HR9:=Zh hr9;have H9a:=Zh h9;clear h8 hr9 h9 H5;go_wp2_with (at_builtin;refine ZZ _ rfl (.tmp 41) (.tmp 42) 65 65 rfl _ _ rfl rfl _ _ HR9.o ?_);clear HR9;refine Zm (Zak (H9a.o.pull 2 _ rfl)) ?_;unfold wpTp
   (try simp only [pickL,Zg,Zi])
   obtain ⟨I1,s1,r1,h1⟩:=(H9a.o).freeze_row;obtain ⟨I2,s2,r2,h2⟩:=Zho (h1);have H9:=Zh ((h2.drop.alloc (cells (Zft (Zdi c at' ts) ⟨slice (some ⟨g5,0,none⟩) 1 1,slice none 0 0,slice A9 n c9,slice none 0 0⟩) 162)).ents_nil.pull 1 _ rfl);have HI:=Zh (show rjI (Zdi c at' ts) ⟨slice (some ⟨g5,0,none⟩) 1 1,slice none 0 0,slice A9 n c9,slice none 0 0⟩ I2 from ⟨r2,by rw [HNN.o] at r1;exact RowI.mono s2 (by rw [HNN.o];exact r1),ZbB _ _⟩);have HSS:=Zh (s1.trans s2);clear r1 r2 h1 h2 s1 s2 H9a;go_wp2;refine Zw ?_;go_wp2;go_ret;exact .inr ⟨HG.o,I2,_,HSS.o,rfl,St.rj_shut HI.o H9.o⟩
  ·have h8:=H7.o;obtain ⟨v9,w9,hr9,h9⟩:=St.tags_append 65 h8 (RowI.src HT3.o h8.imm (ZeN ts) (by have:=HNN.o;omega)) (by have:=HNN.o;omega);rw [ZX,Zu] at h9;obtain ⟨A9,c9,rfl⟩:=ZA h9.row_owns;have HR9:=Zh hr9;have H9b:=Zh h9;clear h8 hr9 h9 H7;go_wp2_with (at_builtin;refine ZZ _ rfl (.tmp 41) (.tmp 42) 65 65 rfl _ _ rfl rfl _ _ HR9.o ?_);clear HR9;refine Zm (Zak (H9b.o.pull 1 _ rfl)) ?_;unfold wpTp
   (try simp only [pickL,Zg,Zi])
   have h5:=H9b.o.alloc (cells #[int i64 (at'+1)] 159);obtain ⟨g5,hg5⟩:=Zn w9.heap.size;obtain ⟨w5,hw5⟩:=Zn (w9.alloc (cells #[int i64 (at'+1)] 159));rw [<-hg5,<-hw5] at h5;have H5:=Zh h5;clear h5 H9b;go_wp2_with fail;rw [<-hg5,<-hw5];clear hg5 hw5;refine Zm (Zak (H5.o.pull 2 _ rfl)) ?_;unfold wpTp
   (try simp only [pickL,Zg,Zi])
   obtain ⟨I1,s1,r1,h1⟩:=(H5.o.pull 1 _ rfl).freeze_row;obtain ⟨I2,s2,r2,h2⟩:=Zho (h1);have H9:=Zh ((h2.drop.alloc (cells (Zft (Zdi c at' ts) ⟨slice (some ⟨g5,0,none⟩) 1 1,slice none 0 0,slice A9 n c9,slice none 0 0⟩) 162)).ents_nil.pull 1 _ rfl);have HI:=Zh (show rjI (Zdi c at' ts) ⟨slice (some ⟨g5,0,none⟩) 1 1,slice none 0 0,slice A9 n c9,slice none 0 0⟩ I2 from ⟨r2,by rw [HNN.o] at r1;exact RowI.mono s2 (by rw [HNN.o];exact r1),ZbB _ _⟩);have HSS:=Zh (s1.trans s2);clear r1 r2 h1 h2 s1 s2 H5;go_wp2;refine Zw ?_;go_wp2;go_ret;exact .inr ⟨HG.o,I2,_,HSS.o,rfl,St.rj_shut HI.o H9.o⟩
end
theorem Zrx:prog.underlying 212=some (.struct (prog.fieldsOf 212)):=by kernel_rfl
theorem Zry:prog.stoodInHeld 212=false:=by kernel_rfl
theorem Zrz:prog.eqGuardType prog.depth 212=false:=by kernel_rfl
theorem Zqc:(prog.fieldsOf 212).toList.map (fun f=>(f.name == "_",f.type,f.offset))=[(false,3,0),(false,3,1),(false,4,2)]:=by kernel_rfl
theorem ZoZ (op:BinOp) (x y:Operand) (xs ys:Array Value) (w:World):(eqGuard op 212 x y (.agg xs) (.agg ys)).run prog w=.ok () w:=run_eqGuard_agg _ _ _ _ _ _ _ Zrz
set_option maxRecDepth 100000 in
theorem ZrA (a0 a1:Int) (a2:Bool) (w:World):(Op.equalIn 10000 212 (.agg #[int i64 a0,int i64 a1,.bool a2]) (.agg #[int i64 a0,int i64 a1,.bool a2])).run prog w=.ok true w:=by
 rw [run_equalIn_struct w 9999 _ _ _ Zrx Zry];obtain ⟨fs,hfs⟩:∃ fs,(prog.fieldsOf 212).toList=fs:=⟨_,rfl⟩;have h:=Zqc;rw [hfs] at h |-
 match fs,h with
 | [f0,f1,f2],h =>
  simp only [ZaT,Zcr,ZdH,Zv,Zes,Zap] at h;obtain ⟨⟨n0,t0,o0⟩,⟨n1,t1,o1⟩,⟨n2,t2,o2⟩⟩:=h;simp only [Op.eqFields,n0,n1,n2,t0,t1,t2,o0,o1,o2,Zbn,ZdI,Zan];simp [go_sem]
section
theorem Zn6 (A B:Option Addr) (ca cb:Nat) (cs:List Cl) (h:St W I w l) (hA:RowI I 3 (slice A cs.length ca) cs.length (cs.flatMap Cl.vals)) (hB:RowI I 3 (slice B cs.length cb) cs.length (cs.flatMap Cl.vals)) (hn:cs.length<=1000) :
  Calls prog 100 #[slice A cs.length ca,slice B cs.length cb] w fun e w'=>e=.returned (.bool true)∧St W I w' l:=by
 have H:=Zh h;have HA:=Zh hA;have HB:=Zh hB;have hn1:(cs.length:Int)<=1000:=by omega
 clear h hA hB;go_enter func100,ntmps100;go_wp2;go_loopw [5] (fun a5 wr=>∃ (i:Nat),a5=int i64 i∧i<=cs.length∧St W I wr l) (fun a5 _=>cs.length - (intOf a5).toNat);case atStart=>exact ⟨0,rfl,ZL _,H.o⟩
 case round =>
  obtain ⟨i,rfl,hi,h2⟩:=hrel;have HBL:=Zh h2;clear H;by_cases hlt:i<cs.length
  ·have d0:decide ((i:Int)<(cs.length:Int))=true:=Zt (by omega);obtain ⟨e,he⟩:∃ e,cs[i]?=some e:=⟨_,Zy hlt⟩;obtain ⟨b1,o1,e1,hc1⟩:=ZbL (mk:=Cl.vals) (k:=3) (i:=i) (l:=cs) HA.o (Hp.sub.refl _) h2 (fun _=>rfl) he;obtain ⟨b2,o2,e2,hc2⟩:=ZbL (mk:=Cl.vals) (k:=3) (i:=i) (l:=cs) HB.o (Hp.sub.refl _) h2 (fun _=>rfl) he;simp only [Zz] at e1 e2;obtain ⟨rfl,hx1,hx2⟩:=e1;obtain ⟨rfl,hx3,hx4⟩:=e2;clear hx1 hx2 hx3 hx4;have x0:wr.cell? ⟨b1,o1+i*3,none⟩=some (int i64 e.id):=hc1 0 (by omega);have x1:wr.cell? ⟨b1,o1+i*3+1,none⟩=some (int i64 e.pos):=hc1 1 (by omega);have x2:wr.cell? ⟨b1,o1+i*3+2,none⟩=some (.bool e.off):=hc1 2 (by omega);have y0:wr.cell? ⟨b2,o2+i*3,none⟩=some (int i64 e.id):=hc2 0 (by omega);have y1:wr.cell? ⟨b2,o2+i*3+1,none⟩=some (int i64 e.pos):=hc2 1 (by omega);have y2:wr.cell? ⟨b2,o2+i*3+2,none⟩=some (.bool e.off):=hc2 2 (by omega);have hg:=ZoZ;have hr:=ZrA;clear hc1 hc2 he h2;go_upto_region 6 with fail;go_quiet (fail);have HB9:=Zh (HBL.o.drewN nq);go_wp2;go_roundw;case rel=>exact ⟨i+1,by go_num,by omega,HB9.o⟩
   case measure=>simp [intOf]<;>omega
  ·obtain rfl:i=cs.length:=by omega
   have d0:decide (((cs.length:Nat):Int)<(cs.length:Int))=false:=Zq (by omega);clear h2;go_wp2;go_ret;exact ⟨rfl,HBL.o⟩
end
section
theorem ZnC (A B:Option Addr) (ca cb:Nat) (es:List En) (h:St W I w (Zo (slice A es.length ca) es::Zo (slice B es.length cb) es::l)) (hn:es.length<=1000000) :
  Calls prog 31 #[slice A es.length ca,slice B es.length cb] w fun e w'=>e=.returned (.bool true)∧St W I w' (Zo (slice A es.length ca) es::Zo (slice B es.length cb) es::l):=by
 have H:=Zh h;have hn1:(es.length:Int)<=1000000:=by omega
 clear h;go_enter func31,ntmps31;go_wp2;go_loopw [5] (fun a5 wr=>∃ (i:Nat),a5=int i64 i∧i<=es.length∧St W I wr (Zo (slice A es.length ca) es::Zo (slice B es.length cb) es::l)) (fun a5 _=>es.length - (intOf a5).toNat);case atStart=>exact ⟨0,rfl,ZL _,H.o⟩
 case round =>
  obtain ⟨i,rfl,hi,h2⟩:=hrel;clear H;by_cases hlt:i<es.length
  ·have d0:decide ((i:Int)<(es.length:Int))=true:=Zt (by omega);obtain ⟨e,he⟩:∃ e,es[i]?=some e:=⟨_,Zy hlt⟩;obtain ⟨g1,q1,c1,v1,e1,hg1,hb1,hy1,x0,x1,x2⟩:=h2.ents_cell he;obtain ⟨g2,q2,c2,v2,e2,hg2,hb2,hy2,y0,y1,y2⟩:=(h2.pull 1 _ rfl).ents_cell he;simp only [Zz] at e1 e2;obtain ⟨rfl,hx1,hx2⟩:=e1;obtain ⟨rfl,hx3,hx4⟩:=e2;clear hx1 hx2 hx3 hx4;have H2:=Zh h2;have HE:=Zh he;have HB1:=Zh hb1;have HB2:=Zh hb2
   have HMK:=Zh (show ∀ w',Below wr.heap.size wr w'->(w'.cell? ⟨g1,q1+i*3,none⟩=some (int i64 e.tag)∧w'.cell? ⟨g1,q1+i*3+1,none⟩=some (int i64 e.seq)∧w'.cell? ⟨g1,q1+i*3+2,none⟩=some v1∧w'.cell? ⟨g2,q2+i*3,none⟩=some (int i64 e.tag)∧w'.cell? ⟨g2,q2+i*3+1,none⟩=some (int i64 e.seq)∧w'.cell? ⟨g2,q2+i*3+2,none⟩=some v2∧(convert 46 9 v1).run prog w'=.ok (.string (strOfNums e.data)) w'∧(convert 46 9 v2).run prog w'=.ok (.string (strOfNums e.data)) w') from fun w' hb=>by
    have hc:∀ g o,g<wr.heap.size->w'.cell? ⟨g,o,none⟩=wr.cell? ⟨g,o,none⟩:=fun g o hg=>hb.cell (p:=⟨g,o,none⟩) hg;have h3:=H2.o.keep hb;rw [hc _ _ hg1,hc _ _ hg1,hc _ _ hg1,hc _ _ hg2,hc _ _ hg2,hc _ _ hg2]
    exact ⟨x0,x1,x2,y0,y1,y2,Ze7 (ZaW h3 HB1.o),Ze7 (ZaW h3 HB2.o)⟩)
   obtain ⟨A1,k1,rfl⟩:=hb1.isSl;obtain ⟨A2,k2,rfl⟩:=hb2.isSl;obtain ⟨w2,hw2⟩:=Zn wr;rw [<-hw2] at H2 HMK |-;clear h2 he hb1 hb2 hy1 hy2 hg1 hg2 x0 x1 x2 y0 y1 y2 hw2;go_upto_region 6 with fail;refine Zca (fun w'=>w'.cell? ⟨g1,q1+i*3,none⟩=some (int i64 e.tag)∧w'.cell? ⟨g1,q1+i*3+1,none⟩=some (int i64 e.seq)∧w'.cell? ⟨g1,q1+i*3+2,none⟩=some (slice A1 e.data.length k1)∧w'.cell? ⟨g2,q2+i*3,none⟩=some (int i64 e.tag)∧w'.cell? ⟨g2,q2+i*3+1,none⟩=some (int i64 e.seq)∧w'.cell? ⟨g2,q2+i*3+2,none⟩=some (slice A2 e.data.length k2)∧(convert 46 9 (slice A1 e.data.length k1)).run prog w'=.ok (.string (strOfNums e.data)) w'∧(convert 46 9 (slice A2 e.data.length k2)).run prog w'=.ok (.string (strOfNums e.data)) w') [(0,false),(1,false),(2,false),(3,false),(4,false),(5,false),(6,false),(7,false),(8,false),(9,false),(10,false),(11,false),(12,false),(13,false),(14,false),(15,false),(16,false),(17,false),(18,false),(19,false),(20,false),(21,false),(22,false),(23,false),(24,false),(25,false),(26,false),(27,false),(28,false),(29,false),(30,false),(31,false),(32,false),(33,false),(34,false),(35,false),(36,false),(37,false),(38,false)] [] [] (by kernel_rfl) (by kernel_rfl) (by (intro w' hb;exact HMK.o _ (((ZI _ _).drew).trans hb))) ?_;repeat (first|refine ZaH (by rfl) _ (by rfl) (by intro w;go_simp;try with_reducible rfl) ?_|refine ZaK (by rfl) _ (by rfl) (by (intro w hSw;(try dsimp only at hSw);go_simp;try with_reducible rfl)) ?_|refine ZaI (by rfl) (by rfl) ?_|fail);(try go_frame)
   refine Zce ?_;refine ZdD ?_;rintro w9 hz9;have H9:=Zh (H2.o.drew.keep hz9.below);clear hz9 H2 HMK HB1 HB2;go_wp2;refine Zw ?_;go_wp2;go_roundw;case rel=>exact ⟨i+1,by go_num,by omega,H9.o⟩
   case measure=>simp [intOf]<;>omega
  ·obtain rfl:i=es.length:=by omega
   have d0:decide (((es.length:Nat):Int)<(es.length:Int))=false:=Zq (by omega);have H2:=Zh h2;clear h2;go_wp2;go_ret;exact ⟨rfl,H2.o⟩
end
theorem Zn7 (A B:Option Addr) (n c m d:Nat) (l r:List Tag) (w:World) (hl:TagsAt w A n l) (hr:TagsAt w B m r) (hn:n<=1000000) (hm:m<=1000000) :
  Calls prog 99 #[slice A n c,slice B m d] w fun e w'=>e=.returned (.bool (sameB l r))∧Below w.heap.size w w':=by
 by_cases hnm:n=m
 ·subst hnm;go_enter func99,ntmps99;go_wp2;go_loopw [5] (fun v5 wr=>∃ k:Nat,k<=n∧v5=int i64 k∧sameB (l.take k) (r.take k)=true∧Below w.heap.size w wr) (fun v5 _=>n - (intOf v5).toNat);case atStart=>exact ⟨0,ZL _,rfl,rfl,ZI _ _⟩
  case round =>
   obtain ⟨k,hk,rfl,hs,hb⟩:=hrel;have HS:=Zh hs;clear hs;by_cases hlt:k<n
   ·obtain ⟨b,off,x,rfl,hB,hx,c0,c1,c2,c3⟩:=hl.at_ hlt;obtain ⟨b',off',y,rfl,hB',hy,d0,d1,d2,d3⟩:=hr.at_ hlt;have hcell:∀ o,wr.cell? ⟨b,o,none⟩=w.cell? ⟨b,o,none⟩:=fun o=>hb.cell (p:=⟨b,o,none⟩) hB;have hcell':∀ o,wr.cell? ⟨b',o,none⟩=w.cell? ⟨b',o,none⟩:=fun o=>hb.cell (p:=⟨b',o,none⟩) hB';rw [<-hcell] at c0 c1 c2 c3;rw [<-hcell'] at d0 d1 d2 d3;have HX:=Zh hx;have HY:=Zh hy;clear hx hy hcell hcell';have hk0:(0:Int)<=k:=by omega
    have hk1:(k:Int)<n:=by omega
    have heq:=ZrW x y;have hgd:=Zoh;go_wp2;go_quiet (fail);go_wp2
    ·go_ret;exact ⟨ret_bool (ZrU HX.o HY.o ((ZgG _).mp ‹_›)).symm,below_drewN hb _⟩
    ·go_roundw;case rel=>exact ⟨k+1,by omega,by go_num,Zpc HX.o HY.o HS.o ((ZiO _).mp ‹_›),below_drewN hb _⟩
     case measure=>simp [intOf]<;>omega
   ·go_wp2;go_ret;exact ⟨ret_bool (Zoe hl.1 hr.1 hk hlt HS.o).symm,hb⟩
 ·have hf:sameB l r=false:=Zk8 l r (by rw [hl.1,hr.1];exact hnm);rw [hf];go_enter func99,ntmps99;go_wp2;go_ret;exact ⟨rfl,ZI _ _⟩
theorem ZrB:prog.underlying 26=some (.struct (prog.fieldsOf 26)):=by kernel_rfl
theorem ZrC:prog.stoodInHeld 26=false:=by kernel_rfl
theorem ZrD:prog.eqGuardType prog.depth 26=false:=by kernel_rfl
theorem Zqd:(prog.fieldsOf 26).toList.map (fun f=>(f.name == "_",f.type,f.offset))=[(false,3,0),(false,3,1),(false,3,2)]:=by kernel_rfl
theorem Zo0 (op:BinOp) (x y:Operand) (xs ys:Array Value) (w:World):(eqGuard op 26 x y (.agg xs) (.agg ys)).run prog w=.ok () w:=run_eqGuard_agg _ _ _ _ _ _ _ ZrD
set_option maxRecDepth 100000 in
theorem ZrE (a0 a1 a2:Int) (w:World):(Op.equalIn 10000 26 (.agg #[int i64 a0,int i64 a1,int i64 a2]) (.agg #[int i64 a0,int i64 a1,int i64 a2])).run prog w=.ok true w:=by
 rw [run_equalIn_struct w 9999 _ _ _ ZrB ZrC];obtain ⟨fs,hfs⟩:∃ fs,(prog.fieldsOf 26).toList=fs:=⟨_,rfl⟩;have h:=Zqd;rw [hfs] at h |-
 match fs,h with
 | [f0,f1,f2],h =>
  simp only [ZaT,Zcr,ZdH,Zv,Zes,Zap] at h;obtain ⟨⟨n0,t0,o0⟩,⟨n1,t1,o1⟩,⟨n2,t2,o2⟩⟩:=h;simp only [Op.eqFields,n0,n1,n2,t0,t1,t2,o0,o1,o2,Zbn,ZdI,Zan];simp [go_sem]
theorem Zqe (l:List Tag):sameB l l=true:=by
 induction l with
 | nil=>rfl
 | cons a l ih=>simp [sameB,ih,Tag.same]
structure Sim16 (J:Jn) (R:RJ):Prop where
 first:R.sets[0]?=some J.r.first
 sets:(R.sets.length:Int)=setsJ J
 c:R.c=J.r.shape
 en:R.en=endJ J
 safe:R.safe=J.safe
 chain:R.chain=J.r.tags
 cls:R.cls=J.r.cls
 l:R.l=J.l
theorem Zo1 {S:Str} {J:Jn} (h:JOK S J) (hl:J.l.length<=100000):readJ S J (J.r.first - 1) 1073741824=(J.l,0):=by
 have hw:ZeQ S J (J.r.first - 1) 1073741824=0:=by
  have:=h.ok.first;unfold ZeQ;rw [Za (by simp [h.may]),Za (by unfold endJ;omega),Za (by omega)]
 unfold readJ readL;rw [hw,Zb rfl,show (J.r.first - 1 - J.r.first+1).toNat=0 by omega,Zdo,Zba (by show J.l.length<=1073741824;omega)]
section
variable {p q q2 : Nat} {S : Str} {J : Jn} {R : RJ}
theorem Zkc (h:St W I w (Zj p S::jnHP q p J::rjHP q2 R::l)) (hj:JOK S J) (hs:Sim16 J R) (hl:J.l.length<=1000) (ht:J.r.tags.length<=1000) (hc:J.r.cls.length<=1000) :
  Calls prog 37 #[pointer (some ⟨q,0,none⟩),pointer (some ⟨q2,0,none⟩)] w fun e w'=>∃ I',I.sub I'∧e=.returned (.bool true)∧St W I' w' (Zj p S::jnHP q p J::rjHP q2 R::l):=by
 obtain ⟨f0,f1,f2,f3,f4,f5,f6,f7⟩:=hs;obtain ⟨c,sets,fill,rl,en,sf,ch,cl⟩:=R;simp only at f0 f1 f2 f3 f4 f5 f6 f7;subst f2 f3 f4 f5 f6 f7;have HFI:=Zh (fun (I1:Hp) (w1:World) (L:List HP) (h1:St W I1 w1 (Zj p S::jnHP q p J::L))=>ZjQ (h1.pull 1 _ rfl) hj.jb);have HEN:=Zh (fun (I1:Hp) (w1:World) (L:List HP) (h1:St W I1 w1 (Zj p S::jnHP q p J::L))=>ZcW (h1.pull 1 _ rfl) hj.jb);have HSA:=Zh (fun (I1:Hp) (w1:World) (L:List HP) (h1:St W I1 w1 (Zj p S::jnHP q p J::L))=>ZkA (h1.pull 1 _ rfl) hj.jb);have HSE:=Zh (fun (I1:Hp) (w1:World) (L:List HP) (h1:St W I1 w1 (Zj p S::jnHP q p J::L))=>ZkB (h1.pull 1 _ rfl) hj.jb);have HSH:=Zh (fun (I1:Hp) (w1:World) (L:List HP) (h1:St W I1 w1 (Zj p S::jnHP q p J::L))=>ZoD (h1.pull 1 _ rfl));have hb:=hj.ok.first;have hrd:=fun (I1:Hp) (w1:World) (L:List HP) (h1:St W I1 w1 (Zj p S::jnHP q p J::L))=>ZpU (J.r.first - 1) 1073741824 h1 hj.jb (by omega) hj.okB;rw [Zo1 hj (by omega),hj.may2] at hrd;have HRD:=Zh hrd;obtain ⟨V,hr,h1⟩:=(h.pull 2 _ rfl).rj_open;obtain ⟨vs,vl,vt,vc⟩:=V;obtain ⟨As,cs,e2,_⟩:=id hr.1;obtain ⟨At,ct,e3,_⟩:=id hr.2.1;obtain ⟨Ac,cc,e4,_⟩:=id hr.2.2;obtain ⟨Al,kl,e5,_⟩:=(h1.pull 1 _ rfl).ents_slice;simp only at e2 e3 e4 e5;subst e2 e3 e4 e5;have HR:=Zh hr;have HJ:=Zh hj;have HF0:=Zh f0;have H0:=Zh (h1.pull 3 _ rfl |>.pull 3 _ rfl);obtain ⟨fs,hfs⟩:=Zn J.r.first;obtain ⟨en,hen⟩:=Zn (endJ J);obtain ⟨se,hse⟩:=Zn (setsJ J);rw [<-hse] at f1 HSE;rw [<-hfs] at HFI HRD HF0 hb;rw [<-hen] at HEN;have HENE:=Zh hen;have hw1:IntKind.i64.wrap (fs - 1)=fs - 1:=by rw [Zx];omega
 have HT:=Zh ht;have HC:=Zh hc;have HL:=Zh hl;have hg:=Zo0;have hq:=ZrE;obtain ⟨ns,hns⟩:=Zn sets.length;clear h hj hl ht hc hr h1 f0 hrd hfs hse hb;go_enter func37,ntmps37;go_wp2_with fail;refine (HFI.o _ _ _ H0.o).mono ?_;rintro e w1 ⟨rfl,hb1⟩;have H1:=Zh (H0.o.keep hb1);clear hb1 H0;go_wp2_with fail;refine (HRD.o _ _ _ H1.o).mono ?_;rintro e w2 ⟨I2,v2,hs2,rfl,h2⟩;obtain ⟨Av,cv,rfl,_⟩:=h2.ents_slice;have H2:=Zh (h2.pull 1 _ rfl |>.pull 2 _ rfl |>.pull 1 _ rfl);have HS2:=Zh hs2;have HR2:=Zh (HR.o.mono hs2);clear h2 hs2 H1 HRD HR
 have HMK:=Zh (show ∀ (I':Hp) (w':World) (L:List HP),St W I' w' (rjBlk q2 ⟨J.r.shape,sets,fill,J.l,endJ J,J.safe,J.r.tags,J.r.cls⟩ ⟨slice As sets.length cs,slice Al J.l.length kl,slice At J.r.tags.length ct,slice Ac J.r.cls.length cc⟩::L)->(w'.cell? ⟨q2,0,none⟩=some (int i64 J.r.shape.splay)∧w'.cell? ⟨q2,1,none⟩=some (int i64 J.r.shape.sets)∧w'.cell? ⟨q2,2,none⟩=some (int i64 J.r.shape.size)∧w'.cell? ⟨q2,3,none⟩=some (slice As ns cs)∧w'.cell? ⟨q2,9,none⟩=some (slice Al J.l.length kl)∧w'.cell? ⟨q2,10,none⟩=some (int i64 en)∧w'.cell? ⟨q2,11,none⟩=some (int i64 J.safe)∧w'.cell? ⟨q2,12,none⟩=some (slice At J.r.tags.length ct)∧w'.cell? ⟨q2,13,none⟩=some (slice Ac J.r.cls.length cc)) from fun I' w' L h'=>by
  obtain ⟨k0,k1,k2,k3,k9,k10,k11,k12,k13,_⟩:=Zad h'
  exact ⟨k0,k1,k2,by rw [hns];exact k3,k9,by rw [HENE.o];exact k10,k11,k12,k13⟩)
 rw [<-hns] at f1;subst f1;go_upto_region 2 with fail;simp only [List.append_eq,ZG,Zu];refine Ze2 (fun w'=>w'.cell? ⟨q2,0,none⟩=some (int i64 J.r.shape.splay)∧w'.cell? ⟨q2,1,none⟩=some (int i64 J.r.shape.sets)∧w'.cell? ⟨q2,2,none⟩=some (int i64 J.r.shape.size)∧w'.cell? ⟨q2,3,none⟩=some (slice As ns cs)∧w'.cell? ⟨q2,9,none⟩=some (slice Al J.l.length kl)∧w'.cell? ⟨q2,10,none⟩=some (int i64 en)∧w'.cell? ⟨q2,11,none⟩=some (int i64 J.safe)∧w'.cell? ⟨q2,12,none⟩=some (slice At J.r.tags.length ct)∧w'.cell? ⟨q2,13,none⟩=some (slice Ac J.r.cls.length cc)) [0,1,2,3,4,5,6,7,8,9,10,11,12,13,14,15,16,17,18,19,20,21,22,23,24,25,26,27,28,29,30,31,32,33,34,35,36,37,38,39,40,41,42,43,44,45,46,47,48,49,50,51,52,53,54,55,56,57,58,59,60,61,62,63,64,65,66,67,68,69,70,71] (Tp.pull [0,2] (Tp.one 1 (Tp.one 3 (Tp.pull [4,5,6,8,9,10,11] (Tp.one 7 (Tp.pull [12,13,14,15,17,18,19,20] (Tp.one 16 (Tp.pull [21,22,23,24,26,27,28,29,30] (Tp.one 25 (Tp.pull [31,32,33,34,36,37,38,39] (Tp.one 35 (Tp.pull [40,41,42,43,45,46,47,48] (Tp.one 44 (Tp.one 49 (Tp.pull [50,51,52,54,55,56,57] (Tp.one 53 (Tp.one 58 (Tp.pull [59,60,61,62,63,64,65,66,67,68,69] (Tp.one 70 (Tp.pull [71] Tp.leaf)))))))))))))))))))) [72] (by kernel_rfl) (by kernel_rfl) (by (exact HMK.o _ _ _ (H2.o.drew.pull 3 _ rfl))) ?_;have H3:=Zh H2.o.drew;obtain ⟨w3,hw3⟩:=Zn w2.drew;rw [<-hw3] at H3 |-;clear hw3 H2;unfold wpTp
 (try simp only [pickL,Zg,Zi])
 repeat (first|refine ZM _ (Or.inl ⟨by rfl,by (intro w hSw;(try dsimp only at hSw);go_simp;try with_reducible rfl)⟩) ?_|refine ZM _ (Or.inr ⟨by rfl,rfl⟩) ?_|fail);(try go_frame)
 refine Z7 ?_;unfold wpTp
 (try simp only [pickL,Zg,Zi])
 go_wp2_with fail;refine (HFI.o _ _ _ H3.o).mono ?_;rintro e w4 ⟨rfl,hb4⟩;have H4:=Zh (H3.o.keep hb4);clear hb4 H3 HFI;go_wp2;refine Zm (HMK.o _ _ _ (H4.o.pull 3 _ rfl)) ?_;unfold wpTp
 (try simp only [pickL,Zg,Zi])
 have HRF:=Zh (Zf3 (H4.o.pull 3 _ rfl) HR2.o HF0.o);go_wp2_with fail;refine HRF.o.mono ?_;rintro e w5 ⟨rfl,rfl⟩;clear HRF;go_wp2;refine Zm (HMK.o _ _ _ (H4.o.pull 3 _ rfl)) ?_;unfold wpTp
 (try simp only [pickL,Zg,Zi])
 repeat (first|refine ZM _ (Or.inl ⟨by rfl,by (intro w hSw;(try dsimp only at hSw);go_simp;try with_reducible rfl)⟩) ?_|refine ZM _ (Or.inr ⟨by rfl,rfl⟩) ?_|fail);(try go_frame)
 refine Z7 ?_;unfold wpTp
 (try simp only [pickL,Zg,Zi])
 go_wp2_with fail;refine (HEN.o _ _ _ H4.o).mono ?_;rintro e w5 ⟨rfl,hb5⟩;have H5:=Zh (H4.o.keep hb5);clear hb5 H4 HEN;go_wp2;refine Zm (HMK.o _ _ _ (H5.o.pull 3 _ rfl)) ?_;unfold wpTp
 (try simp only [pickL,Zg,Zi])
 repeat (first|refine ZM _ (Or.inl ⟨by rfl,by (intro w hSw;(try dsimp only at hSw);go_simp;try with_reducible rfl)⟩) ?_|refine ZM _ (Or.inr ⟨by rfl,rfl⟩) ?_|fail);(try go_frame)
 refine Z7 ?_;unfold wpTp
 (try simp only [pickL,Zg,Zi])
 go_wp2_with fail;refine (HSA.o _ _ _ H5.o).mono ?_;rintro e w6 ⟨rfl,hb6⟩;have H6:=Zh (H5.o.keep hb6);clear hb6 H5 HSA;go_wp2;refine Zm (HMK.o _ _ _ (H6.o.pull 3 _ rfl)) ?_;unfold wpTp
 (try simp only [pickL,Zg,Zi])
 repeat (first|refine ZM _ (Or.inl ⟨by rfl,by (intro w hSw;(try dsimp only at hSw);go_simp;try with_reducible rfl)⟩) ?_|refine ZM _ (Or.inr ⟨by rfl,rfl⟩) ?_|fail);(try go_frame)
 refine Z7 ?_;unfold wpTp
 (try simp only [pickL,Zg,Zi])
 go_wp2_with fail;refine (HSE.o _ _ _ H6.o).mono ?_;rintro e w7 ⟨rfl,hb7⟩;have H7:=Zh (H6.o.keep hb7);clear hb7 H6 HSE;go_wp2;refine Zm (HMK.o _ _ _ (H7.o.pull 3 _ rfl)) ?_;unfold wpTp
 (try simp only [pickL,Zg,Zi])
 repeat (first|refine ZM _ (Or.inl ⟨by rfl,by (intro w hSw;(try dsimp only at hSw);go_simp;try with_reducible rfl)⟩) ?_|refine ZM _ (Or.inr ⟨by rfl,rfl⟩) ?_|fail);(try go_frame)
 refine Z7 ?_;unfold wpTp
 (try simp only [pickL,Zg,Zi])
 go_wp2_with fail;refine (HSH.o _ _ _ H7.o).mono ?_;rintro e w8 ⟨rfl,hb8⟩;have H8:=Zh (H7.o.keep hb8);unfold Rg.val;clear hb8 H7 HSH;go_wp2;refine Zm (HMK.o _ _ _ (H8.o.pull 3 _ rfl)) ?_;unfold wpTp
 (try simp only [pickL,Zg,Zi])
 repeat (first|refine ZM _ (Or.inl ⟨by rfl,by (intro w hSw;(try dsimp only at hSw);go_simp;try with_reducible rfl)⟩) ?_|refine ZM _ (Or.inr ⟨by rfl,rfl⟩) ?_|fail);(try go_frame)
 refine Z7 ?_;unfold wpTp
 (try simp only [pickL,Zg,Zi])
 go_wp2_with fail;refine (ZjR (H8.o.pull 1 _ rfl) (by have:=HT.o;omega)).mono ?_;rintro e w9 ⟨I9,v9,hs9,rfl,hr9,h9⟩;obtain ⟨A9,c9,rfl,_⟩:=id hr9;have H9:=Zh (h9.pull 1 _ rfl);have HS9:=Zh hs9;have HR9:=Zh (HR2.o.mono hs9)
 have HST:=Zh (show Calls prog 99 #[slice A9 J.r.tags.length c9,slice At J.r.tags.length ct] w9 fun e w'=>e=.returned (.bool true)∧Below w9.heap.size w9 w' by
  obtain ⟨A',c',e',_,t1⟩:=ZbM H9.o hr9;obtain ⟨B',d',e'',_,t2⟩:=ZbM H9.o (show RowI I9 4 (slice At J.r.tags.length ct) J.r.tags.length (flat J.r.tags) from HR9.o.2.1);simp only [Zz] at e' e'';obtain ⟨rfl,_,_⟩:=e';obtain ⟨rfl,_,_⟩:=e'';have:=Zn7 A9 At J.r.tags.length c9 J.r.tags.length ct J.r.tags J.r.tags w9 t1 t2 (by have:=HT.o;omega) (by have:=HT.o;omega)
  rwa [Zqe] at this)
 clear h9 hs9 hr9 H8 HR2;go_wp2;refine Zm (HMK.o _ _ _ (H9.o.pull 3 _ rfl)) ?_;unfold wpTp
 (try simp only [pickL,Zg,Zi])
 go_wp2_with fail;refine HST.o.mono ?_;rintro e w10 ⟨rfl,hb10⟩;have H10:=Zh (H9.o.keep hb10);clear hb10 H9 HST;go_wp2;refine Zm (HMK.o _ _ _ (H10.o.pull 3 _ rfl)) ?_;unfold wpTp
 (try simp only [pickL,Zg,Zi])
 repeat (first|refine ZM _ (Or.inl ⟨by rfl,by (intro w hSw;(try dsimp only at hSw);go_simp;try with_reducible rfl)⟩) ?_|refine ZM _ (Or.inr ⟨by rfl,rfl⟩) ?_|fail);(try go_frame)
 refine Z7 ?_;unfold wpTp
 (try simp only [pickL,Zg,Zi])
 go_wp2_with fail;refine (Znv (H10.o.pull 1 _ rfl) (by have:=HC.o;omega)).mono ?_;rintro e w11 ⟨I11,v11,hs11,rfl,hr11,h11⟩;obtain ⟨A11,c11,rfl,_⟩:=id hr11;have H11:=Zh (h11.pull 1 _ rfl);have HS11:=Zh hs11;have HR11:=Zh (HR9.o.mono hs11);have HSC:=Zh (Zn6 A11 Ac c11 cc J.r.cls H11.o hr11 (show RowI I11 3 (slice Ac J.r.cls.length cc) J.r.cls.length (J.r.cls.flatMap Cl.vals) from HR11.o.2.2) HC.o);clear h11 hs11 hr11 H10 HR9;go_wp2;refine Zm (HMK.o _ _ _ (H11.o.pull 3 _ rfl)) ?_;unfold wpTp
 (try simp only [pickL,Zg,Zi])
 go_wp2_with fail;refine HSC.o.mono ?_;rintro e w12 ⟨rfl,h12⟩;have H12:=Zh h12;have HSN:=Zh (ZnC Av Al cv kl J.l (h12.pull 4 _ rfl |>.pull 3 _ rfl) (by have:=HL.o;omega));clear h12 H11 HSC;go_wp2;refine Zm (HMK.o _ _ _ (H12.o.pull 3 _ rfl)) ?_;unfold wpTp
 (try simp only [pickL,Zg,Zi])
 repeat (first|refine ZM _ (Or.inl ⟨by rfl,by (intro w hSw;(try dsimp only at hSw);go_simp;try with_reducible rfl)⟩) ?_|refine ZM _ (Or.inr ⟨by rfl,rfl⟩) ?_|fail);(try go_frame)
 refine Z7 ?_;unfold wpTp
 (try simp only [pickL,Zg,Zi])
 go_wp2_with fail;refine HSN.o.mono ?_;rintro e w13 ⟨rfl,h13⟩;have H13:=Zh h13;clear h13 HSN H12;go_wp2;refine Zm (HMK.o _ _ _ (H13.o.pull 4 _ rfl)) ?_;unfold wpTp
 (try simp only [pickL,Zg,Zi])
 repeat (first|refine ZM _ (Or.inl ⟨by rfl,by (intro w hSw;(try dsimp only at hSw);go_simp;try with_reducible rfl)⟩) ?_|refine ZM _ (Or.inr ⟨by rfl,rfl⟩) ?_|fail);(try go_frame)
 refine Z7 ?_;unfold wpTp
 (try simp only [pickL,Zg,Zi])
 go_wp2;refine Zw ?_;go_wp2;go_ret;exact ⟨I11,HS2.o.trans (HS9.o.trans HS11.o),rfl,(St.rj_shut HR11.o (H13.o.drop.pull 3 _ rfl)).pull 2 _ rfl |>.pull 2 _ rfl⟩
end
end Go.Proofs.YtpjchngjhijgmaaGreat
