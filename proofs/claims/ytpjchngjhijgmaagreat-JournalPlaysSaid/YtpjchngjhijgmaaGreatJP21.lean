import Derived.Test.YtpjchngjhijgmaaGreatJP20
set_option linter.all false
set_option maxRecDepth 4000
set_option maxHeartbeats 8000000
open Go.RowKit
open Go.IntKind (i64 u64)
open Go.Value (int pointer slice)
open Go.Obj (cells)
namespace Go.Proofs.YtpjchngjhijgmaaGreat
def goodM (c:Rg) (at':Int) (ts:List Tag):Bool:=c.okB&&decide (0<=at')&&decide (at'<=1099511627776)&&Z3 ts&&decide (ts.length<=(ZQ ts at').length)
def newR (c:Rg) (at':Int) (ts:List Tag):Rc:=⟨c,at'+1,0,ts,[]⟩
def makeJ (S:Str) (c:Rg) (at':Int) (ts:List Tag) (there:Bool):Int × Str :=
 if S.on=false then (7,S) else if goodM c at' ts=false then (1,S) else if there=true then (5,S)
 else if (ZaL S).1≠0 then ZaL S
 else if (makeS (ZaL S).2 kJ).1≠0 then makeS (ZaL S).2 kJ
 else saveJ (makeS (ZaL S).2 kJ).2 (newR c at' ts)
def wipeJ (S:Str):Int × Str :=
 if S.on=false then (7,S)
 else if whyS S kJ=0 then
  (if (dropS S kJ).1≠0 then dropS S kJ else if (ZB (dropS S kJ).2).1≠0 then ZB (dropS S kJ).2 else ZaL (ZB (dropS S kJ).2).2)
 else ZaL S
theorem Zdf {c:Rg} {at':Int} {ts:List Tag} (h:c.okB=false∨at'<0∨1099511627776<at'∨Z3 ts=false∨(ZQ ts at').length<ts.length):goodM c at' ts=false:=by
 unfold goodM;rcases h with h|h|h|h|h
 ·simp [h]
 ·rw [show decide (0<=at')=false by rw [ZT];omega];simp
 ·rw [show decide (at'<=1099511627776)=false by rw [ZT];omega];simp
 ·simp [h]
 ·rw [show decide (ts.length<=(ZQ ts at').length)=false by rw [ZT];omega];simp
theorem Zgx {c:Rg} {at':Int} {ts:List Tag} (h:goodM c at' ts=true):(newR c at' ts).Ok:=by
 unfold goodM at h;simp only [ZR,Zk] at h;exact ⟨h.1.1.1.1,by show 1<=at'+1∧at'+1<=2199023255552;omega,by show (0:Int)<=0∧(0:Int)<=2147483648;omega,h.1.2,rfl⟩
theorem ZbB (I:Hp) (s:Nat):RowI I s (slice none 0 0) 0 []:=⟨none,0,rfl,by simp,ZC _,by unfold maxLen;omega,fun _=>rfl,fun h=>absurd h (by simp)⟩
section
variable {W w w' : World} {I : Hp} {l : List HP} {p q : Nat} {J : Jn} {S : Str}
theorem ZtK (c:Rg) (at':Int) (A:Option Addr) (n m:Nat) (w:World):Calls Tryz.prog 34 #[pointer none,c.val,int i64 at',slice A n m] w fun e w'=>e=.returned (int i64 1)∧Below w.heap.size w w':=by
 simp only [Rg.val];have hb:=ZS w (cells #[int i64 c.splay,int i64 c.sets,int i64 c.size] 26);have HB:=Zh hb;clear hb;go_enter Tryz.func34,Tryz.ntmps34;go_wp2_with fail;refine (ZpB _).mono ?_;rintro e w1 ⟨rfl,rfl⟩;go_wp2;go_ret;exact ⟨rfl,HB.o⟩
theorem ZkU (c:Rg) (at':Int) (vt:Value) (ts:List Tag) (o o2:Option Rc) {m:Nat} (h:St W I w (Zj p S::l)) (ht:RowI I 4 vt ts.length (flat ts)) (htn:ts.length<=1000000) (hk:Keeps S (m+4+2*(Zau S ⟨2,0⟩).length)) (hn:(Zp S ⟨2,0⟩).length<=1000000)
  (hj:JRec S o) (hm:goodM c at' ts=true->o=none->((ZaL S).1=0->whyS (ZaL S).2 kJ≠0)∧JRec (makeS (ZaL S).2 kJ).2 o2∧(saveJ (makeS (ZaL S).2 kJ).2 (newR c at' ts)).1≠6) :
  Calls Tryz.prog 34 #[pointer (some ⟨p,0,none⟩),c.val,int i64 at',vt] w fun e w'=>∃ I',I.sub I'∧e=.returned (int i64 (makeJ S c at' ts o.isSome).1)∧St W I' w' (Zj p (makeJ S c at' ts o.isSome).2::l):=by
 obtain ⟨At,ct,rfl,hnc,hat⟩:=ZbM h ht
 have HX:=Zh (show makeJ S c at' ts o.isSome=if S.on=false then (7,S) else if goodM c at' ts=false then (1,S) else if o.isSome=true then (5,S)
 else if (ZaL S).1≠0 then ZaL S
 else if (makeS (ZaL S).2 kJ).1≠0 then makeS (ZaL S).2 kJ
 else saveJ (makeS (ZaL S).2 kJ).2 (newR c at' ts) from rfl)
 obtain ⟨⟨rv,R⟩,hR⟩:∃ x,x=makeJ S c at' ts o.isSome:=⟨_,rfl⟩;rw [<-hR] at HX |-;simp only [Rg.val];have h1:=h.alloc (cells #[int i64 c.splay,int i64 c.sets,int i64 c.size] 26);obtain ⟨g5,hg5⟩:=Zn w.heap.size;rw [<-hg5] at h1;have hrd:=Zhl (h1.pull 1 _ rfl);have HRD:=Zh hrd;have H1:=Zh h1;have HT:=Zh ht
 have HTA:=Zh (show ∀ w' L,St W I w' L->TagsAt w' At ts.length ts from fun w' L h1=>by
  obtain ⟨A,c,e,_,h9⟩:=ZbM h1 ht;simp only [Zz] at e;obtain ⟨rfl,_,_⟩:=e
  exact h9)
 have HK:=Zh hk;have HN:=Zh hn;have HJ:=Zh hj;have HMM:=Zh hm;have HNC:=Zh hnc;clear h h1 hrd ht hk hn hj hm hat hR hnc;by_cases hon:S.on=false
 ·have HX2:=Zh (HX.o.trans (Zb hon));rw [Zb hon] at HRD;clear hon;go_enter Tryz.func34,Tryz.ntmps34;go_wp2_with fail;rw [<-hg5];refine HRD.o.mono ?_;rintro e w1 ⟨rfl,rfl⟩;go_wp2;go_ret;have e1:=HX2.o;simp only [Zv] at e1;obtain ⟨rfl,rfl⟩:=e1;exact ⟨I,Hp.sub.refl _,rfl,H1.o.drop⟩
 ·have HX2:=Zh (HX.o.trans (Za hon));rw [Za hon] at HRD;have hon1:S.on=true:=by simpa using hon
  have HON:=Zh hon1;clear hon hon1;go_enter Tryz.func34,Tryz.ntmps34;go_upto_region 1 with fail;have h1:=H1.o;rw [<-hg5];generalize (World.alloc _ _:World)=w1 at h1 HRD |-;clear hg5 H1;obtain ⟨x0,x1,x2⟩:=Zak h1;have l5:=h1.lt;have HRR:=Zh (Zgb c w1);obtain ⟨ok,hok⟩:=Zn c.okB;rw [<-hok] at HRR;have HOK:=Zh hok;simp only [Rg.val] at HRR;have H1:=Zh h1;clear h1 hok;go_wp2_with fail;refine HRD.o.mono ?_;rintro e w2 ⟨rfl,rfl⟩;go_wp2_with fail;refine HRR.o.mono ?_;rintro e w2 ⟨rfl,hb2⟩;have h2:=H1.o.keep hb2;have H2:=Zh h2;clear h2 hb2 H1 HRR HRD x0 x1 x2 l5;cases ok with
  | false =>
   have HG:=Zh (Zdf (at':=at') (ts:=ts) (.inl HOK.o.symm));have HX3:=Zh (HX2.o.trans (Zb HG.o));go_wp2;go_ret;have e1:=HX3.o;simp only [Zv] at e1;obtain ⟨rfl,rfl⟩:=e1;exact ⟨I,Hp.sub.refl _,rfl,H2.o.drop⟩
  | true =>
   by_cases ha:at'<0
   ·have HG:=Zh (Zdf (c:=c) (ts:=ts) (.inr (.inl ha)));have HX3:=Zh (HX2.o.trans (Zb HG.o));go_wp2;go_ret;have e1:=HX3.o;simp only [Zv] at e1;obtain ⟨rfl,rfl⟩:=e1;exact ⟨I,Hp.sub.refl _,rfl,H2.o.drop⟩
   ·by_cases ha2:1099511627776<at'
    ·have HG:=Zh (Zdf (c:=c) (ts:=ts) (.inr (.inr (.inl ha2))));have HX3:=Zh (HX2.o.trans (Zb HG.o));go_wp2;go_ret;have e1:=HX3.o;simp only [Zv] at e1;obtain ⟨rfl,rfl⟩:=e1;exact ⟨I,Hp.sub.refl _,rfl,H2.o.drop⟩
    ·have HRT:=Zh (ZhP At ts.length ct ts w2 (HTA.o _ _ H2.o) htn HNC.o);obtain ⟨rb,hrb⟩:=Zn (Z3 ts);rw [<-hrb] at HRT;have HRB:=Zh hrb;clear hrb;go_wp2_with fail;refine HRT.o.mono ?_;rintro e w3 ⟨rfl,hb3⟩;have H3:=Zh (H2.o.keep hb3);clear hb3 H2 HRT;cases rb with
     | false =>
      have HG:=Zh (Zdf (c:=c) (at':=at') (.inr (.inr (.inr (.inl HRB.o.symm)))));have HX3:=Zh (HX2.o.trans (Zb HG.o));go_wp2;go_ret;have e1:=HX3.o;simp only [Zv] at e1;obtain ⟨rfl,rfl⟩:=e1;exact ⟨I,Hp.sub.refl _,rfl,H3.o.drop⟩
     | true =>
      have HCT:=Zh (Zlw At ts.length ct ts at' w3 (HTA.o _ _ H3.o) htn HNC.o);obtain ⟨cl,hcl⟩:=Zn ((ZQ ts at').length);go_wp2_with fail;refine HCT.o.mono ?_;rintro e w4 ⟨v4,rfl,ho4,hb4⟩;obtain ⟨A4,c4,rfl⟩:=ZA ho4;have H4:=Zh (H3.o.keep hb4);rw [<-hcl];have HCL:=Zh hcl;clear ho4 hb4 H3 HCT hcl;by_cases hlt:cl<ts.length
      ·have HG:=Zh (Zdf (c:=c) (.inr (.inr (.inr (.inr (show (ZQ ts at').length<ts.length by rw [<-HCL.o];exact hlt))))));have hlt2:(cl:Int)<(ts.length:Int):=by omega
       have HX3:=Zh (HX2.o.trans (Zb HG.o));go_wp2;go_ret;have e1:=HX3.o;simp only [Zv] at e1;obtain ⟨rfl,rfl⟩:=e1;exact ⟨I,Hp.sub.refl _,rfl,H4.o.drop⟩
      ·have HG:=Zh (show goodM c at' ts=true by
        unfold goodM;simp only [ZR,Zk];refine ⟨⟨⟨⟨HOK.o.symm,by omega⟩,by omega⟩,HRB.o.symm⟩,?_⟩
        rw [<-HCL.o];omega)
       have hlt2:¬ (cl:Int)<(ts.length:Int):=by omega
       have HX3:=Zh (HX2.o.trans (Za (by rw [HG.o];simp)));have HNR:=Zh (Zgx HG.o);cases o with
       | some r0 =>
        have HX4:=Zh (HX3.o.trans (Zb rfl));have HLD:=Zh (Zkz r0 (H4.o.pull 1 _ rfl) HK.o.inv HJ.o);go_wp2_with fail;refine HLD.o.mono ?_;rintro e w5 ⟨I5,vt5,vc5,s5,rfl,hI5,h5⟩;obtain ⟨At5,ct5,rfl,_⟩:=hI5.1;obtain ⟨Ac5,cc5,rfl,_⟩:=hI5.2;simp only [Rc.cells];have H5:=Zh (h5.keep (ZS w5 (cells (r0.cells (slice At5 r0.tags.length ct5) (slice Ac5 r0.cls.length cc5)) 105)));have S5:=Zh s5;clear h5 hI5 s5 H4 HLD;go_wp2;go_ret;have e1:=HX4.o;simp only [Zv] at e1;obtain ⟨rfl,rfl⟩:=e1;exact ⟨I5,S5.o,rfl,(H5.o.pull 1 _ rfl).drop⟩
       | none =>
        obtain ⟨hw0,hj20,h60⟩:=HMM.o HG.o rfl;have HW:=Zh hw0;have HJ2:=Zh hj20;have HS6:=Zh h60;clear hw0 hj20 h60;have HX4:=Zh (HX3.o.trans (Za (by simp)));have hlne:=HJ.o;unfold JRec at hlne;have HLD:=Zh (Zky (H4.o.pull 1 _ rfl) HK.o.inv HJ.o);obtain ⟨er,her⟩:=Zn ((attrS S kJ nmJ).2);rw [<-her] at HLD hlne;have hne:(er==0)=false:=by simpa using hlne
        clear her hlne;go_wp2_with fail;refine HLD.o.mono ?_;rintro e w5 ⟨rfl,h5⟩;simp only [Rc.zeroVal];have H5:=Zh ((h5.keep (ZS w5 (cells #[int i64 0,int i64 0,int i64 0,int i64 0,int i64 0,slice none 0 0,slice none 0 0] 105))));have HCLR:=Zh (ZoC (m:=m+4) H5.o HK.o HN.o);clear h5 H4 HLD;have HCK:=Zh (show Keeps (ZaL S).2 (m+4) from Zg3 HK.o);obtain ⟨⟨e6,S6⟩,hcj⟩:∃ x,x=ZaL S:=⟨_,rfl⟩;rw [<-hcj] at HCLR HX4 HW HJ2 HS6 HCK;clear hcj;go_wp2_with fail;refine HCLR.o.mono ?_;rintro e w6 ⟨I6,s6,rfl,h6⟩;have H6:=Zh h6;have S6':=Zh s6;clear h6 s6 H5 HCLR;by_cases he6:e6=0
        ·subst he6;have HX5:=Zh (HX4.o.trans (Za (by simp)));have hw6:=HW.o (by first|rfl|trivial);have HOWN:=Zh (Zeh w6);go_wp2_with fail;refine HOWN.o.mono ?_;rintro e w7 ⟨rfl,hb7⟩;have h7:=H6.o.keep hb7;have hsz:=Zgu kJ h7;have hkv:kJ.val=.agg #[int i64 1,int i64 0,int i64 0,int i64 0]:=rfl;rw [hkv] at hsz;obtain ⟨n7,hn7⟩:=Zn (lenAt S6 kJ);obtain ⟨wy,hwy⟩:=Zn (whyS S6 kJ);rw [<-hn7,<-hwy] at hsz;rw [<-hwy] at hw6;have hwb:(wy != 0)=true:=by simpa using hw6
         have HSZ:=Zh hsz;have H7:=Zh h7;clear h7 hsz hn7 hwy hb7 H6 HOWN hkv;go_wp2_with fail;refine HSZ.o.mono ?_;rintro e w8 ⟨hb8,rfl⟩;have H8:=Zh (H7.o.keep hb8);have HOWN:=Zh (Zeh w8);clear hb8 H7 HSZ;go_wp2_with fail;refine HOWN.o.mono ?_;rintro e w9 ⟨rfl,hb9⟩;have h9:=H8.o.keep hb9;have hmk:=Zli kJ h9 HCK.o;have hkv:kJ.val=.agg #[int i64 1,int i64 0,int i64 0,int i64 0]:=rfl;rw [hkv] at hmk;have HMKK:=Zh (show Keeps (makeS S6 kJ).2 (m+2) from ZfW HCK.o);obtain ⟨⟨e10,S10⟩,hmj⟩:∃ x,x=makeS S6 kJ:=⟨_,rfl⟩;rw [<-hmj] at hmk HX5 HJ2 HS6 HMKK;have HMK:=Zh hmk;clear h9 hmk hmj hb9 H8 HOWN hkv;go_wp2_with fail;refine HMK.o.mono ?_;rintro e w10 ⟨I10,s10,rfl,h10⟩;have H10:=Zh h10;have S10':=Zh (S6'.o.trans s10);clear h10 s10 HMK;by_cases he10:e10=0
         ·subst he10;have HX6:=Zh (HX5.o.trans (Za (by simp)));have w1:IntKind.i64.wrap (at'+1)=at'+1:=by rw [Zx];omega
          go_upto_region 17 with fail;have h11:=H10.o.drew;have HMK5:=Zh (show ∀ (I':Hp) (w':World) (S':Str) (L:List HP),St W I' w' (Zj p S'::HP.pt g5 (cells #[int i64 c.splay,int i64 c.sets,int i64 c.size] 26)::L)->(w'.cell? ⟨g5,0,none⟩=some (int i64 c.splay)∧w'.cell? ⟨g5,1,none⟩=some (int i64 c.sets)∧w'.cell? ⟨g5,2,none⟩=some (int i64 c.size)) from fun I' w' S' L h1=>Zak (h1.pull 1 _ rfl));obtain ⟨x0,x1,x2⟩:=HMK5.o _ _ _ _ h11
          have HCLN:=Zh (Zfb At ts.length ct ts w10.drew (by
           obtain ⟨A,c9,e,_,h9⟩:=ZbM h11 (HT.o.mono S10'.o);simp only [Zz] at e;obtain ⟨rfl,_,_⟩:=e
           exact h9) htn)
          have H11:=Zh h11;clear h11 H10;refine Zay (fun w'=>w'.cell? ⟨g5,0,none⟩=some (int i64 c.splay)∧w'.cell? ⟨g5,1,none⟩=some (int i64 c.sets)∧w'.cell? ⟨g5,2,none⟩=some (int i64 c.size)) [0,1,2,3,4] [5,6] [7,8] (by kernel_rfl) (by kernel_rfl) (by (exact ⟨x0,x1,x2⟩)) ?_;simp only [pickL,Zg,Zi];repeat (refine ZM _ (Or.inl ⟨by rfl,by (intro w hSw;(try dsimp only at hSw);go_simp;try with_reducible rfl)⟩) ?_;(try go_frame))
          refine Z7 ?_;unfold Zr;clear x0 x1 x2;go_wp2_with fail;refine HCLN.o.mono ?_;rintro e w12 ⟨v12,rfl,ho12,hb12⟩;obtain ⟨A12,c12,rfl⟩:=ZA ho12;obtain ⟨I12,s12,hR12,h12⟩:=(H11.o.row_fresh hb12 ho12).freeze_row;have X12:=Zh (HMK5.o _ _ _ _ h12);have hsv:=fun w1 L (h:St W I12 w1 (Zj p S10::L))=>Zhz (newR c at' ts) (slice A12 ts.length c12) (slice none 0 0) o2 h HMKK.o HNR.o ⟨hR12,ZbB _ _⟩ HJ2.o;simp only [Rc.cells,newR] at hsv;have HSV:=Zh hsv;have H12:=Zh h12;have S12:=Zh (S10'.o.trans s12);clear ho12 hb12 hR12 h12 s12 hsv H11 HCLN;go_wp2;refine Zm X12.o ?_;unfold Zr;go_wp2;refine Zm X12.o ?_;unfold Zr;go_wp2_with fail;refine (HSV.o _ _ H12.o).mono ?_;rintro e w13 ⟨I13,s13,rfl,h13⟩;have hs6:=HS6.o;have e1:(rv,R)=saveJ S10 ⟨c,at'+1,0,ts,[]⟩:=HX6.o;have hs6:(saveJ S10 ⟨c,at'+1,0,ts,[]⟩).1≠6:=hs6;rw [<-e1] at h13 hs6 |-;have hne6:(rv==6)=false:=by simpa using hs6
          have H13:=Zh h13;have S13:=Zh (S12.o.trans s13);clear h13 s13 e1 hs6 HSV H12;go_wp2;refine Zw ?_;go_wp2;go_ret;exact ⟨I13,S13.o,rfl,(H13.o.pull 1 _ rfl).drop⟩
         ·have HX6:=Zh (HX5.o.trans (Zb he10));have hne10:(e10 != 0)=true:=by simpa using he10
          go_wp2;go_ret;have e1:=HX6.o;simp only [Zv] at e1;obtain ⟨rfl,rfl⟩:=e1;exact ⟨I10,S10'.o,rfl,(H10.o.pull 1 _ rfl).drop⟩
        ·have HX5:=Zh (HX4.o.trans (Zb he6));have hne6:(e6 != 0)=true:=by simpa using he6
         go_wp2;go_ret;have e1:=HX5.o;simp only [Zv] at e1;obtain ⟨rfl,rfl⟩:=e1;exact ⟨I6,S6'.o,rfl,(H6.o.pull 1 _ rfl).drop⟩
end
section
variable {P : Program} {ops : Array Oper} {md : Region.Mode} {w : World}
def ZdF (P:Program) (md:Region.Mode) (ops:Array Oper) (Q:Exit->Act->World->Prop) (S:Bool->World->Prop) (N:Bool->Nat->Bool):Nat->Array Bool->Act->World->Prop
 | 0,listed,a,w=>Region.ready md ops listed=[]∧Q .normal a w
 | f+1,listed,a,w=>(Region.ready md ops listed=[]->Q .normal a w) ∧
  ∀ i ∈ Region.ready md ops listed,wpOp P ops Q i (fun a' w'=>(∀ s,N s i=true->S s w->S s w')∧ZdF P md ops Q S N f (listed.setIfInBounds i true) a' w') a w
variable {Q : Exit -> Act -> World -> Prop} {S : Bool -> World -> Prop} {N : Bool -> Nat -> Bool}
theorem ZkV:∀ (f:Nat) (listed:Array Bool) (a:Act) (w:World),ZdF P md ops Q S N f listed a w->wpAny P md ops Q f listed a w
 | 0,_,_,_,h=>h
 | f+1,_,_,_,h=>⟨h.1,fun i hi=>Zb0 (fun a' w' h'=>ZkV f _ a' w' h'.2) (h.2 i hi)⟩
theorem ZnX {s:Bool} {i:Nat} {oi:Oper} {v:Value} (hi:ops[i]?=some oi) (hsel:∀ (j:Nat) (o:Oper) cs b,ops[j]?=some o->o.op≠.select cs b)
  (hQ:∀ c (a:Act) d v w,Q (.panic c) (a.put d v) w->Q (.panic c) a w) (hN:∀ listed,ShutDown md ops listed->listed.getD i true=false->∀ j ∈ Region.ready md ops listed,N s j=true) :
  ∀ (f:Nat) (listed:Array Bool) (a:Act) (w:World),ShutDown md ops listed ->
   (∀ j oj,ops[j]?=some oj->j≠i->listed.getD j true=false->(∀ e ∈ oj.after,Region.binds md e=true->e.on≠i)->oi.apart ops oj=true) ->
   i ∈ Region.ready md ops listed->YieldsIf P ops (S s) oi v a->S s w ->
   ZdF P md ops Q S N f (listed.setIfInBounds i true) (a.put oi.dst v) w->ZdF P md ops Q S N (f+1) listed a w:=by
 intro f;induction f with
 | zero =>
  intro listed a w _ _ hr hy hS H;refine ⟨fun h=>(by rw [h] at hr;cases hr),fun j hj=>?_⟩;by_cases hji:j=i
  ·subst hji;exact hy.wpOp hi hS ⟨fun _ _ h=>h,H⟩
  ·have:=ready_mono hj hji;rw [H.1] at this;cases this
 | succ f ih =>
  intro listed a w hs hfree hr hy hS H;have hun:=(mem_ready.1 hr).1;refine ⟨fun h=>(by rw [h] at hr;cases hr),fun j hj=>?_⟩;by_cases hji:j=i
  ·subst hji;exact hy.wpOp hi hS ⟨fun _ _ h=>h,H⟩
  ·have hNj:=hN listed hs hun j hj;obtain ⟨hjun,oj,hoj,hall⟩:=mem_ready.1 hj;have hnot:∀ e ∈ oj.after,Region.binds md e=true->e.on≠i:=fun e he hb heq=>by
    have h2:=hall e he hb;rw [heq,ZcL hun] at h2;cases h2
   have h3:=wpOp_putIf hoj (hfree j oj hoj hji hjun hnot) (fun cs b=>hsel i oi cs b hi) (fun cs b=>hsel j oj cs b hoj) (fun c a w=>hQ c a _ _ w) hy (H.2 j (ready_mono hj hji));refine Zb0 (fun a' w' h4=>⟨h4.2.1,?_⟩) h3;refine ih (listed.setIfInBounds j true) a' w' (hs.next hj) (fun k ok hk hki hkun hno=>hfree k ok hk hki ?_ hno) (ready_mono hr (Ne.symm hji)) h4.1 (h4.2.1 s hNj hS) ?_
   ·by_cases hjk:j=k
    ·subst hjk;exact hjun
    ·rwa [getD_set_ne true hjk] at hkun
   ·rw [ZeT _ _ hji];exact h4.2.2
theorem Zg7 {l:List Oper} {K:Act->Prop} {g:Nat} {s:Bool} (hsel:Region.noSelect l.toArray=true) (hQ:∀ c (a:Act) d v w,Q (.panic c) (a.put d v) w->Q (.panic c) a w) (hS:S s w) :
  ∀ (ks:List Nat) (listed:Array Bool) (a:Act),(∀ k ∈ ks,∀ listed,ShutDown md l.toArray listed->listed.getD k true=false->∀ j ∈ Region.ready md l.toArray listed,N s j=true)->ShutDown md l.toArray listed->Za2 md l.toArray ks listed=true ->
  (∀ a',ShutDown md l.toArray (Zag ks listed)->K a'->ZdF P md l.toArray Q S N g (Zag ks listed) a' w)->Zc2 P l.toArray (S s) K (pickL l ks) a->ZdF P md l.toArray Q S N (ks.length+g) listed a w
 | [],listed,a,_,hs,_,hK,h=>by rw [ZaZ,ZX];exact hK a hs h
 | k::ks,listed,a,hN,hs,hB,hK,h=>by
  simp only [Za2,ZR] at hB;obtain ⟨⟨hr,hf⟩,hB'⟩:=hB;have hr':k ∈ Region.ready md l.toArray listed:=by simpa using hr
  obtain ⟨o,ho⟩:=Zcm hr';have ho':l[k]?=some o:=by simpa using ho
  have e:pickL l (k::ks)=o::pickL l ks:=by simp [pickL,ho']
  rw [e] at h;obtain ⟨v,hy,h⟩:=h;rw [Z9,show ks.length+1+g=(ks.length+g)+1 by omega];exact ZnX ho (ZfA hsel) hQ (hN k (Zat ..)) _ listed a w hs (ZgE ho hf) hr' hy hS (Zg7 hsel hQ hS ks _ _ (fun j hj=>hN j (ZaB _ hj)) (hs.next hr') hB' hK h)
theorem ZjX {l:List Oper}:∀ (ks:List Nat) (listed:Array Bool) (a:Act) (w:World),(∀ k ∈ ks,∀ s,N s k=false)->tailB md l.toArray ks listed=true->wpList P l.toArray Q (pickL l ks) a w->ZdF P md l.toArray Q S N ks.length listed a w
 | [],listed,a,w,_,hB,h=>⟨by simpa [tailB] using hB,h⟩
 | k::ks,listed,a,w,hN,hB,h=>by
  simp only [tailB,ZR,Zk] at hB;refine ⟨fun h1=>(by rw [hB.1] at h1;cases h1),fun i hi=>?_⟩;have hi':=hi;rw [hB.1] at hi';obtain rfl:i=k:=by simpa using hi'
  obtain ⟨o,ho⟩:=Zcm hi;have ho':l[i]?=some o:=by simpa using ho
  have e:pickL l (i::ks)=o::pickL l ks:=by simp [pickL,ho']
  rw [e] at h;have hw:wpOp P l.toArray Q i (wpList P l.toArray Q (pickL l ks)) a w:=by unfold wpOp;simp only [ho];exact h
  exact Zb0 (fun a' w' h'=>⟨fun s hn=>(by rw [hN i (Zat ..) s] at hn;cases hn),ZjX ks _ a' w' (fun j hj=>hN j (ZaB _ hj)) hB.2 h'⟩) hw
def Zfy (S:Bool->World->Prop) (N:Bool->Nat->Bool) (i:Nat) (w:World):Prop:=∀ s,N s i=true->S s w
def wpTr2 (P:Program) (l:List Oper) (S:Bool->World->Prop) (N:Bool->Nat->Bool) (Q:Exit->Act->World->Prop) (T:Act->World->Prop):Tr->Act->World->Prop
 | .leaf,a,w=>T a w
 | .one i t,a,w=>wpList P l.toArray (Zcx (Zfy S N i) Q (wpTr2 P l S N Q T t)) (pickL l [i]) a w
 | .two i t j u,a,w=>wpList P l.toArray (Zcx (Zfy S N i) Q (wpTr2 P l S N Q T t)) (pickL l [i]) a w∧wpList P l.toArray (Zcx (Zfy S N j) Q (wpTr2 P l S N Q T u)) (pickL l [j]) a w
theorem Zgj {l:List Oper} {tail:List Nat}:∀ (t:Tr) (listed:Array Bool) (a:Act) (w:World),(∀ k ∈ tail,∀ s,N s k=false)->trB md l tail t listed=true ->
  wpTr2 P l S N Q (wpList P l.toArray Q (pickL l tail)) t a w->ZdF P md l.toArray Q S N (t.size+tail.length) listed a w
 | .leaf,listed,a,w,hN,hB,h=>by
  rw [Tr.size,ZX];exact ZjX tail listed a w hN hB h
 | .one k t,listed,a,w,hN,hB,h=>by
  simp only [trB,ZR,Zk] at hB;rw [Tr.size,show t.size+1+tail.length=(t.size+tail.length)+1 by omega];refine ⟨fun h1=>(by rw [hB.1] at h1;cases h1),fun i hi=>?_⟩;have hi':=hi;rw [hB.1] at hi';obtain rfl:i=k:=by simpa using hi'
  obtain ⟨o,ho⟩:=Zcm hi;have ho':l[i]?=some o:=by simpa using ho
  have e:pickL l [i]=[o]:=by simp [pickL,ho']
  unfold wpTr2 at h;rw [e] at h;exact Zb0 (fun a' w' h'=>⟨fun s hn _=>h'.1 s hn,Zgj t _ a' w' hN hB.2 h'.2⟩) (Zdt ho h)
 | .two k t k2 u,listed,a,w,hN,hB,h=>by
  simp only [trB,ZR,Zk] at hB;obtain ⟨⟨hr,hsz⟩,hB1,hB2⟩:=hB;rw [Tr.size,show t.size+1+tail.length=(t.size+tail.length)+1 by omega];refine ⟨fun h1=>(by rw [hr] at h1;cases h1),fun i hi=>?_⟩;have hi':=hi;rw [hr] at hi';obtain ⟨o,ho⟩:=Zcm hi;have ho':l[i]?=some o:=by simpa using ho
  have e:pickL l [i]=[o]:=by simp [pickL,ho']
  unfold wpTr2 at h;rcases (by simpa using hi':i=k∨i=k2) with rfl|rfl
  ·have h1:=h.1;rw [e] at h1;exact Zb0 (fun a' w' h'=>⟨fun s hn _=>h'.1 s hn,Zgj t _ a' w' hN hB1 h'.2⟩) (Zdt ho h1)
  ·have h1:=h.2;rw [e] at h1;rw [hsz];exact Zb0 (fun a' w' h'=>⟨fun s hn _=>h'.1 s hn,Zgj u _ a' w' hN hB2 h'.2⟩) (Zdt ho h1)
def ZcR (early1 early2 hold1 hold2:List Nat) (s:Bool) (i:Nat):Bool:=early1.contains i||early2.contains i||hold1.contains i||(s&&hold2.contains i)
def S12 (S1 S2:World->Prop) (s:Bool):World->Prop:=if s then S2 else S1
def Zm2 (md:Region.Mode) (l:List Oper) (early1 early2 hold1 hold2:List Nat) (t:Tr) (tail:List Nat):Bool :=
 Region.noSelect l.toArray&&Za2 md l.toArray early1 (Array.replicate l.length false)&&Za2 md l.toArray early2 (Zag early1 (Array.replicate l.length false))&&trB md l tail t (Zag early2 (Zag early1 (Array.replicate l.length false))) &&
  ((List.range l.length).all fun t=>ZcR early1 early2 hold1 hold2 false t||early1.all fun k=>reaches md l.toArray k l.length t) &&
  ((List.range l.length).all fun t=>ZcR early1 early2 hold1 hold2 true t||early2.all fun k=>reaches md l.toArray k l.length t) &&
  decide (early1.length+(early2.length+(t.size+tail.length))=l.length)&&tail.all (fun t=>!(ZcR early1 early2 hold1 hold2 true t))
theorem Zjb {id:Nat} {Q:Exit->Act->World->Prop} {a:Act} {l:List Oper} (S1 S2:World->Prop) (early1 early2 hold1 hold2:List Nat) (t:Tr) (tail:List Nat) (hm:P.follows .mixedOrders=true) (hB:Zm2 .any l early1 early2 hold1 hold2 t tail=true) (hS:S1 w.drew∧S2 w.drew)
  (h:Zc2 P l.toArray S1 (fun a0=>Zc2 P l.toArray S2 (fun a1=>wpTr2 P l (S12 S1 S2) (ZcR early1 early2 hold1 hold2) (NoPanic Q) (wpList P l.toArray (NoPanic Q) (pickL l tail)) t a1 w.drew) (pickL l early2) a0) (pickL l early1) a):(Code.region id l.toArray true).wp P Q a w:=by
 refine wp_region_noPanic ?_;simp only [Zm2,ZR,Zk] at hB;obtain ⟨⟨⟨⟨⟨⟨⟨hsel,he1⟩,he2⟩,ht⟩,hg1⟩,hg2⟩,hn⟩,htl⟩:=hB;refine wp_region_any hm (ZkV (S:=S12 S1 S2) (N:=ZcR early1 early2 hold1 hold2) _ _ _ _ ?_);change ZdF P .any l.toArray _ _ _ l.toArray.size _ a w.drew;have hsz:l.toArray.size=early1.length+(early2.length+(t.size+tail.length)):=by rw [hn];simp
 have hrep:Array.replicate l.toArray.size false=Array.replicate l.length false:=by simp
 have hgo:∀ (s:Bool) (E:List Nat),((List.range l.length).all fun t=>ZcR early1 early2 hold1 hold2 s t||E.all fun k=>reaches .any l.toArray k l.length t)=true->∀ k ∈ E,∀ listed,ShutDown .any l.toArray listed->listed.getD k true=false->∀ j ∈ Region.ready .any l.toArray listed,ZcR early1 early2 hold1 hold2 s j=true:=by
  intro s E hg k hk listed hsd hun j hj;simp only [ZbG,ZdG] at hg;obtain ⟨_,o,ho,hall⟩:=mem_ready.1 hj;have h2:=hg j (by simpa using (Za9.1 ho).1);rw [Zd5] at h2;rcases h2 with h2|h2
  ·exact h2
  ·have h3:=ZbG.1 h2 k hk;have h4:=Zeb hsd _ j (fun o' ho' e he' hb=>by rw [ho] at ho';cases ho';exact hall e he' hb) h3;rw [ZcL hun] at h4;cases h4
 rw [hrep,hsz];refine Zg7 (s:=false) hsel (fun _ _ _ _ _ h=>h) hS.1 early1 _ a (hgo false early1 hg1) (ShutDown.start _) he1 (fun a0 hs0 h0=>?_) h;refine Zg7 (s:=true) hsel (fun _ _ _ _ _ h=>h) hS.2 early2 _ a0 (hgo true early2 hg2) hs0 he2 (fun a1 _ h1=>?_) h0
 exact Zgj t _ a1 _ (fun k hk s=>by
   have h9:=ZbG.1 htl k hk;have h10:ZcR early1 early2 hold1 hold2 true k=false:=by simpa using h9
   cases s with
   | true=>exact h10
   | false =>
    unfold ZcR at h10 |-;simp only [ZgF,Bool.false_and,Bool.or_false] at h10 |-;rw [Bool.or_eq_false_iff] at h10
    exact h10.1) ht h1
theorem ZcX {S1 S2:World->Prop} {e1 e2 h1 h2:List Nat} {i:Nat} (a:S1 w) (b:S2 w):Zfy (S12 S1 S2) (ZcR e1 e2 h1 h2) i w:=fun s _=>by cases s <;> assumption
theorem ZbC {S1 S2:World->Prop} {e1 e2 h1 h2:List Nat} {i:Nat} (h:ZcR e1 e2 h1 h2 false i=false) (b:S2 w):Zfy (S12 S1 S2) (ZcR e1 e2 h1 h2) i w:=fun s hs=>by
 cases s with
 | true=>exact b
 | false=>rw [h] at hs;cases hs
end
end Go.Proofs.YtpjchngjhijgmaaGreat
