import Derived.Test.YtpjchngjhijgmaaGreatJP33
set_option linter.all false
set_option maxRecDepth 4000
set_option maxHeartbeats 8000000
open Go.RowKit
open Go.IntKind (i64 u64)
open Go.Value (int pointer slice)
open Go.Obj (cells)
namespace Go.Proofs.YtpjchngjhijgmaaGreat
open Tryz
open HP (pt mapOf)
variable {W w w':World} {I:Hp} {l:List HP}
theorem Zqk {cs:List Cl} {id:Int} {k:Nat} (hk:k<=cs.length) (h1:∀ j c,j<k->cs[j]?=some c->c.id<id) (h2:∀ c,cs[k]?=some c->id<=c.id):(Zaf cs id).1=k:=by
 rw [ZhX cs id k h1 hk];cases hd:cs.drop k with
 | nil=>show 0+k=k;omega
 | cons c r =>
  have:id<=c.id:=h2 c (by rw [<-ZaP k,<-Zbw,hd];rfl);unfold Zaf;rw [Zb this];show 0+k=k;omega
def insA (cs:List Cl) (k:Nat) (id pos:Int):List Cl:=cs.take k++[⟨id,pos,false⟩]++cs.drop k
def posA (what pos:Int):Int:=if what=0∨what=2 then pos else 0
theorem Zh9 {cs:List Cl} {id pos:Int} (h:mayC id pos=false):ZaU cs id pos=(0,1):=by
 unfold ZaU;rw [Zb (.inr h)]
theorem ZsD {cs:List Cl} {what id pos:Int} {off:Bool} (h:mayC id (posA what pos)=false):actC cs what id pos off=([],1):=by
 unfold posA at h;unfold actC;by_cases h0:what=0
 ·rw [Zb (.inl h0)] at h;rw [Zb h0];unfold addC;rw [Zb (.inr h)]
 rw [Za h0];by_cases h2:what=2
 ·rw [Zb (.inr h2)] at h;rw [Za (by omega),Zb h2];unfold Za5;rw [Zh9 h];rfl
 rw [Za (by omega)] at h;split
 ·unfold dropC;rw [Zh9 h];rfl
 ·first|rw [Za h2]|skip
  unfold turnC;rw [Zh9 h];rfl
theorem ZhO {cs:List Cl} {id pos:Int} (hr:Zae cs=true) (h:mayC id pos=true) (hp:(Zaf cs id).2=false):ZaU cs id pos=(0,4):=by
 unfold ZaU;rw [Za (by simp [hr,h]),Zb hp]
theorem ZrK {cs:List Cl} {what id pos:Int} {off:Bool} (hr:Zae cs=true) (h:mayC id (posA what pos)=true) (hp:(Zaf cs id).2=false) (hw:what=1∨what=2∨what=3):actC cs what id pos off=([],4):=by
 rcases hw with rfl|rfl|rfl
 ·have h:mayC id 0=true:=h;show dropC cs id=_;unfold dropC;rw [ZhO hr h hp];rfl
 ·have h:mayC id pos=true:=h;show Za5 cs id pos=_;unfold Za5;rw [ZhO hr h hp];rfl
 ·have h:mayC id 0=true:=h;show turnC cs id off=_;unfold turnC;rw [ZhO hr h hp];rfl
theorem Zia {cs:List Cl} {id pos:Int} {p:Nat} (hr:Zae cs=true) (h:mayC id pos=true) (hp:Zaf cs id=(p,true)):ZaU cs id pos=(p,0):=by
 unfold ZaU;rw [Za (by simp [hr,h]),hp];rfl
theorem Ztw {cs:List Cl} {id pos:Int} {off:Bool} {p:Nat} (hr:Zae cs=true) (h:mayC id (posA 1 pos)=true) (hp:Zaf cs id=(p,true)):actC cs 1 id pos off=(cs.eraseIdx p,0):=by
 show dropC cs id=_;unfold dropC;rw [Zia (pos:=0) hr h hp];rfl
theorem Ztx {cs:List Cl} {id pos:Int} {off:Bool} {p:Nat} {k:Cl} (hr:Zae cs=true) (h:mayC id (posA 2 pos)=true) (hp:Zaf cs id=(p,true)) (hk:cs[p]?=some k):actC cs 2 id pos off=(cs.set p { k with pos:=max k.pos pos },0):=by
 show Za5 cs id pos=_;unfold Za5;rw [Zia (pos:=pos) hr h hp,<-Ze9 hk (f:=fun c=>{ c with pos:=max c.pos pos })];rfl
theorem Zty {cs:List Cl} {id pos:Int} {off:Bool} {p:Nat} {k:Cl} (hr:Zae cs=true) (h:mayC id (posA 3 pos)=true) (hp:Zaf cs id=(p,true)) (hk:cs[p]?=some k):actC cs 3 id pos off=(cs.set p { k with off:=off },0):=by
 show turnC cs id off=_;unfold turnC;rw [Zia (pos:=0) hr h hp,<-Ze9 hk (f:=fun c=>{ c with off:=off })];rfl
theorem Ztz {cs:List Cl} {id pos:Int} {off:Bool} {p:Nat} (hr:Zae cs=true) (h:mayC id (posA 0 pos)=true) (hp:Zaf cs id=(p,true)):actC cs 0 id pos off=([],5):=by
 show addC cs id pos=_;unfold addC;rw [Za (by simp [hr,show mayC id pos=true from h]),hp];rfl
theorem ZtA {cs:List Cl} {id pos:Int} {off:Bool} (hr:Zae cs=true) (h:mayC id (posA 0 pos)=true) (hp:(Zaf cs id).2=false):actC cs 0 id pos off=if cs.length=4 then ([],6) else (insA cs (Zaf cs id).1 id pos,0):=by
 show addC cs id pos=_;unfold addC;rw [Za (by simp [hr,show mayC id pos=true from h]),Za (by simp [hp])];rfl
theorem RowI.tail {I:Hp} {s n c:Nat} {a:Addr} {xs:List Value} (h:RowI I s (slice (some a) n c) n xs) {k:Nat} (hk:k<=n):RowI I s (slice (some (if c=k then a else a.add (k*s))) (n - k) (c - k)) (n - k) (xs.drop (k*s)):=by
 obtain ⟨A,c',e,h2,h3,h4,h5,h6⟩:=id h;simp only [Zz,ZaR] at e;obtain ⟨rfl,rfl⟩:=e;refine ⟨_,_,rfl,by rw [ZW,h2,ZfM],by omega,by omega,(fun e=>by cases e),fun hn=>?_⟩;obtain ⟨b,off,cs,t,f,e1,e2,e3⟩:=h6 (by omega);simp only [Zaa] at e1;subst e1;rw [Za (by omega),add_plain];refine ⟨_,_,cs,t,f,rfl,e2,fun i y hy=>?_⟩;rw [Zbw] at hy;rw [Zbb];exact e3 _ y hy
theorem Zth {W w:World} {I:Hp} {l:List HP} {g:Nat} {x:Cl} {t:TypeId} {f:Nat × Nat} (h:St W I w (pt g (cells #[int i64 x.id,int i64 x.pos,.bool x.off] t f)::l)):SliceSrc w 3 (slice (some ⟨g,0,none⟩) 1 1) 1 x.vals:=by
 refine ⟨_,_,rfl,⟨rfl,fun _=>⟨_,rfl,fun j u hu=>?_⟩,fun u hu=>?_⟩,fun e=>by cases e⟩
 ·rw [add_plain,ZX,Zc h.heap j,<-hu];simp [Cl.vals]
 ·simp only [Cl.vals,Z4,Zbv,Zbi] at hu;rcases hu with rfl|rfl|rfl <;> rfl
section
theorem Zmt {ca cb:Code} {Q:Exit->Act->World->Prop} {K:Act->World->Prop} (hK:∀ x y,cb.wp prog Q x y->K x y) (hC:(f166).body.bind (fromR 13)=some (.seq ca cb)) {x1 x4 x5 x6 x7 x8 x9 x10 x11 x12 x13 x15 x16 x17 x18 x19 x20 x21 x22 x23 x24 x25 x26 x27 x28 x29 x30 x31 x32 x33 x34 x35 x36 x37 x38 x39 x40 x41 x42 x43 x44 x45 x46 x47 x48 x49 x50 x51 x52 x53 x54 x55 x56 x57 x58 x59 x60 x61 x62 x63 x64 x65 x66 x67 x68 x69 x70 x71 x72 x73 x74 x75 x76 x77 x78 x79 x80 x81 x82 x83 x84 x85 x86 x87 x88 x89 x90 x91 x92 x93 x94 x95 x96 x97 x98 x99 x100 x101 x102 x103 x104 x105 x106 x107 x108 x109 x110 x111 x112 x113 x114 x115 x116 x117 x118:Value} {v:Value} {cs:List Cl} {id pos:Int} {k:Nat}
  (h:St W I w l) (hv:RowI I 3 v cs.length (cs.flatMap Cl.vals)) (hk:k<=cs.length) (hl:cs.length<=1000)
  (hQ:∀ (y0 y1 y2 y3 y4 y5 y6 y7 y8 y9 y12 y13 y14 y15 y16 y17 y18 y19 y20 y21 y22 y23 y24 y25 y26 y27 y28 y29 y30 y31 y32 y33 y34 y35 y36 y37 y38 y39 y40 y41 y42 y43 y44 y45 y46 y47 y48 y49 y50 y51 y52 y53 y54 y55 y56 y57 y58 y59 y60 y61 y62 y63 y64 y65 y66 y67 y68 y69 y70 y71 y72 y73 y74 y75 y76 y77 y78 y79 y80 y81 y82 y83 y84 y85 y86 y87 y88 y89 y90 y91 y92 y93 y94 y95 y96 y97 y98 y99 y100 y101 y102 y103 y104 y105 y106 y107 y108 y109 y110 y111 y112 y113 y114 y115 y116 y117 y118 v':Value) (I':Hp) (w':World),I.sub I'->RowI I' 3 v' (insA cs k id pos).length ((insA cs k id pos).flatMap Cl.vals)->St W I' w' l->Q .ret ⟨#[y0,y1,y2,y3,y4,y5,y6,y7,y8,y9,v',int i64 0,y12,y13,y14,y15,y16,y17,y18,y19,y20,y21,y22,y23,y24,y25,y26,y27,y28,y29,y30,y31,y32,y33,y34,y35,y36,y37,y38,y39,y40,y41,y42,y43,y44,y45,y46,y47,y48,y49,y50,y51,y52,y53,y54,y55,y56,y57,y58,y59,y60,y61,y62,y63,y64,y65,y66,y67,y68,y69,y70,y71,y72,y73,y74,y75,y76,y77,y78,y79,y80,y81,y82,y83,y84,y85,y86,y87,y88,y89,y90,y91,y92,y93,y94,y95,y96,y97,y98,y99,y100,y101,y102,y103,y104,y105,y106,y107,y108,y109,y110,y111,y112,y113,y114,y115,y116,y117,y118],[]⟩ w') :
  ca.wp prog (Exit.then K Q) ⟨#[v,x1,int i64 id,int i64 pos,x4,x5,x6,x7,x8,x9,x10,x11,x12,x13,int i64 k,x15,x16,x17,x18,x19,x20,x21,x22,x23,x24,x25,x26,x27,x28,x29,x30,x31,x32,x33,x34,x35,x36,x37,x38,x39,x40,x41,x42,x43,x44,x45,x46,x47,x48,x49,x50,x51,x52,x53,x54,x55,x56,x57,x58,x59,x60,x61,x62,x63,x64,x65,x66,x67,x68,x69,x70,x71,x72,x73,x74,x75,x76,x77,x78,x79,x80,x81,x82,x83,x84,x85,x86,x87,x88,x89,x90,x91,x92,x93,x94,x95,x96,x97,x98,x99,x100,x101,x102,x103,x104,x105,x106,x107,x108,x109,x110,x111,x112,x113,x114,x115,x116,x117,x118],[]⟩ w:=by
 injection hC with hC;injection hC with hC1 hC2;subst hC1 hC2;have hv2:=hv;obtain ⟨A,c,rfl,hxl,hnc,hcm,hA,hr⟩:=hv2;obtain ⟨n,hn⟩:=Zn cs.length;have key:∃ T c2 m,RowI I 3 (slice T m c2) m ((cs.drop k).flatMap Cl.vals)∧k+m=n∧((A=none∧T=none∧c=0∧c2=0∧k=0∧n=0∧m=0)∨∃ a,A=some a∧(n=k∧c=k∧c2=0∧m=0∧T=some a∨¬ c=k∧c2=c - k∧m=n - k∧T=some (a.add (k*3)))):=by
  cases A with
  | none =>
   have h0:=hA rfl;exact ⟨none,0,0,by rw [ZbS (by omega)];exact ZbB _ _,by omega,.inl ⟨rfl,rfl,h0,rfl,by omega,by omega,rfl⟩⟩
  | some a =>
   have:=hv.tail hk;rw [show (cs.flatMap Cl.vals).drop (k*3)=(cs.drop k).flatMap Cl.vals from Ze4 cs k] at this;by_cases hc:c=k
   ·rw [Zb hc,hc,Zdn,show cs.length - k=0 by omega] at this;exact ⟨_,_,_,this,by omega,.inr ⟨a,rfl,.inl ⟨by omega,hc,rfl,rfl,rfl⟩⟩⟩
   ·rw [Za hc] at this;exact ⟨_,_,_,this,by omega,.inr ⟨a,rfl,.inr ⟨hc,rfl,by rw [hn],rfl⟩⟩⟩
 obtain ⟨T,c2,m,hT,hmk,key⟩:=key;have hP:RowI I 3 (slice A k c) k ((cs.take k).flatMap Cl.vals):=by
  have:=hv.pre hk;rwa [show (cs.flatMap Cl.vals).take (k*3)=(cs.take k).flatMap Cl.vals from ZeH cs k] at this
 have hkn:k<=n:=by omega
 rw [<-hn] at hnc |-;have hkc:k<=c:=by omega
 have hkb:k<=1000:=by omega
 have hki:(k:Int)<=(c:Int):=by omega
 have hkI:(k:Int)<=(n:Int):=by omega
 obtain ⟨w0,hw0⟩:=Zn w.drew;have H0:=Zh (show St W I w0 l by rw [hw0];exact h.drew);have HQ:=Zh hQ;have HBA:=Zh (fun (w':World) (L:List HP) (h':St W I w' L)=>h'.row_bare 212 3);have HAL:=Zh (fun (w':World) (L:List HP) (h':St W I w' L)=>h'.alloc (cells #[int i64 id,int i64 pos,.bool false] 212))
 have HAP:=Zh (show ∀ (g:Nat) (w':World) (L:List HP),St W I w' (HP.row 212 3 (slice (some ⟨g,0,none⟩) 0 0) 0 []::L)->∃ A' c' w'',(Builtin.append_ #[103,103] 103 #[slice (some ⟨g,0,none⟩) 0 0,slice A k c]).run prog w'=.ok (slice A' k c') w''∧St W I w'' (HP.row 212 3 (slice A' k c') k ((cs.take k).flatMap Cl.vals)::L) from fun g w' L h'=>by
  obtain ⟨v,w'',hr,h2⟩:=St.cls_append 103 h' (hP.src h'.imm (Zcz _) (by omega)) (by omega);rw [ZX,Zu] at h2;obtain ⟨A',c',rfl⟩:=ZA h2.row_owns
  exact ⟨A',c',w'',hr,h2⟩)
 have hln:(insA cs k id pos).length=n+1:=by unfold insA;simp;omega
 have hfl:(cs.take k).flatMap Cl.vals++Cl.vals ⟨id,pos,false⟩++(cs.drop k).flatMap Cl.vals=(insA cs k id pos).flatMap Cl.vals:=by unfold insA;simp
 have HAS:=Zh (show ∀ (A':Option Addr) (c':Nat) (w':World) (L:List HP),St W I w' (HP.row 212 3 (slice A' (k+1) c') (k+1) ((cs.take k).flatMap Cl.vals++Cl.vals ⟨id,pos,false⟩)::L)->∃ A'' c'' w'' I'',(Builtin.append_ #[103,103] 103 #[slice A' (k+1) c',slice T m c2]).run prog w'=.ok (slice A'' (n+1) c'') w''∧I.sub I''∧RowI I'' 3 (slice A'' (n+1) c'') (insA cs k id pos).length ((insA cs k id pos).flatMap Cl.vals)∧St W I'' w'' L from fun A' c' w' L h'=>by
  obtain ⟨v,w'',hr,h2⟩:=St.cls_append 103 h' (hT.src h'.imm (Zcz _) (by omega)) (by omega);rw [show k+1+m=n+1 by omega] at h2;obtain ⟨A'',c'',rfl⟩:=ZA h2.row_owns;obtain ⟨I'',s2,hr2,h3⟩:=h2.freeze_row;rw [hfl] at hr2
  exact ⟨A'',c'',w'',I'',hr,s2,by rw [hln];exact hr2,h3⟩)
 obtain ⟨px,hpx⟩:=Zn ((cs.take k).flatMap Cl.vals);rw [<-hpx] at HAP HAS;clear h hv hxl hA hr hT hP hQ hn hpx hln hfl hmk hk;rcases key with ⟨rfl,rfl,rfl,rfl,rfl,rfl,rfl⟩|⟨a,rfl,⟨rfl,rfl,rfl,rfl,rfl⟩|⟨hck,rfl,rfl,rfl⟩⟩;all_goals
  go_upto_region 13 with fail;refine Ze2 (fun _=>True) [0,1,2,3,4,5,6,7,8,9,10,11,12] (Tp.pull [1,2,3,5,6,7,10,11,12] (Tp.two 0 (Tp.two 4 (Tp.one 8 (Tp.one 9 Tp.leaf)) 8 (Tp.one 4 (Tp.one 9 Tp.leaf))) 8 (Tp.one 0 (Tp.one 4 (Tp.one 9 Tp.leaf))))) [13,14] (by kernel_rfl) (by kernel_rfl) (by trivial) ?_;rw [<-hw0];clear hw0;unfold wpTp
  (try simp only [pickL,Zg,Zi])
  repeat (first|refine ZM _ (Or.inl ⟨by rfl,by (intro w hSw;(try dsimp only at hSw);go_simp;try with_reducible rfl)⟩) ?_|refine ZM _ (Or.inr ⟨by rfl,rfl⟩) ?_|fail);(try go_frame)
  refine Z7 ?_;unfold wpTp
  (try simp only [pickL,Zg,Zi])
  refine ⟨?_,?_⟩;all_goals first
   |(have h1:=HBA.o _ _ H0.o;obtain ⟨g1,hg1⟩:=Zn w0.heap.size;obtain ⟨w1,hw1⟩:=Zn (w0.alloc (cells #[] 212));rw [<-hg1,<-hw1] at h1;have H1:=Zh h1;clear h1;go_wp2_with fail;rw [<-hw1,<-hg1];clear hg1 hw1;refine Zm trivial ?_;unfold wpTp
     (try simp only [pickL,Zg,Zi])
     refine ⟨?_,?_⟩;all_goals first
      |(obtain ⟨A4,c4,w2,hr4,h4⟩:=HAP.o _ _ _ H1.o;have H2:=Zh h4;have HR4:=Zh hr4;clear h4 hr4;go_wp2_with (at_builtin;refine ZZ _ rfl (.tmp 70) (.tmp 73) 103 103 rfl _ _ rfl rfl _ _ HR4.o ?_);clear HR4;refine Zm trivial ?_;unfold wpTp
        (try simp only [pickL,Zg,Zi])
        have h9:=HAL.o _ _ H2.o;obtain ⟨g5,hg5⟩:=Zn w2.heap.size;obtain ⟨w5,hw5⟩:=Zn (w2.alloc (cells #[int i64 id,int i64 pos,.bool false] 212));rw [<-hg5,<-hw5] at h9;have H5:=Zh (h9.pull 1 _ rfl);clear h9;go_wp2_with fail;rw [<-hw5,<-hg5];clear hg5 hw5;refine Zm trivial ?_;unfold wpTp
        (try simp only [pickL,Zg,Zi])
        skip)
      |(have h9:=HAL.o _ _ H1.o;obtain ⟨g5,hg5⟩:=Zn w1.heap.size;obtain ⟨w2,hw5⟩:=Zn (w1.alloc (cells #[int i64 id,int i64 pos,.bool false] 212));rw [<-hg5,<-hw5] at h9;have H2:=Zh (h9.pull 1 _ rfl);clear h9;go_wp2_with fail;rw [<-hw5,<-hg5];clear hg5 hw5;refine Zm trivial ?_;unfold wpTp
        (try simp only [pickL,Zg,Zi])
        obtain ⟨A4,c4,w5,hr4,h4⟩:=HAP.o _ _ _ H2.o;have H5:=Zh h4;have HR4:=Zh hr4;clear h4 hr4;go_wp2_with (at_builtin;refine ZZ _ rfl (.tmp 70) (.tmp 73) 103 103 rfl _ _ rfl rfl _ _ HR4.o ?_);clear HR4;refine Zm trivial ?_;unfold wpTp
        (try simp only [pickL,Zg,Zi])
        skip)
      | fail)
   |(have h9:=HAL.o _ _ H0.o;obtain ⟨g5,hg5⟩:=Zn w0.heap.size;obtain ⟨w1,hw5⟩:=Zn (w0.alloc (cells #[int i64 id,int i64 pos,.bool false] 212));rw [<-hg5,<-hw5] at h9;have H1:=Zh h9;clear h9;go_wp2_with fail;rw [<-hw5,<-hg5];clear hg5 hw5;refine Zm trivial ?_;unfold wpTp
     (try simp only [pickL,Zg,Zi])
     have h1:=HBA.o _ _ H1.o;obtain ⟨g1,hg1⟩:=Zn w1.heap.size;obtain ⟨w2,hw1⟩:=Zn (w1.alloc (cells #[] 212));rw [<-hg1,<-hw1] at h1;have H2:=Zh h1;clear h1;go_wp2_with fail;rw [<-hw1,<-hg1];clear hg1 hw1;refine Zm trivial ?_;unfold wpTp
     (try simp only [pickL,Zg,Zi])
     obtain ⟨A4,c4,w5,hr4,h4⟩:=HAP.o _ _ _ H2.o;have H5:=Zh h4;have HR4:=Zh hr4;clear h4 hr4;go_wp2_with (at_builtin;refine ZZ _ rfl (.tmp 70) (.tmp 73) 103 103 rfl _ _ rfl rfl _ _ HR4.o ?_);clear HR4;refine Zm trivial ?_;unfold wpTp
     (try simp only [pickL,Zg,Zi])
     skip)
   | fail
  all_goals
   clear HBA HAL HAP H0 H1 H2;obtain ⟨v6,w6,hr6,h6⟩:=St.cls_append 103 H5.o (Zth (x:=⟨id,pos,false⟩) (H5.o.pull 1 _ rfl)) (by omega);obtain ⟨A6,c6,rfl⟩:=ZA h6.row_owns;obtain ⟨A7,c7,w7,I7,hr7,s7,hR7,h7⟩:=HAS.o _ _ _ _ h6;have HR6:=Zh hr6;have HR7:=Zh hr7;have H7:=Zh h7.drop;have HS7:=Zh s7;have HL7:=Zh hR7;clear hr6 h6 hr7 s7 hR7 h7 H5;go_wp2_with (at_builtin;refine ZZ _ rfl (.tmp 74) (.tmp 78) 103 103 rfl _ _ rfl rfl _ _ HR6.o ?_);clear HR6;refine Zm trivial ?_;unfold wpTp
   (try simp only [pickL,Zg,Zi])
   go_wp2_with (at_builtin;refine ZZ _ rfl (.tmp 79) (.tmp 82) 103 103 rfl _ _ rfl rfl _ _ HR7.o ?_);refine Zw ?_;go_wp2_with fail;exact HQ.o _ _ _ _ _ _ _ _ _ _ _ _ _ _ _ _ _ _ _ _ _ _ _ _ _ _ _ _ _ _ _ _ _ _ _ _ _ _ _ _ _ _ _ _ _ _ _ _ _ _ _ _ _ _ _ _ _ _ _ _ _ _ _ _ _ _ _ _ _ _ _ _ _ _ _ _ _ _ _ _ _ _ _ _ _ _ _ _ _ _ _ _ _ _ _ _ _ _ _ _ _ _ _ _ _ _ _ _ _ _ _ _ _ _ _ _ _ _ I7 w7 HS7.o HL7.o H7.o
theorem ZrL (v:Value) (cs:List Cl) (what id pos:Int) (off:Bool) (h:St W I w l) (hv:RowI I 3 v cs.length (cs.flatMap Cl.vals)) (hr:Zae cs=true) (hw:what=0∨what=1∨what=2∨what=3) :
  Calls prog 166 #[v,int i64 what,int i64 id,int i64 pos,.bool off] w fun e w'=>∃ I',I.sub I'∧∃ v',e=.returned (.tuple #[v',int i64 (actC cs what id pos off).2])∧RowI I' 3 v' (actC cs what id pos off).1.length ((actC cs what id pos off).1.flatMap Cl.vals)∧St W I' w' l:=by
 have hr2:=hr;unfold Zae at hr2;simp only [ZR,Zk] at hr2;obtain ⟨hgo,hl4⟩:=hr2;obtain ⟨⟨xs,we⟩,hA⟩:∃ x,x=actC cs what id pos off:=⟨_,rfl⟩;rw [<-hA];have HRI:=Zh (Zo5 v cs h hv hr);have hv2:=hv;obtain ⟨A,c,rfl,_,hnc,_,hA0,hsome⟩:=hv2;obtain ⟨n,hn⟩:=Zn cs.length;obtain ⟨fi,hfi⟩:=Zn (findC cs id 0);have HFI:=Zh (fun (w':World) (h':St W I w' l)=>Zqj (slice A cs.length c) cs id h' hv (by omega));rw [<-hfi] at HFI;rw [Zkd cs id 0 0 hgo] at hfi;have hk:(∃ p:Nat,fi=p∧p<n∧Zaf cs id=(p,true))∨(fi=-1∧(Zaf cs id).2=false):=by
  cases hp:(Zaf cs id).2 with
  | false=>exact .inr ⟨by rw [hfi,Za (by simp [hp])],rfl⟩
  | true=>exact .inl ⟨(Zaf cs id).1,by rw [hfi,Zb hp];omega,by rw [hn];exact (Zfg cs id).2 hp,by rw [<-hp]⟩
 have HAP:=Zh (show ∀ (w':World),St W I w' l->∃ A' c' w'',(Builtin.append_ #[103,103] 103 #[slice (some ⟨w'.heap.size,0,none⟩) 0 0,slice A n c]).run prog (w'.alloc (cells #[] 212))=.ok (slice A' n c') w''∧St W I w'' (HP.row 212 3 (slice A' cs.length c') cs.length (cs.flatMap Cl.vals)::l) from fun w' h'=>by
  have h2:=h'.row_bare 212 3;obtain ⟨v,w'',hr,h3⟩:=St.cls_append 103 h2 (hv.src h2.imm (Zcz _) (by omega)) (show 0+cs.length<=_ by omega);rw [ZX,Zu] at h3;obtain ⟨A',c',rfl⟩:=ZA h3.row_owns;rw [hn]
  exact ⟨A',c',w'',hr,h3⟩)
 have HBAD:=Zh (show mayC id (posA what pos)=false->xs=[]∧we=1 from fun hb=>by rw [ZsD hb] at hA;exact Zez hA);have HA:=Zh hA;have H:=Zh h;have HV:=Zh hv;have HN:=Zh hn;have HG:=Zh hr;rw [<-hn] at hnc HRI HFI |-;clear h hv hr hgo hA hfi hn hA0 hsome;go_enter func166,ntmps166;go_wp2_with fail;refine HRI.o.mono ?_;rintro e w2 ⟨rfl,hb2⟩;have H2:=Zh (H.o.keep hb2);clear hb2 HRI H;by_cases b1:id<1
 ·have d1:decide (id<1)=true:=Zt b1;obtain ⟨rfl,rfl⟩:=HBAD.o (by unfold mayC;exact Zq (by omega));go_wp2;go_ret2;exact ⟨I,Hp.sub.refl _,_,rfl,ZbB _ _,H2.o⟩
 have d1:decide (id<1)=false:=Zq b1;by_cases b2:1073741824<id
 ·have d2:decide (1073741824<id)=true:=Zt b2;obtain ⟨rfl,rfl⟩:=HBAD.o (by unfold mayC;exact Zq (by omega));go_wp2;go_ret2;exact ⟨I,Hp.sub.refl _,_,rfl,ZbB _ _,H2.o⟩
 have d2:decide (1073741824<id)=false:=Zq b2;by_cases b3:(what=0∨what=2)∧(pos<0∨1099511627776<pos)
 ·obtain ⟨rfl,rfl⟩:=HBAD.o (by unfold mayC posA;rw [Zb b3.1];exact Zq (by omega));obtain ⟨b4,b5⟩:=b3;by_cases b6:pos<0
  ·have d3:decide (pos<0)=true:=Zt b6;rcases b4 with rfl|rfl;all_goals
    go_wp2;go_ret2;exact ⟨I,Hp.sub.refl _,_,rfl,ZbB _ _,H2.o⟩
  ·have d3:decide (pos<0)=false:=Zq b6;have d4:decide (1099511627776<pos)=true:=Zt (by omega);rcases b4 with rfl|rfl;all_goals
    go_wp2;go_ret2;exact ⟨I,Hp.sub.refl _,_,rfl,ZbB _ _,H2.o⟩
 have HM:=Zh (show mayC id (posA what pos)=true by
  unfold mayC posA;rw [Zk];by_cases hq:what=0∨what=2
  ·rw [Zb hq];have:¬ (pos<0∨1099511627776<pos):=fun q=>b3 ⟨hq,q⟩;omega
  ·rw [Za hq]
   omega)
 have key:(what=1∨what=3)∨(what=0∨what=2)∧decide (pos<0)=false∧decide (1099511627776<pos)=false:=by
  rcases hw with rfl|rfl|rfl|rfl
  ·exact .inr ⟨.inl rfl,Zq fun q=>b3 ⟨.inl rfl,.inl q⟩,Zq fun q=>b3 ⟨.inl rfl,.inr q⟩⟩
  ·exact .inl (.inl rfl)
  ·exact .inr ⟨.inr rfl,Zq fun q=>b3 ⟨.inr rfl,.inl q⟩,Zq fun q=>b3 ⟨.inr rfl,.inr q⟩⟩
  ·exact .inl (.inr rfl)
 clear b1 b2 b3 hw HBAD;obtain ⟨A4,c4,w4,hr4,h4⟩:=HAP.o _ H2.o;have HR4:=Zh hr4;have H4:=Zh h4;clear hr4 h4 HAP;rcases hk with ⟨p,rfl,hp,hpl⟩|⟨rfl,hpl⟩
 ·have dp:decide ((p:Int)<0)=false:=Zq (by omega);have dq:decide (0<=(p:Int))=true:=Zt (by omega);have HPL:=Zh hpl;have hpc:p<=c:=by omega
  clear hpl;rcases key with (rfl|rfl)|⟨rfl|rfl,d3,d4⟩;all_goals
   go_wp2_with fail;refine (HFI.o _ H2.o).mono ?_;rintro e w3 ⟨rfl,rfl⟩;go_wp2_with (at_builtin;refine ZZ _ rfl (.tmp 45) (.tmp 46) 103 103 rfl _ _ rfl rfl _ _ HR4.o ?_);clear HR4 HFI
  ·have hn:=HN.o;obtain ⟨p1,hp1⟩:=Zn (p+1);obtain ⟨T,t,c2,hT,ht,a,rfl,key⟩:∃ T m c2,RowI I 3 (slice T m c2) m ((cs.drop p1).flatMap Cl.vals)∧p+m+1=n∧∃ a,A=some a∧((n=p1∧c=p1∧m=0∧c2=0∧T=some a)∨(¬ c=p1∧m=n - p1∧c2=c - p1∧T=some (a.add (p1*3)))):=by
    obtain ⟨A',c',e,_,_,_,hA,_⟩:=HV.o;simp only [Zz,ZaR] at e;obtain ⟨rfl,rfl⟩:=e;cases A with
    | none=>have:=hA rfl;omega
    | some a =>
     have:=HV.o.tail (k:=p1) (by omega);rw [show (cs.flatMap Cl.vals).drop (p1*3)=(cs.drop p1).flatMap Cl.vals from Ze4 cs p1] at this;by_cases hc:c=p1
     ·rw [Zb hc,hc,Zdn,show cs.length - p1=0 by omega] at this;exact ⟨_,_,_,this,by omega,a,rfl,.inl ⟨by omega,hc,rfl,rfl,rfl⟩⟩
     ·rw [Za hc] at this;exact ⟨_,_,_,this,by omega,a,rfl,.inr ⟨hc,by rw [hn],rfl,rfl⟩⟩
   have hP:RowI I 3 (slice (some a) p c) p ((cs.take p).flatMap Cl.vals):=by
    have:=HV.o.pre (k:=p) (by omega);rwa [show (cs.flatMap Cl.vals).take (p*3)=(cs.take p).flatMap Cl.vals from ZeH cs p] at this
   obtain ⟨w0,hw0⟩:=Zn w4.drew;have h5:St W I w0 l:=by rw [hw0];exact H4.o.drop.drew
   have h6:=h5.row_bare 212 3;obtain ⟨v7,w7,hr7,h7⟩:=St.cls_append 103 h6 (hP.src h6.imm (Zcz _) (by omega)) (by omega);rw [ZX,Zu] at h7;obtain ⟨A7,c7,rfl⟩:=ZA h7.row_owns;obtain ⟨v8,w8,hr8,h8⟩:=St.cls_append 103 h7 (hT.src h7.imm (Zcz _) (by omega)) (by omega);obtain ⟨A8,c8,rfl⟩:=ZA h8.row_owns;obtain ⟨I9,s9,hR9,h9⟩:=h8.freeze_row;have he:cs.eraseIdx p=cs.take p++cs.drop p1:=by rw [hp1];exact ZfG ..
   have hX:=Zez (HA.o.trans (Ztw HG.o HM.o HPL.o));obtain ⟨rfl,rfl⟩:=hX
   have HR9:=Zh (show RowI I9 3 (slice A8 (p+t) c8) (cs.eraseIdx p).length ((cs.eraseIdx p).flatMap Cl.vals) by
    rw [<-Zcu] at hR9;rw [he,show (cs.take p++cs.drop p1).length=p+t by simp;omega]
    exact hR9)
   have HR7:=Zh hr7;have HR8:=Zh hr8;have H9:=Zh h9;have S9:=Zh s9;have hpi:(p:Int)<=(c:Int):=by omega
   have hpi1:(p1:Int)<=(n:Int):=by omega
   have hpn1:p1<=n:=by omega
   have wp:IntKind.i64.wrap ((p:Int)+1)=(p1:Int):=by rw [Zx];omega
   clear hP h5 h6 h7 h8 h9 hR9 he s9 hr7 hr8 hT hn ht hp hp1;rcases key with ⟨rfl,rfl,rfl,rfl,rfl⟩|⟨hck,rfl,rfl,rfl⟩;all_goals
    go_upto_region 20 with fail;refine Zay (fun _=>True) [1,2,3,5,6,7,8] [0,4] [9,10] (by kernel_rfl) (by kernel_rfl) (by (trivial)) ?_;simp only [pickL,Zg,Zi];repeat (refine ZM _ (Or.inl ⟨by rfl,by (intro w hSw;(try dsimp only at hSw);go_simp;try with_reducible rfl)⟩) ?_;(try go_frame))
    refine Z7 ?_;unfold Zr;rw [<-hw0];clear hw0;go_wp2;refine Zm trivial ?_;unfold Zr;go_wp2_with (at_builtin;refine ZZ _ rfl (.tmp 95) (.tmp 98) 103 103 rfl _ _ rfl rfl _ _ HR7.o ?_);refine Zm trivial ?_;unfold Zr;go_wp2_with (at_builtin;refine ZZ _ rfl (.tmp 99) (.tmp 103) 103 103 rfl _ _ rfl rfl _ _ HR8.o ?_);refine Zw ?_;go_wp2;go_ret2;exact ⟨I9,S9.o,_,rfl,HR9.o,H9.o⟩
  ·have hn:=HN.o;obtain ⟨k,hk⟩:∃ k,cs[p]?=some k:=⟨_,Zy (by omega)⟩;obtain ⟨rfl,rfl⟩:=Zez (HA.o.trans (Zty HG.o HM.o HPL.o hk));obtain ⟨g6,rfl,hcc⟩:=H4.o.rowk_cells (fun _=>rfl) hk;have y1:=hcc 2 (by omega);obtain ⟨h7,f5,l5⟩:=H4.o.row_set (mk:=Cl.vals) (fun _=>rfl) (j:=2) (a':={ k with off:=off }) (v:=.bool off) hk (by omega) rfl;have f5:=f5 (p*3+2);obtain ⟨I9,s9,hR9,h9⟩:=h7.freeze_row;have HR9:=Zh hR9;have H9:=Zh h9;have S9:=Zh s9;obtain ⟨kid,kpos,koff⟩:=k;simp only [Cl.vals,Zg,Zi,ZaP] at y1;have hpi:(p:Int)<(n:Int):=by omega
   clear hk hcc h7 hR9 h9 s9 hn;go_wp2;go_ret2;refine ⟨I9,S9.o,_,rfl,?_,H9.o⟩;have:=HR9.o;rw [<-HN.o] at this |-;exact this
  ·obtain rfl:=HN.o;obtain ⟨rfl,rfl⟩:=Zez (HA.o.trans (Ztz HG.o HM.o HPL.o));go_wp2;go_ret2;exact ⟨I,Hp.sub.refl _,_,rfl,ZbB _ _,H4.o.drop⟩
  ·have hn:=HN.o;obtain ⟨k,hk⟩:∃ k,cs[p]?=some k:=⟨_,Zy (by omega)⟩;obtain ⟨rfl,rfl⟩:=Zez (HA.o.trans (Ztx HG.o HM.o HPL.o hk));obtain ⟨g6,rfl,hcc⟩:=H4.o.rowk_cells (fun _=>rfl) hk;have y1:=hcc 1 (by omega);obtain ⟨h7,f5,l5⟩:=H4.o.row_set (mk:=Cl.vals) (fun _=>rfl) (j:=1) (a':={ k with pos:=max k.pos pos }) (v:=int i64 (max k.pos pos)) hk (by omega) rfl;have f5:=f5 (p*3+1);obtain ⟨I9,s9,hR9,h9⟩:=h7.freeze_row;have HR9:=Zh hR9;have H9:=Zh h9;have S9:=Zh s9;obtain ⟨kid,kpos,koff⟩:=k;simp only [Cl.vals,Zg,Zi,ZaP] at y1;have hpi:(p:Int)<(n:Int):=by omega
   clear hk hcc h7 hR9 h9 s9 hn;go_wp2;go_ret2;refine ⟨I9,S9.o,_,rfl,?_,H9.o⟩;have:=HR9.o;rw [<-HN.o] at this |-;exact this
 ·have HPL:=Zh hpl;clear hpl;rcases key with (rfl|rfl)|⟨rfl|rfl,d3,d4⟩;rotate_right 2
  ·have HX:=Zh (HA.o.trans (ZtA HG.o HM.o HPL.o));cases d5:((n:Int)==4);all_goals
    go_wp2_with fail;refine (HFI.o _ H2.o).mono ?_;rintro e w3 ⟨rfl,rfl⟩;go_wp2_with (at_builtin;refine ZZ _ rfl (.tmp 45) (.tmp 46) 103 103 rfl _ _ rfl rfl _ _ HR4.o ?_);clear HR4 HFI
   ·have hn:=HN.o;subst hn;obtain ⟨rfl,rfl⟩:=Zez (HX.o.trans (Za (by simp at d5;omega)));go_wp2;go_loopw [14] (fun a14 wr=>∃ k:Nat,a14=int i64 k∧k<=cs.length∧(∀ j c,j<k->cs[j]?=some c->c.id<id)∧wr=w4) (fun a14 _=>cs.length - (intOf a14).toNat);case atStart=>exact ⟨0,rfl,ZL _,fun j c h=>by omega,rfl⟩
    case round =>
     obtain ⟨k,rfl,hk,hall,rfl⟩:=hrel;have hend:(∀ x,cs[k]?=some x->id<=x.id)->(Zaf cs id).1=k:=fun hx=>Zqk hk hall hx;by_cases hlt:k<cs.length
     ·have d6:decide ((k:Int)<(cs.length:Int))=true:=by rw [Zk];omega
      obtain ⟨x,hx⟩:∃ x,cs[k]?=some x:=⟨_,Zy hlt⟩;obtain ⟨b,off',e1,hc⟩:=ZbL (i:=k) HV.o (Hp.sub.refl I) H4.o (fun _=>rfl) hx;simp only [Zz,Zap] at e1;subst e1;have y0:=hc 0 (by omega);obtain ⟨kid,kpos,koff⟩:=x;simp only [Cl.vals,Zg,ZaP] at y0;have hin:(k:Int)<(cs.length:Int):=by omega
      by_cases hid:kid<id
      ·have d7:decide (kid<id)=true:=Zt hid
       have HAL:=Zh (show ∀ j c,j<k+1->cs[j]?=some c->c.id<id from fun j c hj hcj=>by
        rcases ZeW j k with h|h
        ·exact hall j c h hcj
        ·have hjk:j=k:=by omega
         rw [hjk,hx] at hcj;cases hcj;exact hid)
       clear hc hx hall hend;go_wp2;go_roundw;case rel=>exact ⟨k+1,by go_num,by omega,HAL.o,trivial⟩
       case measure=>simp [intOf]<;>omega
      ·have d7:decide (kid<id)=false:=Zq hid;have HE:=Zh (hend fun x h=>by rw [hx] at h;cases h;show id<=kid;omega);clear hc hx hall hend;go_upto_region 13 with fail;refine Zmt (by assumption) (by kernel_rfl) H4.o.drop HV.o hk (by omega) ?_;intro y0 y1 y2 y3 y4 y5 y6 y7 y8 y9 y12 y13 y14 y15 y16 y17 y18 y19 y20 y21 y22 y23 y24 y25 y26 y27 y28 y29 y30 y31 y32 y33 y34 y35 y36 y37 y38 y39 y40 y41 y42 y43 y44 y45 y46 y47 y48 y49 y50 y51 y52 y53 y54 y55 y56 y57 y58 y59 y60 y61 y62 y63 y64 y65 y66 y67 y68 y69 y70 y71 y72 y73 y74 y75 y76 y77 y78 y79 y80 y81 y82 y83 y84 y85 y86 y87 y88 y89 y90 y91 y92 y93 y94 y95 y96 y97 y98 y99 y100 y101 y102 y103 y104 y105 y106 y107 y108 y109 y110 y111 y112 y113 y114 y115 y116 y117 y118 v' I' w' s' hR' h';go_ret2;rw [HE.o];exact ⟨I',s',_,rfl,hR',h'⟩
     ·obtain rfl:k=cs.length:=by omega
      have d6:decide (((cs.length:Nat):Int)<(cs.length:Int))=false:=by rw [ZT];omega
      have HE:=Zh (hend fun x h=>by rw [ZeX (ZC _)] at h;cases h);clear hall hend;go_upto_region 13 with fail;refine Zmt (by assumption) (by kernel_rfl) H4.o.drop HV.o hk (by omega) ?_;intro y0 y1 y2 y3 y4 y5 y6 y7 y8 y9 y12 y13 y14 y15 y16 y17 y18 y19 y20 y21 y22 y23 y24 y25 y26 y27 y28 y29 y30 y31 y32 y33 y34 y35 y36 y37 y38 y39 y40 y41 y42 y43 y44 y45 y46 y47 y48 y49 y50 y51 y52 y53 y54 y55 y56 y57 y58 y59 y60 y61 y62 y63 y64 y65 y66 y67 y68 y69 y70 y71 y72 y73 y74 y75 y76 y77 y78 y79 y80 y81 y82 y83 y84 y85 y86 y87 y88 y89 y90 y91 y92 y93 y94 y95 y96 y97 y98 y99 y100 y101 y102 y103 y104 y105 y106 y107 y108 y109 y110 y111 y112 y113 y114 y115 y116 y117 y118 v' I' w' s' hR' h';go_ret2;rw [HE.o];exact ⟨I',s',_,rfl,hR',h'⟩
   ·obtain ⟨rfl,rfl⟩:=Zez (HX.o.trans (Zb (by have:=HN.o;simp at d5;omega)));go_wp2;go_ret2;exact ⟨I,Hp.sub.refl _,_,rfl,ZbB _ _,H4.o.drop⟩
  all_goals
   go_wp2_with fail;refine (HFI.o _ H2.o).mono ?_;rintro e w3 ⟨rfl,rfl⟩;go_wp2_with (at_builtin;refine ZZ _ rfl (.tmp 45) (.tmp 46) 103 103 rfl _ _ rfl rfl _ _ HR4.o ?_);clear HR4 HFI;obtain ⟨rfl,rfl⟩:=Zez (HA.o.trans (ZrK HG.o HM.o HPL.o (by omega)));go_wp2;go_ret2;exact ⟨I,Hp.sub.refl _,_,rfl,ZbB _ _,H4.o.drop⟩
end
section
variable {q : Nat} {R : RJ}
theorem Zgm (what id pos:Int) (off:Bool) (h:St W I w (rjHP q R::l)) (hr:Zae R.cls=true) (hw:what=0∨what=1∨what=2∨what=3) :
  Calls prog 118 #[pointer (some ⟨q,0,none⟩),int i64 what,int i64 id,int i64 pos,.bool off] w fun e w'=>∃ I',I.sub I'∧e=.returned (int i64 (rAct R what id pos off).1)∧St W I' w' (rjHP q (rAct R what id pos off).2::l):=by
 obtain ⟨⟨why,RR⟩,hRR⟩:∃ x,x=rAct R what id pos off:=⟨_,rfl⟩;rw [<-hRR];obtain ⟨⟨xs,we⟩,hA⟩:∃ x,x=actC R.cls what id pos off:=⟨_,rfl⟩;have hRR2:(why,RR)=(let y:=if we=1 then 1 else if (what=0∨what=2)∧R.en<pos then 3 else we;(y,if y=0 then { R with cls:=xs } else R)):=by
  rw [hRR];unfold rAct Zc3;rw [<-hA]
 clear hRR;obtain ⟨V,hri,h1⟩:=h.rj_open;obtain ⟨vs,vl,vt,vc⟩:=V;have HAC:=Zh (ZrL vc R.cls what id pos off h1 hri.2.2 hr hw);rw [<-hA] at HAC;simp only at hRR2;have HRR:=Zh hRR2;obtain ⟨_,_,_,_,_,_,_,_,x13,lt⟩:=Zad h1;have HR:=Zh hri;clear h h1 hri hr hA hRR2;simp only at x13;go_enter func118,ntmps118;go_wp2_with fail;refine HAC.o.mono ?_;rintro e w2 ⟨I2,s2,v2,rfl,hR2,h2⟩;have hR3:=hR2;obtain ⟨A2,c2,rfl,_⟩:=hR3;dsimp only;have HR2:=Zh hR2;have S2:=Zh s2;have H2:=Zh h2;clear x13 lt hR2 s2 h2 HAC;by_cases b1:we=1
 ·have d1:(we==1)=true:=by simp [b1]
  have HX:=Zh (HRR.o.trans (by rw [Zb b1]));simp only [Zv] at HX;subst b1;go_wp2;go_ret;obtain ⟨rfl,rfl⟩:=HX.o;exact ⟨I2,S2.o,rfl,St.rj_shut (HR.o.mono S2.o) H2.o⟩
 have d1:(we==1)=false:=by simp [b1]
 by_cases b2:(what=0∨what=2)∧R.en<pos
 ·have HX:=Zh (HRR.o.trans (by rw [Za b1,Zb b2]));simp only [Zv] at HX;have d2:decide (R.en<pos)=true:=Zt b2.2;obtain ⟨_,_,_,_,_,x10,_,_,_,lt⟩:=Zad H2.o;rcases b2.1 with rfl|rfl;all_goals
   go_wp2;go_ret;obtain ⟨rfl,rfl⟩:=HX.o;exact ⟨I2,S2.o,rfl,St.rj_shut (HR.o.mono S2.o) H2.o⟩
 have HX:=Zh (HRR.o.trans (by rw [Za b1,Za b2]));obtain ⟨_,_,_,_,_,x10,_,_,x13,lt⟩:=Zad H2.o;simp only at x13;have fr:=frozen_of_row H2.o.heap
 have HQ:=Zh (show ∀ (w':World),St W I2 w' (rjBlk q { R with cls:=xs } ⟨vs,vl,vt,slice A2 xs.length c2⟩::Zo vl R.l::l)->we=0->∃ I',I.sub I'∧(Ending.returned (int i64 0)=.returned (int i64 why))∧St W I' w' (rjHP q RR::l) from fun w' h' h0=>by
  subst h0;have:=HX.o;simp only [Zb,Zv] at this;obtain ⟨rfl,rfl⟩:=this
  exact ⟨I2,S2.o,rfl,St.rj_shut (R:={ R with cls:=xs }) (V:=⟨vs,vl,vt,slice A2 xs.length c2⟩) ⟨(HR.o.mono S2.o).1,(HR.o.mono S2.o).2.1,HR2.o⟩ h'⟩)
 have HN:=Zh (show we≠0->∃ I',I.sub I'∧(Ending.returned (int i64 we)=.returned (int i64 why))∧St W I' w2 (rjHP q RR::l) from fun h0=>by
  have:=HX.o;simp only [Za h0,Zv] at this;obtain ⟨rfl,rfl⟩:=this
  exact ⟨I2,S2.o,rfl,St.rj_shut (HR.o.mono S2.o) H2.o⟩)
 have H3:=Zh (H2.o.setCell 13 (slice A2 xs.length c2));clear HRR HX;have key:(what=1∨what=3)∨(what=0∨what=2)∧decide (R.en<pos)=false:=by
  rcases hw with rfl|rfl|rfl|rfl
  ·exact .inr ⟨.inl rfl,Zq fun q=>b2 ⟨.inl rfl,q⟩⟩
  ·exact .inl (.inl rfl)
  ·exact .inr ⟨.inr rfl,Zq fun q=>b2 ⟨.inr rfl,q⟩⟩
  ·exact .inl (.inr rfl)
 clear b2 hw b1;by_cases b3:we=0
 ·subst b3;rcases key with (rfl|rfl)|⟨rfl|rfl,d2⟩;all_goals
   go_wp2;go_ret;exact HQ.o _ H3.o (by simp)
 ·have d3:(we==0)=false:=by simp [b3]
  rcases key with (rfl|rfl)|⟨rfl|rfl,d2⟩;all_goals
   go_wp2;go_ret;exact HN.o b3
end
section
variable {q : Nat} {R : RJ}
theorem Zk4 (h:St W I w (rjHP q R::l)) (ht:R.chain.length<=1000) (hc:R.cls.length<=1000) :
  Calls prog 165 #[pointer (some ⟨q,0,none⟩)] w fun e w'=>∃ I',I.sub I'∧e=.returned (.tuple #[])∧St W I' w' (rjHP q (rTidy R)::l):=by
 obtain ⟨V,hr,h1⟩:=h.rj_open;obtain ⟨vs,vl,vt,vc⟩:=V;obtain ⟨At,ct,e3,_⟩:=id hr.2.1;obtain ⟨Ac,cc,e4,_⟩:=id hr.2.2;obtain ⟨c,sets,fill,rl,en,sf,ch,cl⟩:=R;simp only at e3 e4 ht hc;subst e3 e4;have HR:=Zh hr;have H1:=Zh h1;have HT:=Zh ht;have HC:=Zh hc;obtain ⟨nt,hnt⟩:=Zn ch.length;obtain ⟨nc,hnc⟩:=Zn cl.length;have HCT:=Zh (fun (w1:World) (L:List HP) (h1:St W I w1 L)=>ZrG At ct ch en h1 hr.2.1 ht);have hcells:=Zad h1;simp only at hcells;rw [<-hnt] at HCT hcells;rw [<-hnc] at hcells;obtain ⟨_,_,_,_,_,x10,_,x12,x13,lt⟩:=hcells;have HNT:=Zh hnt;have HNC:=Zh hnc;clear h h1 hr ht hc hnt hnc;go_enter func165,ntmps165;go_upto_region 0 with fail;refine ZaM [0,1,2,3,5,6,7] [4,8] [9,10,11,12] (by kernel_rfl) (by kernel_rfl) ?_;simp only [pickL,Zg,Zi];repeat (refine ZaE _ (Or.inl ⟨by rfl,by intro w;go_simp;try with_reducible rfl⟩) ?_;(try go_frame))
 refine ZaF ?_;repeat still_step
 refine ZaQ ?_;go_wp2_with fail;refine (HCT.o _ _ H1.o.drew).mono ?_;rintro e w2 ⟨A2,c2,rfl,h2⟩;dsimp only;obtain ⟨I3,s3,hR3,h3⟩:=h2.freeze_row;have hcells:=Zad h3;simp only at hcells;obtain ⟨_,_,_,_,_,_,_,x12,_,lt⟩:=hcells;have h4:St W I3 (w2.setCell ⟨q,12,none⟩ (slice A2 (ZQ ch en).length c2)) (rjBlk q ⟨c,sets,fill,rl,en,sf,ZQ ch en,cl⟩ ⟨vs,vl,slice A2 (ZQ ch en).length c2,slice Ac cl.length cc⟩::Zo vl rl::l):=h3.setCell 12 (slice A2 (ZQ ch en).length c2);have fr:=frozen_of_row h3.heap;have HR3:=Zh (show rjI ⟨c,sets,fill,rl,en,sf,ZQ ch en,cl⟩ ⟨vs,vl,slice A2 (ZQ ch en).length c2,slice Ac cl.length cc⟩ I3 from ⟨(HR.o.mono s3).1,hR3,(HR.o.mono s3).2.2⟩);have S3:=Zh s3;have H4:=Zh h4;clear h2 h3 h4 hR3 s3 x10 x13 HCT H1 HR;go_wp2;refine Zw ?_;have h4:=H4.o;generalize (World.setCell _ _ _:World)=w4 at h4 |-;clear x12 lt fr H4;have hcells:=Zad h4;simp only at hcells;rw [<-HNC.o] at hcells;obtain ⟨_,_,_,_,_,x10,_,_,x13,lt⟩:=hcells;have h5:=h4.row_bare 212 3;obtain ⟨v6,w6,hr6,h6⟩:=St.cls_append 103 h5 (HR3.o.2.2.src h5.imm (Zcz cl) (by omega)) (by have:=HC.o;show 0+cl.length<=_;omega);rw [ZX,Zu] at h6;obtain ⟨A6,c6,rfl⟩:=ZA h6.row_owns;simp only at hr6;rw [<-HNC.o] at hr6;have HR6:=Zh hr6;have H6:=Zh h6;clear h4 h5 h6 hr6;go_wp2_with (at_builtin;refine ZZ _ rfl (.tmp 16) (.tmp 20) 103 103 rfl _ _ rfl rfl _ _ HR6.o ?_);clear HR6 x10 x13 lt;go_loopw [3] (fun a3 wr=>∃ i:Nat,a3=int i64 i∧i<=nc∧St W I3 wr (HP.row 212 3 (slice A6 nc c6) nc (((cl.take i).map (Zbr en)++cl.drop i).flatMap Cl.vals)::rjBlk q ⟨c,sets,fill,rl,en,sf,ZQ ch en,cl⟩ ⟨vs,vl,slice A2 (ZQ ch en).length c2,slice Ac cl.length cc⟩::Zo vl rl::l)) (fun a3 _=>nc - (intOf a3).toNat);case atStart=>exact ⟨0,rfl,ZL _,by rw [ZfH,Zcr,Zu,Zdo,HNC.o];exact H6.o⟩
 case round =>
  obtain ⟨i,rfl,hi,hst⟩:=hrel;clear H6;by_cases hlt:i<nc
  ·have hlt2:(i:Int)<(nc:Int):=by omega
   have hn9:(nc:Int)<=1000:=by have:=HC.o;have:=HNC.o;omega
   obtain ⟨k,hk⟩:∃ k,cl[i]?=some k:=⟨_,Zy (by rw [<-HNC.o];exact hlt)⟩;obtain ⟨zs,hzs⟩:=Zn ((cl.take i).map (Zbr en)++cl.drop i);have hzl:zs.length=nc:=by rw [hzs,Zs,Za7,<-Zs,Zck,HNC.o]
   have hz:zs[i]?=some k:=by
    have hl:((cl.take i).map (Zbr en)).length=i:=by rw [Za7,ZJ,<-HNC.o];omega
    rw [hzs,ZfE (by omega),hl,Zdn,Zbw,ZaP,hk]
   have hnx:=ZkR (e:=en) hk;rw [<-hzs] at hst hnx;replace hst:=hst.drew;have hst2:St W I3 wr.drew (HP.row 212 3 (slice A6 zs.length c6) zs.length (zs.flatMap Cl.vals)::rjBlk q ⟨c,sets,fill,rl,en,sf,ZQ ch en,cl⟩ ⟨vs,vl,slice A2 (ZQ ch en).length c2,slice Ac cl.length cc⟩::Zo vl rl::l):=by
    rw [hzl];exact hst
   obtain ⟨g6,rfl,hcc⟩:=hst2.rowk_cells (fun _=>rfl) hz;have y1:=hcc 1 (by omega);obtain ⟨h7,f5,l5⟩:=hst2.row_set (mk:=Cl.vals) (fun _=>rfl) (j:=1) (a':=Zbr en k) (v:=int i64 (min k.pos en)) hz (by omega) rfl;have f5:=f5 (i*3+1);rw [hnx,hzl] at h7;have hcells:=Zad (hst.pull 1 _ rfl);simp only at hcells;obtain ⟨_,_,_,_,_,x10,_,_,_,lt⟩:=hcells;obtain ⟨cid,cpos,coff⟩:=k;simp only [Cl.vals,Zg,Zi,ZaP] at y1;simp only at h7;have H7:=Zh h7;clear hst hst2 hcc h7 hz hzs hzl hnx hk;go_upto_region 5 with fail;refine Zay (fun w'=>w'.cell? ⟨g6,i*3+1,none⟩=some (int i64 cpos)∧w'.cell? ⟨q,10,none⟩=some (int i64 en)) [0,1,2,3,4,5,6,7,8,9,10,11,12,13] [] [14] (by kernel_rfl) (by kernel_rfl) (by (exact ⟨y1,x10⟩)) ?_;simp only [pickL,Zg,Zi];repeat (refine ZM _ (Or.inl ⟨by rfl,by (intro w hSw;(try dsimp only at hSw);go_simp;try with_reducible rfl)⟩) ?_;(try go_frame))
   refine Z7 ?_;unfold Zr;go_wp2;refine Zw ?_;go_wp2;go_roundw;case rel=>exact ⟨i+1,by go_num,by omega,H7.o⟩
   case measure=>simp [intOf]<;>omega
  ·obtain rfl:i=nc:=by omega
   have hlt2:¬ (i:Int)<(i:Int):=by omega
   rw [Zba (by rw [<-HNC.o];exact ZC _),ZbS (by rw [<-HNC.o];exact ZC _),Zbc] at hst;obtain ⟨I7,s7,hR7,h7⟩:=hst.freeze_row;have hcells:=Zad h7;simp only at hcells;obtain ⟨_,_,_,_,_,x10,x11,_,x13,lt⟩:=hcells;have fr:=frozen_of_row h7.heap;have h8:St W I7 ((wr.setCell ⟨q,13,none⟩ (slice A6 i c6)).setCell ⟨q,11,none⟩ (int i64 en)) (rjBlk q ⟨c,sets,fill,rl,en,en,ZQ ch en,cl.map (Zbr en)⟩ ⟨vs,vl,slice A2 (ZQ ch en).length c2,slice A6 i c6⟩::Zo vl rl::l):=(h7.setCell 13 (slice A6 i c6)).setCell 11 (int i64 en);have H8:=Zh h8
   have HR8:=Zh (show rjI ⟨c,sets,fill,rl,en,en,ZQ ch en,cl.map (Zbr en)⟩ ⟨vs,vl,slice A2 (ZQ ch en).length c2,slice A6 i c6⟩ I7 from ⟨(HR3.o.mono s7).1,(HR3.o.mono s7).2.1,by
    have e:i=(cl.map (Zbr en)).length:=by rw [Za7];exact HNC.o
    show RowI I7 3 (slice A6 i c6) (cl.map (Zbr en)).length _
    rw [<-e];exact hR7⟩)
   have S8:=Zh (S3.o.trans s7);clear hst h7 h8 hR7 s7;go_wp2_with fail;refine ⟨rfl,_,results_none rfl _ _ _,?_⟩;exact ⟨I7,S8.o,rfl,St.rj_shut HR8.o H8.o⟩
theorem Zql (h:St W I w (rjHP q R::l)) (ht:R.chain.length<=1000) (hc:R.cls.length<=1000) :
  Calls prog 120 #[pointer (some ⟨q,0,none⟩)] w fun e w'=>∃ I',I.sub I'∧e=.returned (.tuple #[])∧St W I' w' (rjHP q (rTidy R)::l):=by
 have HT:=Zh (Zk4 h ht hc);clear h ht hc;go_enter func120,ntmps120;go_wp2_with fail;refine HT.o.mono ?_;rintro e w2 ⟨I2,s2,rfl,h2⟩;go_wp2_with fail;refine ⟨rfl,_,results_none rfl _ _ _,?_⟩;exact ⟨I2,s2,rfl,h2⟩
end
end Go.Proofs.YtpjchngjhijgmaaGreat
