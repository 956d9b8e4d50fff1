import Derived.Test.YtcbdghojlbpomaaGreatIF27
set_option linter.all false
set_option maxRecDepth 4000
set_option maxHeartbeats 8000000
open Go.RowKit
open Go.IntKind (i64 u64)
open Go.Value (int pointer slice)
open Go.Obj (cells)
namespace Go.Proofs.YtcbdghojlbpomaaGreat
open Tryz
open HP (pt mapOf)
variable {W w w':World} {I:Hp} {l:List HP}
def sameE (a b:Ev):Bool:=decide (a.kind=b.kind∧a.off=b.off∧a.len=b.len∧a.name=b.name∧a.data=b.data)
theorem name0 {s:ByteArray}:s=⟨#[]⟩↔s.size=0:=by
 constructor
 ·rintro rfl;rfl
 ·intro h;have:s.data.toList=[]:=by rw [Zcs,ZdC];exact h
  exact Go.WideShapes.bytes_inj (by simpa using this)
section
theorem ZnK (a b:Ev) (va vb:Value) (w:World) (ha:SliceSrc w 1 va a.data.length (a.data.map byteV)) (hb:SliceSrc w 1 vb b.data.length (b.data.map byteV)) (ba:∀ x ∈ a.data,isByte x) (bb:∀ x ∈ b.data,isByte x) :
  Calls prog 141 #[a.val va,b.val vb] w fun e w'=>e=.returned (.bool (sameE a b))∧Below w.heap.size w w':=by
 have hs:=(((St.init w).alloc (cells #[int i64 a.kind,int i64 a.off,int i64 a.len,va,.string a.name] 40)).alloc (cells #[int i64 b.kind,int i64 b.off,int i64 b.len,vb,.string b.name] 40)).below;have heq:=ZgR va vb a.data b.data _ (ha.below hs) (hb.below hs) ba bb;have HEQ:=Zh heq;have HB:=Zh hs;obtain ⟨A,c,rfl,_⟩:=ha;obtain ⟨B,d,rfl,_⟩:=hb;obtain ⟨k1,o1,l1,d1,s1⟩:=a;obtain ⟨k2,o2,l2,d2,s2⟩:=b;simp only [Ev.val,sameE] at *;clear hs heq;by_cases q1:k1=k2
 ·subst q1;by_cases q2:o1=o2
  ·subst q2;by_cases q3:l1=l2
   ·subst q3;by_cases q4:s1=s2
    ·subst q4;have e4:(s1.toList==s1.toList)=true:=by simp
     go_enter func141,ntmps141;go_wp2_with fail;refine HEQ.o.mono ?_;rintro e w2 ⟨rfl,rfl⟩;go_wp2;go_ret;exact ⟨retB (by simp),HB.o⟩
    ·have e4:(s1.toList==s2.toList)=false:=Zfd q4;rw [ZbH (fun h=>q4 h.2.2.2.1)];go_enter func141,ntmps141;go_wp2;go_ret;exact ⟨rfl,HB.o⟩
   ·have e3:(l1==l2)=false:=by simpa using q3
    rw [ZbH (fun h=>q3 h.2.2.1)];go_enter func141,ntmps141;go_wp2;go_ret;exact ⟨rfl,HB.o⟩
  ·have e2:(o1==o2)=false:=by simpa using q2
   rw [ZbH (fun h=>q2 h.2.1)];go_enter func141,ntmps141;go_wp2;go_ret;exact ⟨rfl,HB.o⟩
 ·have e1:(k1==k2)=false:=by simpa using q1
  rw [ZbH (fun h=>q1 h.1)];go_enter func141,ntmps141;go_wp2;go_ret;exact ⟨rfl,HB.o⟩
theorem ZbI (e:Ev) (v:Value) (w:World) (hs:SliceSrc w 1 v e.data.length (e.data.map byteV)) (hb:∀ x ∈ e.data,isByte x) :
  Calls prog 66 #[e.val v] w fun r w'=>r=.returned (.bool (ZU e))∧Below w.heap.size w w':=by
 have HSM:=Zh (fun (b:Ev) (vb:Value) (w':World) (h:Below w.heap.size w w') hb' bb=>ZnK e b v vb w' (hs.below h) hb' hb bb);have HS:=Zh hs;have HBY:=Zh hb;obtain ⟨A,c,rfl,_⟩:=hs;have h1:=((St.init w).alloc (cells #[int i64 e.kind,int i64 e.off,int i64 e.len,slice A e.data.length c,.string e.name] 40)).alloc (cells #[int i64 e.kind,int i64 0,int i64 0,slice none 0 0,.string ⟨#[]⟩] 40);simp only [Zb2] at h1;have HRE:=Zh (Zbl e);obtain ⟨k,off,len,data,s⟩:=e;simp only [Ev.val] at *;obtain ⟨g,hg⟩:∃ g,w.heap.size=g:=⟨_,rfl⟩;rw [hg] at h1;have HG:=Zh hg;have H1:=Zh h1;clear hg h1 hb;by_cases k1:k=1
 ·subst k1;go_enter func66,ntmps66;go_upto_region 4 with fail;have h2:=H1.o;rw [HG.o];generalize (World.alloc _ _:World)=w2 at h2 |-;obtain ⟨y0,y1,y2,y3,y4⟩:=Zf h2;have f:=frozen_of_row h2.heap;obtain ⟨x0,x1,x2,x3,x4⟩:=Zf (h2.pull 1 _ rfl);have H2:=Zh h2;clear h2 H1;refine Z3 (fun w'=>w'.cell? ⟨g,1,none⟩=some (int i64 off)∧w'.cell? ⟨g,3,none⟩=some (slice A data.length c)) [0,1,2,3,4] [5] [6,7] (by kernel_rfl) (by kernel_rfl) (by (exact ⟨x1,x3⟩)) ?_;simp only [pickL,Zg,Zi];repeat (refine Zs _ (Or.inl ⟨by rfl,by (intro w hSw;(try dsimp only at hSw);go_simp;try with_reducible rfl)⟩) ?_;(try go_frame))
  refine ZC ?_;unfold Zp;go_wp2_with fail;have h3:=(H2.o.setCell 1 (int i64 off)).drew;generalize (World.drew _:World)=w3 at h3 |-;clear y0 y1 y2 y3 y4 f x0 x1 x2 x3 x4 H2;obtain ⟨y0,y1,y2,y3,y4⟩:=Zf h3;have f:=frozen_of_row h3.heap;obtain ⟨x0,x1,x2,x3,x4⟩:=Zf (h3.pull 1 _ rfl);have H3:=Zh (h3.setCell 3 (slice A data.length c));clear h3;refine Zt ⟨x1,x3⟩ ?_;unfold Zp;go_wp2;refine Zu ?_;go_wp2_with fail;have h4:=H3.o;generalize (World.setCell _ _ _:World)=w4 at h4 |-;refine (HSM.o ⟨1,off,0,data,⟨#[]⟩⟩ (slice A data.length c) _ h4.below (HS.o.below h4.below) HBY.o).mono ?_;rintro e w5 ⟨rfl,hb5⟩;have h5:=h4.keep hb5;clear y0 y1 y2 y3 y4 x0 x1 x2 x3 x4 hb5 h4;obtain ⟨x0,x1,x2,x3,x4⟩:=Zf (h5.pull 1 _ rfl);go_wp2_with (refine (Zhb _ _ _).mono ?_;rintro e w6 ⟨rfl,rfl⟩);all_goals
   go_ret;refine ⟨retB (Zai.2 ?_),h5.below⟩;rw [HRE.o];simp only [sameE,Ze,Zk,name0,Zcs,ZK,Zae,ZaH] at *
   grind
 by_cases k2:k=2
 ·subst k2;go_enter func66,ntmps66;go_upto_region 8 with fail;have h2:=H1.o;rw [HG.o];generalize (World.alloc _ _:World)=w2 at h2 |-;obtain ⟨y0,y1,y2,y3,y4⟩:=Zf h2;have f:=frozen_of_row h2.heap;obtain ⟨x0,x1,x2,x3,x4⟩:=Zf (h2.pull 1 _ rfl);have H2:=Zh h2;clear h2 H1;refine Z3 (fun w'=>w'.cell? ⟨g,1,none⟩=some (int i64 off)∧w'.cell? ⟨g,2,none⟩=some (int i64 len)) [0,1,2,3,4] [5] [6,7] (by kernel_rfl) (by kernel_rfl) (by (exact ⟨x1,x2⟩)) ?_;simp only [pickL,Zg,Zi];repeat (refine Zs _ (Or.inl ⟨by rfl,by (intro w hSw;(try dsimp only at hSw);go_simp;try with_reducible rfl)⟩) ?_;(try go_frame))
  refine ZC ?_;unfold Zp;go_wp2_with fail;have h3:=(H2.o.setCell 1 (int i64 off)).drew;generalize (World.drew _:World)=w3 at h3 |-;clear y0 y1 y2 y3 y4 f x0 x1 x2 x3 x4 H2;obtain ⟨y0,y1,y2,y3,y4⟩:=Zf h3;have f:=frozen_of_row h3.heap;obtain ⟨x0,x1,x2,x3,x4⟩:=Zf (h3.pull 1 _ rfl);have H3:=Zh (h3.setCell 2 (int i64 len));clear h3;refine Zt ⟨x1,x2⟩ ?_;unfold Zp;go_wp2;refine Zu ?_;go_wp2_with fail;have h4:=H3.o;generalize (World.setCell _ _ _:World)=w4 at h4 |-;refine (HSM.o ⟨2,off,len,[],⟨#[]⟩⟩ (slice none 0 0) _ h4.below (SliceSrc.of_owns (base:=0) (e:=5) ⟨rfl,.inl ⟨rfl,rfl⟩⟩ (by simp)) (by simp)).mono ?_;rintro e w5 ⟨rfl,hb5⟩;have h5:=h4.keep hb5;clear y0 y1 y2 y3 y4 x0 x1 x2 x3 x4 hb5 h4;obtain ⟨x0,x1,x2,x3,x4⟩:=Zf (h5.pull 1 _ rfl);go_wp2_with (refine (Zhb _ _ _).mono ?_;rintro e w6 ⟨rfl,rfl⟩);all_goals
   go_ret;refine ⟨retB (Zai.2 ?_),h5.below⟩;rw [HRE.o];simp only [sameE,Ze,Zk,name0,Zcs,ZK,Zae,ZaH] at *
   grind
 by_cases k3:k=3
 ·subst k3;go_enter func66,ntmps66;go_upto_region 8 with fail;have h2:=H1.o;rw [HG.o];generalize (World.alloc _ _:World)=w2 at h2 |-;obtain ⟨y0,y1,y2,y3,y4⟩:=Zf h2;have f:=frozen_of_row h2.heap;obtain ⟨x0,x1,x2,x3,x4⟩:=Zf (h2.pull 1 _ rfl);have H2:=Zh h2;clear h2 H1;refine Z3 (fun w'=>w'.cell? ⟨g,1,none⟩=some (int i64 off)∧w'.cell? ⟨g,2,none⟩=some (int i64 len)) [0,1,2,3,4] [5] [6,7] (by kernel_rfl) (by kernel_rfl) (by (exact ⟨x1,x2⟩)) ?_;simp only [pickL,Zg,Zi];repeat (refine Zs _ (Or.inl ⟨by rfl,by (intro w hSw;(try dsimp only at hSw);go_simp;try with_reducible rfl)⟩) ?_;(try go_frame))
  refine ZC ?_;unfold Zp;go_wp2_with fail;have h3:=(H2.o.setCell 1 (int i64 off)).drew;generalize (World.drew _:World)=w3 at h3 |-;clear y0 y1 y2 y3 y4 f x0 x1 x2 x3 x4 H2;obtain ⟨y0,y1,y2,y3,y4⟩:=Zf h3;have f:=frozen_of_row h3.heap;obtain ⟨x0,x1,x2,x3,x4⟩:=Zf (h3.pull 1 _ rfl);have H3:=Zh (h3.setCell 2 (int i64 len));clear h3;refine Zt ⟨x1,x2⟩ ?_;unfold Zp;go_wp2;refine Zu ?_;go_wp2_with fail;have h4:=H3.o;generalize (World.setCell _ _ _:World)=w4 at h4 |-;refine (HSM.o ⟨3,off,len,[],⟨#[]⟩⟩ (slice none 0 0) _ h4.below (SliceSrc.of_owns (base:=0) (e:=5) ⟨rfl,.inl ⟨rfl,rfl⟩⟩ (by simp)) (by simp)).mono ?_;rintro e w5 ⟨rfl,hb5⟩;have h5:=h4.keep hb5;clear y0 y1 y2 y3 y4 x0 x1 x2 x3 x4 hb5 h4;obtain ⟨x0,x1,x2,x3,x4⟩:=Zf (h5.pull 1 _ rfl);go_wp2_with (refine (Zhb _ _ _).mono ?_;rintro e w6 ⟨rfl,rfl⟩);all_goals
   go_ret;refine ⟨retB (Zai.2 ?_),h5.below⟩;rw [HRE.o];simp only [sameE,Ze,Zk,name0,Zcs,ZK,Zae,ZaH] at *
   grind
 by_cases k4:k=4
 ·subst k4;go_enter func66,ntmps66;go_upto_region 11 with fail;have h2:=H1.o;rw [HG.o];generalize (World.alloc _ _:World)=w2 at h2 |-;obtain ⟨y0,y1,y2,y3,y4⟩:=Zf h2;have f:=frozen_of_row h2.heap;obtain ⟨x0,x1,x2,x3,x4⟩:=Zf (h2.pull 1 _ rfl);have H3:=Zh (h2.setCell 2 (int i64 len));clear h2 H1;go_wp2_with fail;have h4:=H3.o;generalize (World.setCell _ _ _:World)=w4 at h4 |-;refine (HSM.o ⟨4,0,len,[],⟨#[]⟩⟩ (slice none 0 0) _ h4.below (SliceSrc.of_owns (base:=0) (e:=5) ⟨rfl,.inl ⟨rfl,rfl⟩⟩ (by simp)) (by simp)).mono ?_;rintro e w5 ⟨rfl,hb5⟩;have h5:=h4.keep hb5;clear y0 y1 y2 y3 y4 x0 x1 x2 x3 x4 hb5 h4;obtain ⟨x0,x1,x2,x3,x4⟩:=Zf (h5.pull 1 _ rfl);go_wp2;all_goals
   go_ret;refine ⟨retB (Zai.2 ?_),h5.below⟩;rw [HRE.o];simp only [sameE,Ze,Zk,name0,Zcs,ZK,Zae,ZaH] at *
   grind
 by_cases k5:k=5
 ·subst k5;go_enter func66,ntmps66;go_upto_region 16 with fail;have h2:=H1.o;rw [HG.o];generalize (World.alloc _ _:World)=w2 at h2 |-;obtain ⟨y0,y1,y2,y3,y4⟩:=Zf h2;have f:=frozen_of_row h2.heap;obtain ⟨x0,x1,x2,x3,x4⟩:=Zf (h2.pull 1 _ rfl);have H3:=Zh (h2.setCell 4 (.string s));clear h2 H1;go_wp2_with fail;have h4:=H3.o;generalize (World.setCell _ _ _:World)=w4 at h4 |-;refine (HSM.o ⟨5,0,0,[],s⟩ (slice none 0 0) _ h4.below (SliceSrc.of_owns (base:=0) (e:=5) ⟨rfl,.inl ⟨rfl,rfl⟩⟩ (by simp)) (by simp)).mono ?_;rintro e w5 ⟨rfl,hb5⟩;have h5:=h4.keep hb5;clear y0 y1 y2 y3 y4 x0 x1 x2 x3 x4 hb5 h4;obtain ⟨x0,x1,x2,x3,x4⟩:=Zf (h5.pull 1 _ rfl);go_wp2_with (refine (ZeP _ _).mono ?_;rintro e w6 ⟨rfl,rfl⟩);all_goals
   go_ret;refine ⟨retB (Zai.2 ?_),h5.below⟩;rw [HRE.o];simp only [sameE,Ze,Zk,name0,Zcs,ZK,Zae,ZaH] at *
   grind
 by_cases k6:k=6
 ·subst k6;go_enter func66,ntmps66;go_upto_region 16 with fail;have h2:=H1.o;rw [HG.o];generalize (World.alloc _ _:World)=w2 at h2 |-;obtain ⟨y0,y1,y2,y3,y4⟩:=Zf h2;have f:=frozen_of_row h2.heap;obtain ⟨x0,x1,x2,x3,x4⟩:=Zf (h2.pull 1 _ rfl);have H3:=Zh (h2.setCell 4 (.string s));clear h2 H1;go_wp2_with fail;have h4:=H3.o;generalize (World.setCell _ _ _:World)=w4 at h4 |-;refine (HSM.o ⟨6,0,0,[],s⟩ (slice none 0 0) _ h4.below (SliceSrc.of_owns (base:=0) (e:=5) ⟨rfl,.inl ⟨rfl,rfl⟩⟩ (by simp)) (by simp)).mono ?_;rintro e w5 ⟨rfl,hb5⟩;have h5:=h4.keep hb5;clear y0 y1 y2 y3 y4 x0 x1 x2 x3 x4 hb5 h4;obtain ⟨x0,x1,x2,x3,x4⟩:=Zf (h5.pull 1 _ rfl);go_wp2_with (refine (ZeP _ _).mono ?_;rintro e w6 ⟨rfl,rfl⟩);all_goals
   go_ret;refine ⟨retB (Zai.2 ?_),h5.below⟩;rw [HRE.o];simp only [sameE,Ze,Zk,name0,Zcs,ZK,Zae,ZaH] at *
   grind
 by_cases k7:k=7
 ·subst k7;go_enter func66,ntmps66;go_upto_region 16 with fail;have h2:=H1.o;rw [HG.o];generalize (World.alloc _ _:World)=w2 at h2 |-;obtain ⟨y0,y1,y2,y3,y4⟩:=Zf h2;have f:=frozen_of_row h2.heap;obtain ⟨x0,x1,x2,x3,x4⟩:=Zf (h2.pull 1 _ rfl);have H3:=Zh (h2.setCell 4 (.string s));clear h2 H1;go_wp2_with fail;have h4:=H3.o;generalize (World.setCell _ _ _:World)=w4 at h4 |-;refine (HSM.o ⟨7,0,0,[],s⟩ (slice none 0 0) _ h4.below (SliceSrc.of_owns (base:=0) (e:=5) ⟨rfl,.inl ⟨rfl,rfl⟩⟩ (by simp)) (by simp)).mono ?_;rintro e w5 ⟨rfl,hb5⟩;have h5:=h4.keep hb5;clear y0 y1 y2 y3 y4 x0 x1 x2 x3 x4 hb5 h4;obtain ⟨x0,x1,x2,x3,x4⟩:=Zf (h5.pull 1 _ rfl);go_wp2_with (refine (ZeP _ _).mono ?_;rintro e w6 ⟨rfl,rfl⟩);all_goals
   go_ret;refine ⟨retB (Zai.2 ?_),h5.below⟩;rw [HRE.o];simp only [sameE,Ze,Zk,name0,Zcs,ZK,Zae,ZaH] at *
   grind
 by_cases k8:k=8
 ·subst k8;go_enter func66,ntmps66;go_upto_region 19 with fail;have h2:=H1.o;rw [HG.o];generalize (World.alloc _ _:World)=w2 at h2 |-;obtain ⟨y0,y1,y2,y3,y4⟩:=Zf h2;have f:=frozen_of_row h2.heap;obtain ⟨x0,x1,x2,x3,x4⟩:=Zf (h2.pull 1 _ rfl);have h4:=h2;go_wp2_with fail;refine (HSM.o ⟨8,0,0,[],⟨#[]⟩⟩ (slice none 0 0) _ h4.below (SliceSrc.of_owns (base:=0) (e:=5) ⟨rfl,.inl ⟨rfl,rfl⟩⟩ (by simp)) (by simp)).mono ?_;rintro e w5 ⟨rfl,hb5⟩;have h5:=h4.keep hb5;clear y0 y1 y2 y3 y4 x0 x1 x2 x3 x4 hb5 h4;obtain ⟨x0,x1,x2,x3,x4⟩:=Zf (h5.pull 1 _ rfl);go_wp2;all_goals
   go_ret;refine ⟨retB (Zai.2 ?_),h5.below⟩;rw [HRE.o];simp only [sameE,Ze,Zk,name0,Zcs,ZK,Zae,ZaH] at *
   grind
 have e1:(k==1)=false:=by simpa using k1
 have e2:(k==2)=false:=by simpa using k2
 have e3:(k==3)=false:=by simpa using k3
 have e4:(k==4)=false:=by simpa using k4
 have e5:(k==5)=false:=by simpa using k5
 have e6:(k==6)=false:=by simpa using k6
 have e7:(k==7)=false:=by simpa using k7
 have e8:(k==8)=false:=by simpa using k8
 go_enter func66,ntmps66;have h5:=H1.o;rw [<-HG.o] at h5;go_wp2;all_goals
  go_ret;refine ⟨retB (Zai.2 ?_),h5.below⟩;rw [HRE.o]
  grind
end
section
theorem isE (s:ByteArray):(s.toList.isEmpty=true)↔s.size=0:=by
 rw [ByteArray.toList_eq,List.isEmpty_iff,Zcs,ZdC];rfl
theorem Zhc (s:ByteArray) (hl:s.size<=1000) (w:World):Calls prog 105 #[.string s] w fun e w'=>e=.returned (.bool (nameB s))∧w=w':=by
 have hb:=Zgk s;go_enter func105,ntmps105;go_wp2;go_loopw [3] (fun a3 wr=>∃ i:Nat,a3=int i64 i∧i<=s.size∧(∀ k,k<i->nameC (bt s k)=true)∧wr=w) (fun a3 _=>s.size - (intOf a3).toNat);case atStart=>exact ⟨0,rfl,by omega,fun k hk=>by omega,rfl⟩
 case round =>
  obtain ⟨i,rfl,hi,hall,rfl⟩:=hrel;by_cases hlt:i<s.size
  ·have d0:decide ((i:Int)<(s.size:Int))=true:=by rw [Ze];omega
   have hr:=ZkI s i;obtain ⟨x,hx⟩:∃ x,bt s i=x:=⟨_,rfl⟩;have hbi:=hb i hlt;rw [hx] at hbi hr;have HX:=Zh hx;have HALL:=Zh hall;clear hb hall hx;by_cases hc:nameC x=true
   ·have HC:=Zh hc;unfold nameC at hc;rw [Ze] at hc;rcases hc with ⟨c1,c2⟩|⟨c3,c4⟩|c5
    ·go_wp2;go_roundw;case rel=>exact ⟨i+1,by go_num,by omega,fun k hk=>(by rcases (show k<i∨k=i by omega) with h|rfl;exact HALL.o k h;rw [HX.o];exact HC.o),trivial⟩
     case measure=>simp [intOf]<;>omega
    ·have c1:¬ 97<=x:=by omega
     go_wp2;go_roundw;case rel=>exact ⟨i+1,by go_num,by omega,fun k hk=>(by rcases (show k<i∨k=i by omega) with h|rfl;exact HALL.o k h;rw [HX.o];exact HC.o),trivial⟩
     case measure=>simp [intOf]<;>omega
    ·have c1:¬ 97<=x:=by omega
     have c3:¬ 48<=x:=by omega
     go_wp2;go_roundw;case rel=>exact ⟨i+1,by go_num,by omega,fun k hk=>(by rcases (show k<i∨k=i by omega) with h|rfl;exact HALL.o k h;rw [HX.o];exact HC.o),trivial⟩
     case measure=>simp [intOf]<;>omega
   ·have HC:=Zh hc;unfold nameC at hc;rw [Ze] at hc;have c5:¬ x=45:=fun q=>hc (.inr (.inr q));have d5:(x==45)=false:=by simpa using c5
    by_cases c1:97<=x <;> by_cases c2:x<=122 <;> by_cases c3:48<=x <;> by_cases c4:x<=57 <;> first|(exfalso;omega)|skip
    all_goals
     go_wp2;go_ret;rw [ZkU hlt (by rw [HX.o];exact Zeu.2 HC.o)];exact ⟨rfl,rfl⟩
  ·obtain rfl:i=s.size:=by omega
   have d0:decide (((s.size:Nat):Int)<(s.size:Int))=false:=by rw [Zk];omega
   clear hb;by_cases e1:1<=s.size
   ·by_cases e2:s.size<=12
    ·have d1:decide ((1:Int)<=(s.size:Int))=true:=by rw [Ze];omega
     have d2:decide ((s.size:Int)<=12)=true:=by rw [Ze];omega
     go_wp2;go_ret;rw [Zkb ⟨e1,e2⟩ hall];exact ⟨rfl,rfl⟩
    ·have d1:decide ((1:Int)<=(s.size:Int))=true:=by rw [Ze];omega
     have d2:decide ((s.size:Int)<=12)=false:=by rw [Zk];omega
     go_wp2;go_ret;rw [ZhJ (fun q=>e2 q.2)];exact ⟨rfl,rfl⟩
   ·have d1:decide ((1:Int)<=(s.size:Int))=false:=by rw [Zk];omega
    go_wp2;go_ret;rw [ZhJ (fun q=>e1 q.1)];exact ⟨rfl,rfl⟩
theorem ZiZ (e:Ev) (A:Option Addr) (c:Nat) (hl:e.name.size<=1000) (w:World):Calls prog 42 #[e.val (slice A e.data.length c)] w fun r w'=>r=.returned (.bool (ZU e))∧Below w.heap.size w w':=by
 have hX:=Zbl e;have HX:=Zh hX;obtain ⟨k,off,len,data,s⟩:=e;obtain ⟨n,hn⟩:∃ n,data.length=n:=⟨_,rfl⟩;simp only [Ev.val] at *;rw [hn] at HX |-;have h0:=(St.init w).alloc (cells #[int i64 k,int i64 off,int i64 len,slice A n c,.string s] 40);have hbel:=h0.below;clear hX h0;by_cases k1:k=1
 ·subst k1;go_enter func42,ntmps42;go_wp2_with (refine (Zht _ _ _).mono ?_;rintro e w2 ⟨rfl,rfl⟩);all_goals
   go_ret;refine ⟨retB (Zai.2 ?_),ZM _ _⟩;rw [Zbl];simp only [isE,hn]
   grind
 by_cases k2:k=2
 ·subst k2;go_enter func42,ntmps42;go_wp2_with (refine (Zht _ _ _).mono ?_;rintro e w2 ⟨rfl,rfl⟩);all_goals
   go_ret;refine ⟨retB (Zai.2 ?_),ZM _ _⟩;rw [Zbl];simp only [isE,hn]
   grind
 by_cases k3:k=3
 ·subst k3;go_enter func42,ntmps42;go_wp2_with (refine (Zht _ _ _).mono ?_;rintro e w2 ⟨rfl,rfl⟩);all_goals
   go_ret;refine ⟨retB (Zai.2 ?_),ZM _ _⟩;rw [Zbl];simp only [isE,hn]
   grind
 by_cases k4:k=4
 ·subst k4;go_enter func42,ntmps42;go_wp2;all_goals
   go_ret;refine ⟨retB (Zai.2 ?_),ZM _ _⟩;rw [Zbl];simp only [isE,hn]
   grind
 by_cases k5:k=5
 ·subst k5;go_enter func42,ntmps42;go_wp2_with (refine (Zhc _ hl _).mono ?_;rintro e w2 ⟨rfl,rfl⟩);all_goals
   go_ret;refine ⟨retB (Zai.2 ?_),ZM _ _⟩;rw [Zbl];simp only [isE,hn]
   grind
 by_cases k6:k=6
 ·subst k6;go_enter func42,ntmps42;go_wp2_with (refine (Zhc _ hl _).mono ?_;rintro e w2 ⟨rfl,rfl⟩);all_goals
   go_ret;refine ⟨retB (Zai.2 ?_),ZM _ _⟩;rw [Zbl];simp only [isE,hn]
   grind
 by_cases k7:k=7
 ·subst k7;go_enter func42,ntmps42;go_wp2_with (refine (Zhc _ hl _).mono ?_;rintro e w2 ⟨rfl,rfl⟩);all_goals
   go_ret;refine ⟨retB (Zai.2 ?_),ZM _ _⟩;rw [Zbl];simp only [isE,hn]
   grind
 by_cases k8:k=8
 ·subst k8;go_enter func42,ntmps42;go_wp2;all_goals
   go_ret;refine ⟨retB (Zai.2 ?_),ZM _ _⟩;rw [Zbl];simp only [isE,hn]
   grind
 go_enter func42,ntmps42;have e1:(k==1)=false:=by simpa using k1
 have e2:(k==2)=false:=by simpa using k2
 have e3:(k==3)=false:=by simpa using k3
 have e4:(k==4)=false:=by simpa using k4
 have e5:(k==5)=false:=by simpa using k5
 have e6:(k==6)=false:=by simpa using k6
 have e7:(k==7)=false:=by simpa using k7
 have e8:(k==8)=false:=by simpa using k8
 go_wp2;all_goals
  go_ret;refine ⟨retB (Zai.2 ?_),ZM _ _⟩;rw [Zbl];simp only [isE,hn]
  grind
end
def ZaF (e:Ev):Bool:=ZU e&&decide (e.kind=1∨e.kind=2∨e.kind=3)
def spanP (e:Ev):Int × Int:=if ZaF e=true then spanE e else (0,0)
section
theorem ZcB (e:Ev) (v:Value) (w:World) (hs:SliceSrc w 1 v e.data.length (e.data.map byteV)) (hb:∀ x ∈ e.data,isByte x) :
  Calls prog 70 #[e.val v] w fun r w'=>r=.returned (.bool (ZaF e))∧Below w.heap.size w w':=by
 have HR:=Zh (fun w' (h:Below w.heap.size w w')=>ZbI e v w' (hs.below h) hb);obtain ⟨A,c,rfl,_⟩:=hs;have h1:=(St.init w).alloc (cells #[int i64 e.kind,int i64 e.off,int i64 e.len,slice A e.data.length c,.string e.name] 40);unfold ZaF;obtain ⟨r,hr⟩:∃ r,ZU e=r:=⟨_,rfl⟩;rw [hr] at HR |-;obtain ⟨k,off,len,data,s⟩:=e;simp only [Ev.val] at *;have H1:=Zh h1;clear h1 hb hr;cases r with
 | false =>
  go_enter func70,ntmps70;go_wp2_with fail;refine (HR.o _ H1.o.below).mono ?_;rintro e w2 ⟨rfl,hb2⟩;have h2:=H1.o.keep hb2;go_wp2;go_ret;exact ⟨rfl,h2.below⟩
 | true =>
  go_enter func70,ntmps70;go_wp2_with fail;refine (HR.o _ H1.o.below).mono ?_;rintro e w2 ⟨rfl,hb2⟩;have h2:=H1.o.keep hb2;obtain ⟨x0,x1,x2,x3,x4⟩:=Zf h2;go_wp2;all_goals
   go_ret;refine ⟨retB (Zai.2 ?_),h2.below⟩;simp only [ZbR,Ze]
   grind
theorem ZmM (e:Ev) (A:Option Addr) (c:Nat) (hl:e.name.size<=1000) (w:World) :
  Calls prog 140 #[e.val (slice A e.data.length c)] w fun r w'=>r=.returned (.bool (ZaF e))∧Below w.heap.size w w':=by
 have HR:=Zh (fun w'=>ZiZ e A c hl w');have h1:=(St.init w).alloc (cells #[int i64 e.kind,int i64 e.off,int i64 e.len,slice A e.data.length c,.string e.name] 40);unfold ZaF;obtain ⟨r,hr⟩:∃ r,ZU e=r:=⟨_,rfl⟩;rw [hr] at HR |-;obtain ⟨k,off,len,data,s⟩:=e;simp only [Ev.val] at *;have H1:=Zh h1;clear h1 hr;cases r with
 | false =>
  go_enter func140,ntmps140;go_wp2_with fail;refine (HR.o _).mono ?_;rintro e w2 ⟨rfl,hb2⟩;have h2:=H1.o.keep hb2;go_wp2;go_ret;exact ⟨rfl,h2.below⟩
 | true =>
  go_enter func140,ntmps140;go_wp2_with fail;refine (HR.o _).mono ?_;rintro e w2 ⟨rfl,hb2⟩;have h2:=H1.o.keep hb2;obtain ⟨x0,x1,x2,x3,x4⟩:=Zf h2;go_wp2;all_goals
   go_ret;refine ⟨retB (Zai.2 ?_),h2.below⟩;simp only [ZbR,Ze]
   grind
theorem Zi0 (e:Ev) (v:Value) (w:World) (hs:SliceSrc w 1 v e.data.length (e.data.map byteV)) (hb:∀ x ∈ e.data,isByte x) :
  Calls prog 144 #[e.val v] w fun r w'=>r=.returned (.tuple #[int i64 (spanP e).1,int i64 (spanP e).2])∧Below w.heap.size w w':=by
 have HR:=Zh (fun w' (h:Below w.heap.size w w')=>ZcB e v w' (hs.below h) hb);obtain ⟨A,c,rfl,_⟩:=hs;have h1:=(St.init w).alloc (cells #[int i64 e.kind,int i64 e.off,int i64 e.len,slice A e.data.length c,.string e.name] 40);unfold spanP spanE;obtain ⟨r,hr⟩:∃ r,ZaF e=r:=⟨_,rfl⟩;rw [hr] at HR |-;obtain ⟨k,off,len,data,s⟩:=e;simp only [Ev.val] at *;have H1:=Zh h1;clear h1 hb hr;cases r with
 | false =>
  go_enter func144,ntmps144;go_wp2_with fail;refine (HR.o _ H1.o.below).mono ?_;rintro e w2 ⟨rfl,hb2⟩;have h2:=H1.o.keep hb2;go_wp2;go_ret2;exact ⟨rfl,h2.below⟩
 | true =>
  by_cases k1:k=1
  ·subst k1;go_enter func144,ntmps144;go_wp2_with fail;refine (HR.o _ H1.o.below).mono ?_;rintro e w2 ⟨rfl,hb2⟩;have h2:=H1.o.keep hb2;obtain ⟨x0,x1,x2,x3,x4⟩:=Zf h2;go_wp2_with fail;go_quiet (fail);go_wp2;go_ret2;exact ⟨rfl,(h2.drewN _).below⟩
  ·have e1:(k==1)=false:=by simpa using k1
   rw [Zb rfl,Za k1];go_enter func144,ntmps144;go_wp2_with fail;refine (HR.o _ H1.o.below).mono ?_;rintro e w2 ⟨rfl,hb2⟩;have h2:=H1.o.keep hb2;obtain ⟨x0,x1,x2,x3,x4⟩:=Zf h2;go_wp2_with fail;go_quiet (fail);go_wp2;go_ret2;exact ⟨rfl,(h2.drewN _).below⟩
theorem ZnL (e:Ev) (A:Option Addr) (c:Nat) (hl:e.name.size<=1000) (w:World) :
  Calls prog 63 #[e.val (slice A e.data.length c)] w fun r w'=>r=.returned (.tuple #[int i64 (spanP e).1,int i64 (spanP e).2])∧Below w.heap.size w w':=by
 have HR:=Zh (fun w'=>ZmM e A c hl w');have h1:=(St.init w).alloc (cells #[int i64 e.kind,int i64 e.off,int i64 e.len,slice A e.data.length c,.string e.name] 40);unfold spanP spanE;obtain ⟨r,hr⟩:∃ r,ZaF e=r:=⟨_,rfl⟩;rw [hr] at HR |-;obtain ⟨k,off,len,data,s⟩:=e;simp only [Ev.val] at *;have H1:=Zh h1;clear h1 hr;cases r with
 | false =>
  go_enter func63,ntmps63;go_wp2_with fail;refine (HR.o _).mono ?_;rintro e w2 ⟨rfl,hb2⟩;have h2:=H1.o.keep hb2;go_wp2;go_ret2;exact ⟨rfl,h2.below⟩
 | true =>
  by_cases k1:k=1
  ·subst k1;go_enter func63,ntmps63;go_wp2_with fail;refine (HR.o _).mono ?_;rintro e w2 ⟨rfl,hb2⟩;have h2:=H1.o.keep hb2;obtain ⟨x0,x1,x2,x3,x4⟩:=Zf h2;go_wp2_with fail;go_quiet (fail);go_wp2;go_ret2;exact ⟨rfl,(h2.drewN _).below⟩
  ·have e1:(k==1)=false:=by simpa using k1
   rw [Zb rfl,Za k1];go_enter func63,ntmps63;go_wp2_with fail;refine (HR.o _).mono ?_;rintro e w2 ⟨rfl,hb2⟩;have h2:=H1.o.keep hb2;obtain ⟨x0,x1,x2,x3,x4⟩:=Zf h2;go_wp2_with fail;go_quiet (fail);go_wp2;go_ret2;exact ⟨rfl,(h2.drewN _).below⟩
end
def ocell (x:ByteArray × Value):List Value:=[.string x.1,x.2]
def findI (ns:List ByteArray) (nm:ByteArray):Option Nat:=ns.findIdx? fun x=>decide (x=nm)
def fnI (o:Option Nat):Int:=match o with|some i=>(i:Int)|none=>-1
theorem Zjv {ns:List ByteArray} {nm:ByteArray} {i:Nat} (hn:∀ j,j<i->∀ b,ns[j]?=some b->b≠nm) (ha:ns[i]?=some nm):findI ns nm=some i:=by
 obtain ⟨hi,e⟩:=ZS.1 ha;unfold findI;rw [List.findIdx?_eq_some_iff_getElem];refine ⟨hi,by simpa using e,fun j hj=>?_⟩;have:=hn j hj _ (ZL (by omega));simpa using this
theorem Zjw {ns:List ByteArray} {nm:ByteArray} (hn:∀ j,j<ns.length->∀ b,ns[j]?=some b->b≠nm):findI ns nm=none:=by
 unfold findI;rw [List.findIdx?_eq_none_iff];intro x hx;obtain ⟨j,hj,rfl⟩:=List.getElem_of_mem hx;exact ZbH (hn j hj _ (ZL hj))
def Zbs (ns:List ByteArray) (dl:Nat) (e:Ev):Int :=
 if ZU e=false then 1
 else if e.kind=1∨e.kind=2∨e.kind=3 then (if (dl:Int)<(spanE e).1+(spanE e).2 then 3 else 0)
 else if e.kind=5 then (if (findI ns e.name).isSome then 5 else if 8<=ns.length then 6 else 0)
 else if e.kind=6∨e.kind=7 then (if (findI ns e.name).isSome then 0 else 4)
 else 0
theorem Zcf (v:Vw) (e:Ev):ZJ v e=Zbs (v.snaps.map (·.1)) v.data.length e:=by
 have h:findV v e.name=findI (v.snaps.map (·.1)) e.name:=by
  unfold findV findI;rw [List.findIdx?_map];rfl
 unfold ZJ Zbs;rw [h,ZE]
theorem Zjx {e:Ev} (h:ZU e=true) (hk:e.kind=1∨e.kind=2∨e.kind=3):0<=(spanE e).1∧(spanE e).1<=512∧0<=(spanE e).2∧(spanE e).2<=512:=by
 rw [Zbl] at h;unfold spanE;have key:∀ a b:Int,spanB a b=true->0<=a∧a<=512∧0<=b∧b<=512:=fun a b q=>by
  unfold spanB at q;rw [Ze] at q;omega
 by_cases k1:e.kind=1
 ·rw [Zb k1];exact key _ _ (by grind)
 ·rw [Za k1];exact key _ _ (by grind)
def IsSl (v:Value):Prop:=∃ A n c,v=slice A n c
section
theorem ZnM (M:List (ByteArray × Value)) (vd vs:Value) (nm:ByteArray) (hvd:IsSl vd) (w:World) (hs:SliceSrc w 2 vs M.length (M.flatMap ocell)) (hM:∀ x ∈ M,IsSl x.2) (hl:M.length<=1000000) :
  Calls prog 143 #[.agg #[vd,vs],.string nm] w fun r w'=>r=.returned (int i64 (fnI (findI (M.map (·.1)) nm)))∧Below w.heap.size w w':=by
 have HS:=Zh hs;obtain ⟨A,c,rfl,_⟩:=hs;obtain ⟨Ad,nd,cd,rfl⟩:=hvd;have h1:=(St.init w).alloc (cells #[slice Ad nd cd,slice A M.length c] 35);have H1:=Zh h1;clear h1;go_enter func143,ntmps143;go_wp2;go_loopw [10] (fun a10 wr=>∃ i:Nat,a10=int i64 i∧i<=M.length∧(∀ j,j<i->∀ b,(M.map (·.1))[j]?=some b->b≠nm)∧St w w.hp wr [pt w.heap.size (cells #[slice Ad nd cd,slice A M.length c] 35)]) (fun a10 _=>M.length - (intOf a10).toNat);case atStart=>exact ⟨0,rfl,by omega,fun j hj=>by omega,H1.o⟩
 case round =>
  obtain ⟨i,rfl,hi,hno,hst⟩:=hrel;obtain ⟨x0,x1⟩:=Zq hst;by_cases hlt:i<M.length
  ·have d0:decide ((i:Int)<(M.length:Int))=true:=by rw [Ze];omega
   obtain ⟨m,hm⟩:∃ m,M[i]?=some m:=⟨_,ZL hlt⟩;obtain ⟨G,off,c2,e1,hG,hc⟩:=Zco (mk:=ocell) (HS.o.below hst.below) (fun _=>rfl) (by decide) hm;simp only [ZF,ZK] at e1;obtain ⟨rfl,rfl⟩:=e1;have hmn:(M.map (·.1))[i]?=some m.1:=by rw [ZaN,hm];rfl
   obtain ⟨B,nb,db,hv⟩:=hM m (Zay hm);obtain ⟨s,v⟩:=m;simp only at hv;subst hv;have y0:wr.cell? ⟨G,off+i*2,none⟩=some (.string s):=hc 0 (by decide);have y1:wr.cell? ⟨G,off+i*2+1,none⟩=some (slice B nb db):=hc 1 (by decide);have lt0:G<wr.heap.size:=hG;have h2:=hst.alloc (cells #[.string s,slice B nb db] 58);have HST:=Zh h2.drop;have HNO:=Zh hno;have HMN:=Zh hmn;clear hc hm hno hmn;by_cases hnm:s=nm
   ·subst hnm;have e4:(s.toList==s.toList)=true:=by simp
    go_wp2;go_ret;rw [Zjv HNO.o HMN.o];exact ⟨rfl,HST.o.below⟩
   ·have e4:(s.toList==nm.toList)=false:=Zfd hnm;go_wp2;go_roundw
    case rel=>exact ⟨i+1,by go_num,by omega,fun j hj b hb=>(by
     rcases (show j<i∨j=i by omega) with h|rfl
     ·exact HNO.o j h b hb
     ·rw [HMN.o] at hb;cases hb;exact hnm),HST.o⟩
    case measure=>simp [intOf]<;>omega
  ·obtain rfl:i=M.length:=by omega
   have d0:decide (((M.length:Nat):Int)<(M.length:Int))=false:=by rw [Zk];omega
   have HNO:=Zh hno;clear hno;go_wp2;go_ret;rw [Zjw (by rw [ZE];exact HNO.o)];exact ⟨rfl,hst.below⟩
theorem ZgK (M:List (ByteArray × Value)) (vd vs:Value) (nm:ByteArray) (hvd:IsSl vd) (w:World) (hs:SliceSrc w 2 vs M.length (M.flatMap ocell)) (hM:∀ x ∈ M,IsSl x.2) (hl:M.length<=1000000) :
  Calls prog 64 #[.agg #[vd,vs],.string nm] w fun r w'=>r=.returned (int i64 (fnI (findI (M.map (·.1)) nm)))∧Below w.heap.size w w':=by
 have HS:=Zh hs;obtain ⟨A,c,rfl,_⟩:=hs;obtain ⟨Ad,nd,cd,rfl⟩:=hvd;have h1:=(St.init w).alloc (cells #[slice Ad nd cd,slice A M.length c] 35);have H1:=Zh h1;clear h1;go_enter func64,ntmps64;go_wp2;go_loopw [5] (fun a5 wr=>∃ i:Nat,a5=int i64 i∧i<=M.length∧(∀ j,j<i->∀ b,(M.map (·.1))[j]?=some b->b≠nm)∧St w w.hp wr [pt w.heap.size (cells #[slice Ad nd cd,slice A M.length c] 35)]) (fun a5 _=>M.length - (intOf a5).toNat);case atStart=>exact ⟨0,rfl,by omega,fun j hj=>by omega,H1.o⟩
 case round =>
  obtain ⟨i,rfl,hi,hno,hst⟩:=hrel;obtain ⟨x0,x1⟩:=Zq hst;by_cases hlt:i<M.length
  ·have d0:decide ((i:Int)<(M.length:Int))=true:=by rw [Ze];omega
   obtain ⟨m,hm⟩:∃ m,M[i]?=some m:=⟨_,ZL hlt⟩;obtain ⟨G,off,c2,e1,hG,hc⟩:=Zco (mk:=ocell) (HS.o.below hst.below) (fun _=>rfl) (by decide) hm;simp only [ZF,ZK] at e1;obtain ⟨rfl,rfl⟩:=e1;have hmn:(M.map (·.1))[i]?=some m.1:=by rw [ZaN,hm];rfl
   obtain ⟨B,nb,db,hv⟩:=hM m (Zay hm);obtain ⟨s,v⟩:=m;simp only at hv;subst hv;have y0:wr.cell? ⟨G,off+i*2,none⟩=some (.string s):=hc 0 (by decide);have y1:wr.cell? ⟨G,off+i*2+1,none⟩=some (slice B nb db):=hc 1 (by decide);have lt0:G<wr.heap.size:=hG;have HST:=Zh hst;have HNO:=Zh hno;have HMN:=Zh hmn;clear hc hm hno hmn;by_cases hnm:s=nm
   ·subst hnm;have e4:(s.toList==s.toList)=true:=by simp
    go_wp2;go_ret;rw [Zjv HNO.o HMN.o];exact ⟨rfl,HST.o.below⟩
   ·have e4:(s.toList==nm.toList)=false:=Zfd hnm;go_wp2;go_roundw
    case rel=>exact ⟨i+1,by go_num,by omega,fun j hj b hb=>(by
     rcases (show j<i∨j=i by omega) with h|rfl
     ·exact HNO.o j h b hb
     ·rw [HMN.o] at hb;cases hb;exact hnm),HST.o⟩
    case measure=>simp [intOf]<;>omega
  ·obtain rfl:i=M.length:=by omega
   have d0:decide (((M.length:Nat):Int)<(M.length:Int))=false:=by rw [Zk];omega
   have HNO:=Zh hno;clear hno;go_wp2;go_ret;rw [Zjw (by rw [ZE];exact HNO.o)];exact ⟨rfl,hst.below⟩
end
theorem RowI.suf {I:Hp} {s n c g o:Nat} {xs:List Value} (h:RowI I s (slice (some ⟨g,o,none⟩) n c) n xs) {k:Nat} (hk:k<=n):RowI I s (slice (some ⟨g,o+k*s,none⟩) (n - k) (c - k)) (n - k) (xs.drop (k*s)):=by
 obtain ⟨A,c',e,h2,h3,h4,h5,h6⟩:=h;simp only [ZF,ZK] at e;obtain ⟨rfl,rfl⟩:=e;refine ⟨_,_,rfl,?_,by omega,by omega,(fun e=>by cases e),fun hn=>?_⟩
 ·rw [Zas,h2,Nat.sub_mul]
 ·obtain ⟨b,off,cs,t,f,e1,e2,e3⟩:=h6 (by omega);simp only [Zah,Addr.mk.injEq,Zae] at e1;obtain ⟨rfl,rfl⟩:=e1;refine ⟨_,_,cs,t,f,rfl,e2,fun i y hy=>?_⟩;rw [Zb9] at hy;rw [Zb3];exact e3 _ y hy
theorem RowI.pre {I:Hp} {s n c:Nat} {A:Option Addr} {xs:List Value} (h:RowI I s (slice A n c) n xs) {k:Nat} (hk:k<=n):RowI I s (slice A k c) k (xs.take (k*s)):=by
 obtain ⟨A',c',e,h2,h3,h4,h5,h6⟩:=h;simp only [ZF,ZK] at e;obtain ⟨rfl,rfl⟩:=e;refine ⟨_,_,rfl,?_,by omega,h4,h5,fun hn=>?_⟩
 ·rw [ZN,h2];exact Zex (Zcj _ hk)
 ·obtain ⟨b,off,cs,t,f,e1,e2,e3⟩:=h6 (by omega);refine ⟨_,_,cs,t,f,e1,e2,fun i y hy=>?_⟩;rw [Zci] at hy;split at hy
  ·exact e3 _ y hy
  ·cases hy
end Go.Proofs.YtcbdghojlbpomaaGreat
