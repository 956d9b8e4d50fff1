import Derived.Test.YtpjchngjhijgmaaGreatJP25
set_option linter.all false
set_option maxRecDepth 4000
set_option maxHeartbeats 8000000
open Go.RowKit
open Go.IntKind (i64 u64)
open Go.Value (int pointer slice)
open Go.Obj (cells)
namespace Go.Proofs.YtpjchngjhijgmaaGreat
open Tryz
open HP (pt mapOf)
variable {W w w':World} {I:Hp} {l:List HP}
theorem ZpZ:∀ {l:List Cl} {a b:Int},clsGo l a=true->b<=a->clsGo l b=true
 | [],_,_,_,_=>rfl
 | c::l,a,b,h,hb=>by
  unfold clsGo at h |-;simp only [ZR,Zk] at h |-;exact ⟨⟨h.1.1,by omega⟩,h.2⟩
theorem ZlG {id pos:Int} (hm:mayC id pos=true):∀ {l:List Cl} {a:Int},clsGo l a=true->a<id->(Zaf l id).2=false->clsGo (l.take (Zaf l id).1++[⟨id,pos,false⟩]++l.drop (Zaf l id).1) a=true
 | [],a,_,ha,_=>by
  show (mayC id pos&&decide (a<id)&&clsGo [] id)=true;rw [hm,Zt ha];rfl
 | c::l,a,h,ha,hp=>by
  unfold Zaf at hp |-;by_cases hle:id<=c.id
  ·rw [Zb hle] at hp |-;simp only [ZT] at hp;unfold clsGo at h;simp only [ZR,Zk] at h;show (mayC id pos&&decide (a<id)&&(mayC c.id c.pos&&decide (id<c.id)&&clsGo l c.id))=true;rw [hm,Zt ha,h.1.1,Zt (by omega:id<c.id),h.2];rfl
  ·rw [Za hle] at hp |-;unfold clsGo at h;simp only [ZR,Zk] at h;have ih:=ZlG hm (l:=l) h.2 (by omega) hp;show (mayC c.id c.pos&&decide (a<c.id)&&clsGo (l.take (Zaf l id).1++[⟨id,pos,false⟩]++l.drop (Zaf l id).1) c.id)=true;rw [h.1.1,Zt h.1.2,ih];rfl
theorem ZjZ:∀ {l:List Cl} {a:Int} (i:Nat),clsGo l a=true->clsGo (l.eraseIdx i) a=true
 | [],_,_,_=>by simp [clsGo]
 | c::l,a,0,h=>by
  unfold clsGo at h;simp only [ZR,Zk] at h;exact ZpZ h.2 (by omega)
 | c::l,a,i+1,h=>by
  rw [ZE];unfold clsGo at h |-;simp only [ZR,Zk] at h |-;exact ⟨h.1,ZjZ i h.2⟩
theorem Zg9 {f:Cl->Cl} (hf:∀ c,mayC c.id c.pos=true->(f c).id=c.id∧mayC (f c).id (f c).pos=true):∀ {l:List Cl} {a:Int} (i:Nat),clsGo l a=true->clsGo (l.modify i f) a=true
 | [],_,_,_=>by simp [clsGo]
 | c::l,a,0,h=>by
  unfold clsGo at h;simp only [ZR,Zk] at h;obtain ⟨h1,h2⟩:=hf c h.1.1;show clsGo (f c::l) a=true;unfold clsGo;simp only [ZR,Zk];exact ⟨⟨h2,by omega⟩,by rw [h1];exact h.2⟩
 | c::l,a,i+1,h=>by
  rw [List.modify_succ_cons];unfold clsGo at h |-;simp only [ZR,Zk] at h |-;exact ⟨h.1,Zg9 hf i h.2⟩
theorem ZtG {l:List Cl}:Zae l=true↔clsGo l 0=true∧l.length<=4:=by
 unfold Zae;rw [ZR,Zk]
theorem ZkW {cs:List Cl} {id pos:Int} (h:(addC cs id pos).2=0):Zae (addC cs id pos).1=true:=by
 unfold addC at h |-;split at h
 ·cases h
 rename_i h1;rw [Za h1];split at h
 ·cases h
 rename_i h2;rw [Za h2];split at h
 ·cases h
 rename_i h3;rw [Za h3];rw [not_or] at h1;have hr:=ZtG.1 (by simpa using h1.1);have hm:mayC id pos=true:=by simpa using h1.2
 have hid:1<=id:=by unfold mayC at hm;rw [Zk] at hm;exact hm.1
 refine ZtG.2 ⟨ZlG hm hr.1 (by omega) (by simpa using h2),?_⟩;have:=(Zfg cs id).1;simp only [Zs,ZJ,ZW,Z9,ZaZ];omega
theorem Zh4 {cs:List Cl} {id pos:Int} (h:(ZaU cs id pos).2=0):Zae cs=true∧mayC id pos=true:=by
 unfold ZaU at h;split at h
 ·cases h
 rename_i h1;rw [not_or] at h1;exact ⟨by simpa using h1.1,by simpa using h1.2⟩
theorem Zj0 {cs:List Cl} {id:Int} (h:(dropC cs id).2=0):Zae (dropC cs id).1=true:=by
 unfold dropC at h |-;split at h
 ·rename_i h1;exact absurd h h1
 ·rename_i h1;rw [Za h1];have hr:=ZtG.1 (Zh4 (by simpa using h1)).1;refine ZtG.2 ⟨ZjZ _ hr.1,Zaw (List.length_eraseIdx_le ..) hr.2⟩
theorem Zjo {cs:List Cl} {id pos:Int} (h:(Za5 cs id pos).2=0):Zae (Za5 cs id pos).1=true:=by
 unfold Za5 at h |-;split at h
 ·rename_i h1;exact absurd h h1
 ·rename_i h1;rw [Za h1];obtain ⟨hr,hm⟩:=Zh4 (cs:=cs) (id:=id) (pos:=pos) (by simpa using h1);have hr:=ZtG.1 hr;refine ZtG.2 ⟨Zg9 (f:=fun c=>{ c with pos:=max c.pos pos }) (fun c hc=>⟨rfl,?_⟩) _ hr.1,by rw [List.length_modify];exact hr.2⟩;show mayC c.id (max c.pos pos)=true;unfold mayC at hm hc |-;rw [Zk] at hm hc |-;have h4:0<=max c.pos pos∧max c.pos pos<=1099511627776:=by omega
  exact ⟨hc.1,hc.2.1,h4.1,h4.2⟩
theorem Zj1 {cs:List Cl} {id:Int} {off:Bool} (h:(turnC cs id off).2=0):Zae (turnC cs id off).1=true:=by
 unfold turnC at h |-;split at h
 ·rename_i h1;exact absurd h h1
 ·rename_i h1;rw [Za h1];obtain ⟨hr,hm⟩:=Zh4 (cs:=cs) (id:=id) (pos:=0) (by simpa using h1);have hr:=ZtG.1 hr;exact ZtG.2 ⟨Zg9 (f:=fun c=>{ c with off:=off }) (fun c hc=>⟨rfl,hc⟩) _ hr.1,by rw [List.length_modify];exact hr.2⟩
theorem ZlH {S:Str} {J:Jn} {id pos:Int} (h:uptoJ S J id pos=0):mayJ S J=0:=by
 unfold uptoJ at h;split at h
 ·exact h
 ·rename_i h1;simpa using h1
section
variable {p q : Nat} {J : Jn} {S : Str}
def addJ2 (S:Str) (J:Jn) (id pos:Int):Int × Str × Jn:=if uptoJ S J id pos≠0 then (uptoJ S J id pos,S,mayJ2 S J) else withJ S J (addC J.r.cls id pos).1 (addC J.r.cls id pos).2
theorem Zrf (id pos:Int) (o:Option Rc) {m:Nat} (h:St W I w (Zj p S::jnHP q p J::l)) (hk:Keeps S (m+2)) (hB:JB J) (hj:JRec S o) :
  Calls prog 46 #[pointer (some ⟨q,0,none⟩),int i64 id,int i64 pos] w fun e w'=>∃ I',I.sub I'∧e=.returned (int i64 (addJ2 S J id pos).1)∧St W I' w' (Zj p (addJ2 S J id pos).2.1::jnHP q p (addJ2 S J id pos).2.2::l):=by
 have HU:=Zh (ZkD id pos h hB);have HSM:=Zh (show uptoJ S J id pos=0->mayJ2 S J=J from fun h=>Zcw (ZlH h));obtain ⟨⟨why,RS,RJ⟩,hR⟩:∃ x,x=addJ2 S J id pos:=⟨_,rfl⟩;rw [<-hR];unfold addJ2 at hR;obtain ⟨u,hu⟩:=Zn (uptoJ S J id pos);rw [<-hu] at HU HSM hR;have HX:=Zh hR;have HK:=Zh hk;have HB:=Zh hB;have HJ:=Zh hj;clear h hk hB hj hR hu;go_enter func46,ntmps46;go_wp2_with fail;refine HU.o.mono ?_;rintro e w2 ⟨rfl,h2⟩;have H2:=Zh h2;clear h2 HU;by_cases hu0:u=0
 ·subst hu0;have e1:=HX.o.trans (Za (by simp));have hs:=HSM.o (by first|rfl|trivial);rw [hs] at H2;obtain ⟨vt,vc,hrI,hcs,lq,fq⟩:=(H2.o.pull 1 _ rfl).jn_rcells;have k7:=hcs.2.2.2.2.2.2.2;obtain ⟨Ac,cc,rfl,_⟩:=hrI.2;have HCN:=Zh (show J.r.cls.length<=1000000 by have:=(Zdu HB.o.ok.cls).1;omega);have HC:=Zh (ZpY Ac cc J.r.cls id pos H2.o hrI.2 HCN.o);have HRT:=Zh (show (addC J.r.cls id pos).2=0->Zae (addC J.r.cls id pos).1=true from ZkW);obtain ⟨⟨cs,cw⟩,hc⟩:∃ x,x=addC J.r.cls id pos:=⟨_,rfl⟩;rw [<-hc] at HC e1 HRT;have E1:=Zh (show (why,RS,RJ)=withJ S J cs cw from e1);clear hrI hcs fq hc hs HX HSM e1;go_wp2_with fail;refine HC.o.mono ?_;rintro e w3 ⟨I3,v3,s3,rfl,hI3,h3⟩;have hI4:=hI3;obtain ⟨A3,c3,ev,_⟩:=hI4;subst ev;have hw:=Zgc (slice A3 cs.length c3) cs cw o h3 HK.o HB.o HRT.o hI3 HJ.o;rw [<-E1.o] at hw;have HW:=Zh hw;have S3:=Zh s3;clear hI3 h3 s3 H2 HC k7 lq hw;go_wp2_with fail;refine HW.o.mono ?_;rintro e w4 ⟨I4,s4,rfl,h4⟩;have H4:=Zh h4;have S4:=Zh (S3.o.trans s4);clear h4 s4 HW;go_wp2;go_ret;exact ⟨I4,S4.o,rfl,H4.o⟩
 ·have e1:=HX.o.trans (Zb hu0);simp only [Zv] at e1;obtain ⟨rfl,rfl,rfl⟩:=e1;have hne:(why != 0)=true:=by simpa using hu0
  go_wp2;go_ret;exact ⟨I,Hp.sub.refl _,rfl,H2.o⟩
def ZdC (S:Str) (J:Jn) (id pos:Int):Int × Str × Jn:=if uptoJ S J id pos≠0 then (uptoJ S J id pos,S,mayJ2 S J) else withJ S J (Za5 J.r.cls id pos).1 (Za5 J.r.cls id pos).2
theorem Zn2 (id pos:Int) (o:Option Rc) {m:Nat} (h:St W I w (Zj p S::jnHP q p J::l)) (hk:Keeps S (m+2)) (hB:JB J) (hj:JRec S o) :
  Calls prog 112 #[pointer (some ⟨q,0,none⟩),int i64 id,int i64 pos] w fun e w'=>∃ I',I.sub I'∧e=.returned (int i64 (ZdC S J id pos).1)∧St W I' w' (Zj p (ZdC S J id pos).2.1::jnHP q p (ZdC S J id pos).2.2::l):=by
 have HU:=Zh (ZkD id pos h hB);have HSM:=Zh (show uptoJ S J id pos=0->mayJ2 S J=J from fun h=>Zcw (ZlH h));obtain ⟨⟨why,RS,RJ⟩,hR⟩:∃ x,x=ZdC S J id pos:=⟨_,rfl⟩;rw [<-hR];unfold ZdC at hR;obtain ⟨u,hu⟩:=Zn (uptoJ S J id pos);rw [<-hu] at HU HSM hR;have HX:=Zh hR;have HK:=Zh hk;have HB:=Zh hB;have HJ:=Zh hj;clear h hk hB hj hR hu;go_enter func112,ntmps112;go_wp2_with fail;refine HU.o.mono ?_;rintro e w2 ⟨rfl,h2⟩;have H2:=Zh h2;clear h2 HU;by_cases hu0:u=0
 ·subst hu0;have e1:=HX.o.trans (Za (by simp));have hs:=HSM.o (by first|rfl|trivial);rw [hs] at H2;obtain ⟨vt,vc,hrI,hcs,lq,fq⟩:=(H2.o.pull 1 _ rfl).jn_rcells;have k7:=hcs.2.2.2.2.2.2.2;obtain ⟨Ac,cc,rfl,_⟩:=hrI.2;have HCN:=Zh (show J.r.cls.length<=1000000 by have:=(Zdu HB.o.ok.cls).1;omega);have HC:=Zh (Znz Ac cc J.r.cls id pos H2.o hrI.2 HCN.o);have HRT:=Zh (show (Za5 J.r.cls id pos).2=0->Zae (Za5 J.r.cls id pos).1=true from Zjo);obtain ⟨⟨cs,cw⟩,hc⟩:∃ x,x=Za5 J.r.cls id pos:=⟨_,rfl⟩;rw [<-hc] at HC e1 HRT;have E1:=Zh (show (why,RS,RJ)=withJ S J cs cw from e1);clear hrI hcs fq hc hs HX HSM e1;go_wp2_with fail;refine HC.o.mono ?_;rintro e w3 ⟨I3,v3,s3,rfl,hI3,h3⟩;have hI4:=hI3;obtain ⟨A3,c3,ev,_⟩:=hI4;subst ev;have hw:=Zgc (slice A3 cs.length c3) cs cw o h3 HK.o HB.o HRT.o hI3 HJ.o;rw [<-E1.o] at hw;have HW:=Zh hw;have S3:=Zh s3;clear hI3 h3 s3 H2 HC k7 lq hw;go_wp2_with fail;refine HW.o.mono ?_;rintro e w4 ⟨I4,s4,rfl,h4⟩;have H4:=Zh h4;have S4:=Zh (S3.o.trans s4);clear h4 s4 HW;go_wp2;go_ret;exact ⟨I4,S4.o,rfl,H4.o⟩
 ·have e1:=HX.o.trans (Zb hu0);simp only [Zv] at e1;obtain ⟨rfl,rfl,rfl⟩:=e1;have hne:(why != 0)=true:=by simpa using hu0
  go_wp2;go_ret;exact ⟨I,Hp.sub.refl _,rfl,H2.o⟩
def dropJ (S:Str) (J:Jn) (id:Int):Int × Str × Jn:=if mayJ S J≠0 then (mayJ S J,S,mayJ2 S J) else withJ S J (dropC J.r.cls id).1 (dropC J.r.cls id).2
theorem Zp0 (id:Int) (o:Option Rc) {m:Nat} (h:St W I w (Zj p S::jnHP q p J::l)) (hk:Keeps S (m+2)) (hB:JB J) (hj:JRec S o) :
  Calls prog 111 #[pointer (some ⟨q,0,none⟩),int i64 id] w fun e w'=>∃ I',I.sub I'∧e=.returned (int i64 (dropJ S J id).1)∧St W I' w' (Zj p (dropJ S J id).2.1::jnHP q p (dropJ S J id).2.2::l):=by
 have HU:=Zh (ZdA h);have HSM:=Zh (show mayJ S J=0->mayJ2 S J=J from fun h=>Zcw (h));obtain ⟨⟨why,RS,RJ⟩,hR⟩:∃ x,x=dropJ S J id:=⟨_,rfl⟩;rw [<-hR];unfold dropJ at hR;obtain ⟨u,hu⟩:=Zn (mayJ S J);rw [<-hu] at HU HSM hR;have HX:=Zh hR;have HK:=Zh hk;have HB:=Zh hB;have HJ:=Zh hj;clear h hk hB hj hR hu;go_enter func111,ntmps111;go_wp2_with fail;refine HU.o.mono ?_;rintro e w2 ⟨rfl,h2⟩;have H2:=Zh h2;clear h2 HU;by_cases hu0:u=0
 ·subst hu0;have e1:=HX.o.trans (Za (by simp));have hs:=HSM.o (by first|rfl|trivial);rw [hs] at H2;obtain ⟨vt,vc,hrI,hcs,lq,fq⟩:=(H2.o.pull 1 _ rfl).jn_rcells;have k7:=hcs.2.2.2.2.2.2.2;obtain ⟨Ac,cc,rfl,_⟩:=hrI.2;have HCN:=Zh (show J.r.cls.length<=1000000 by have:=(Zdu HB.o.ok.cls).1;omega);have HC:=Zh (ZoR Ac cc J.r.cls id H2.o hrI.2 HCN.o);have HRT:=Zh (show (dropC J.r.cls id).2=0->Zae (dropC J.r.cls id).1=true from Zj0);obtain ⟨⟨cs,cw⟩,hc⟩:∃ x,x=dropC J.r.cls id:=⟨_,rfl⟩;rw [<-hc] at HC e1 HRT;have E1:=Zh (show (why,RS,RJ)=withJ S J cs cw from e1);clear hrI hcs fq hc hs HX HSM e1;go_wp2_with fail;refine HC.o.mono ?_;rintro e w3 ⟨I3,v3,s3,rfl,hI3,h3⟩;have hI4:=hI3;obtain ⟨A3,c3,ev,_⟩:=hI4;subst ev;have hw:=Zgc (slice A3 cs.length c3) cs cw o h3 HK.o HB.o HRT.o hI3 HJ.o;rw [<-E1.o] at hw;have HW:=Zh hw;have S3:=Zh s3;clear hI3 h3 s3 H2 HC k7 lq hw;go_wp2_with fail;refine HW.o.mono ?_;rintro e w4 ⟨I4,s4,rfl,h4⟩;have H4:=Zh h4;have S4:=Zh (S3.o.trans s4);clear h4 s4 HW;go_wp2;go_ret;exact ⟨I4,S4.o,rfl,H4.o⟩
 ·have e1:=HX.o.trans (Zb hu0);simp only [Zv] at e1;obtain ⟨rfl,rfl,rfl⟩:=e1;have hne:(why != 0)=true:=by simpa using hu0
  go_wp2;go_ret;exact ⟨I,Hp.sub.refl _,rfl,H2.o⟩
def turnJ (S:Str) (J:Jn) (id:Int) (off:Bool):Int × Str × Jn:=if mayJ S J≠0 then (mayJ S J,S,mayJ2 S J) else withJ S J (turnC J.r.cls id off).1 (turnC J.r.cls id off).2
theorem Zp1 (id:Int) (off:Bool) (o:Option Rc) {m:Nat} (h:St W I w (Zj p S::jnHP q p J::l)) (hk:Keeps S (m+2)) (hB:JB J) (hj:JRec S o) :
  Calls prog 47 #[pointer (some ⟨q,0,none⟩),int i64 id,.bool off] w fun e w'=>∃ I',I.sub I'∧e=.returned (int i64 (turnJ S J id off).1)∧St W I' w' (Zj p (turnJ S J id off).2.1::jnHP q p (turnJ S J id off).2.2::l):=by
 have HU:=Zh (ZdA h);have HSM:=Zh (show mayJ S J=0->mayJ2 S J=J from fun h=>Zcw (h));obtain ⟨⟨why,RS,RJ⟩,hR⟩:∃ x,x=turnJ S J id off:=⟨_,rfl⟩;rw [<-hR];unfold turnJ at hR;obtain ⟨u,hu⟩:=Zn (mayJ S J);rw [<-hu] at HU HSM hR;have HX:=Zh hR;have HK:=Zh hk;have HB:=Zh hB;have HJ:=Zh hj;clear h hk hB hj hR hu;go_enter func47,ntmps47;go_wp2_with fail;refine HU.o.mono ?_;rintro e w2 ⟨rfl,h2⟩;have H2:=Zh h2;clear h2 HU;by_cases hu0:u=0
 ·subst hu0;have e1:=HX.o.trans (Za (by simp));have hs:=HSM.o (by first|rfl|trivial);rw [hs] at H2;obtain ⟨vt,vc,hrI,hcs,lq,fq⟩:=(H2.o.pull 1 _ rfl).jn_rcells;have k7:=hcs.2.2.2.2.2.2.2;obtain ⟨Ac,cc,rfl,_⟩:=hrI.2;have HCN:=Zh (show J.r.cls.length<=1000000 by have:=(Zdu HB.o.ok.cls).1;omega);have HC:=Zh (ZoQ Ac cc J.r.cls id off H2.o hrI.2 HCN.o);have HRT:=Zh (show (turnC J.r.cls id off).2=0->Zae (turnC J.r.cls id off).1=true from Zj1);obtain ⟨⟨cs,cw⟩,hc⟩:∃ x,x=turnC J.r.cls id off:=⟨_,rfl⟩;rw [<-hc] at HC e1 HRT;have E1:=Zh (show (why,RS,RJ)=withJ S J cs cw from e1);clear hrI hcs fq hc hs HX HSM e1;go_wp2_with fail;refine HC.o.mono ?_;rintro e w3 ⟨I3,v3,s3,rfl,hI3,h3⟩;have hI4:=hI3;obtain ⟨A3,c3,ev,_⟩:=hI4;subst ev;have hw:=Zgc (slice A3 cs.length c3) cs cw o h3 HK.o HB.o HRT.o hI3 HJ.o;rw [<-E1.o] at hw;have HW:=Zh hw;have S3:=Zh s3;clear hI3 h3 s3 H2 HC k7 lq hw;go_wp2_with fail;refine HW.o.mono ?_;rintro e w4 ⟨I4,s4,rfl,h4⟩;have H4:=Zh h4;have S4:=Zh (S3.o.trans s4);clear h4 s4 HW;go_wp2;go_ret;exact ⟨I4,S4.o,rfl,H4.o⟩
 ·have e1:=HX.o.trans (Zb hu0);simp only [Zv] at e1;obtain ⟨rfl,rfl,rfl⟩:=e1;have hne:(why != 0)=true:=by simpa using hu0
  go_wp2;go_ret;exact ⟨I,Hp.sub.refl _,rfl,H2.o⟩
end
def posD (J:Jn):Int:=if (slowC J.r.cls).2=true then min J.safe (slowC J.r.cls).1 else J.safe
def ZaV (pos:Int):List En->List Pl->Nat->Int->Nat × Int->Nat × Int
 | e::es,p::ps,i,q,r=>if p.set=r.2 then ZaV pos es ps (i+1) e.seq r else if pos<q then r else ZaV pos es ps (i+1) e.seq (i,p.set)
 | _,_,_,_,r=>r
def doneJ (J:Jn):Nat × Int:=ZaV (posD J) J.l J.at_ 0 0 (0,J.r.set)
section
variable {p q : Nat} {J : Jn} {S : Str}
theorem Zp2 (h:St W I w (jnHP q p J::l)) (hB:JB J) (h0:∀ p,J.at_[0]?=some p->p.set=J.r.set) :
  Calls prog 104 #[pointer (some ⟨q,0,none⟩)] w fun e w'=>e=.returned (.tuple #[int i64 ((doneJ J).1:Nat),int i64 (doneJ J).2])∧St W I w' (jnHP q p J::l):=by
 obtain ⟨⟨vt,vc,vl,va⟩,hrI,h1⟩:=h.jn_open;obtain ⟨A,c,hvl,hnc,_⟩:=(h1.pull 1 _ rfl).ents_slice;obtain ⟨Aa,ca,hva,hnca,_⟩:=(h1.pull 2 _ rfl).win_slice;obtain ⟨Ac,cc,hvc,_⟩:=hrI.2;simp only at hvl hva hrI h1 hvc;subst hvl hva hvc;have k5:=jn_c5 h1;have k7:=jn_c7 h1;have k8:=jn_c8 h1;have k15:=ZgC h1;simp only at k7 k8;have lq:=h1.lt;have hsl:=Znh _ J.r.cls h1 hrI.2 (by have:=(Zdu hB.ok.cls).1;omega);obtain ⟨R,hR⟩:=Zn (doneJ J);rw [<-hR];unfold doneJ posD at hR;obtain ⟨⟨sn,sb⟩,hs⟩:∃ x,x=slowC J.r.cls:=⟨_,rfl⟩;rw [<-hs] at hsl hR;obtain ⟨sf,hsf⟩:=Zn J.safe;rw [<-hsf] at k15 hR;obtain ⟨s0,hs0⟩:=Zn J.r.set;rw [<-hs0] at k5 hR h0;obtain ⟨n0,hn0⟩:=Zn J.l.length;have hl:=hB.lens;rw [hl] at h1;have hn5:=hB.len;rw [<-hn0] at k8 h1 hl hn5;have HR:=Zh hR;have HSL:=Zh hsl;have HN0:=Zh hn0;have HL:=Zh hl;have H0:=Zh h0;have HS0:=Zh hs0;have HRI:=Zh hrI;have H1:=Zh h1;clear h h1 hrI hR hsl hs hsf hs0 hn0 hl h0 hnca hnc hB;go_enter func104,ntmps104;go_wp2_with fail;refine HSL.o.mono ?_;rintro e w2 ⟨rfl,hb2⟩;have h2:=H1.o.keep hb2;have k5:=jn_c5 h2;rw [<-HS0.o] at k5;have k8:=jn_c8 h2;simp only at k8;have lq:=h2.lt;have H2:=Zh h2;clear h2 hb2 H1 HSL k7 k15;have key:∀ ps:Int,R=ZaV ps J.l J.at_ 0 0 (0,s0)->R=ZaV ps J.l J.at_ 0 0 (0,s0):=fun _ h=>h;cases sb with
 | true =>
  obtain ⟨ps,hps⟩:=Zn (min sf sn);have HR2:=Zh (show R=ZaV ps J.l J.at_ 0 0 (0,s0) by rw [hps];exact HR.o);clear HR;go_upto_region 5 with fail;rw [<-hps];clear hps;go_quiet (fail);go_upto_region 6 with fail;have H3:=Zh (H2.o.drewN nq);have k8:=jn_c8 H3.o;simp only at k8;have lq:=H3.o.lt;clear H2;go_wp2;go_loopw [7,8,37] (fun a7 a8 a37 wr=>∃ (i n:Nat) (st pq:Int),a37=int i64 i∧a7=int i64 n∧a8=int i64 st∧i<=n0∧R=ZaV ps (J.l.drop i) (J.at_.drop i) i pq (n,st)∧(∀ i',i=i'+1->∃ e,J.l[i']?=some e∧e.seq=pq)∧(i=0->st=s0)∧St W I wr (jnBlk q p J ⟨vt,slice Ac J.r.cls.length cc,slice A n0 c,slice Aa n0 ca⟩::Zo (slice A n0 c) J.l::ZY (slice Aa n0 ca) J.at_::l)) (fun _ _ a37 _=>n0 - (intOf a37).toNat);case atStart=>exact ⟨0,0,s0,0,rfl,rfl,rfl,ZL _,HR2.o,fun i' e=>(by cases e),fun _=>rfl,H3.o⟩
  case round =>
   obtain ⟨i,n,st,pq,rfl,rfl,rfl,hi,hgo,hpv,hi0,hst⟩:=hrel;clear H3 k8 lq HR2;by_cases hlt:i<n0
   ·have hlt2:(i:Int)<(n0:Int):=by omega
    obtain ⟨e,he⟩:∃ e,J.l[i]?=some e:=⟨_,Zy (by rw [<-HN0.o];exact hlt)⟩;obtain ⟨pl,hpl⟩:∃ e,J.at_[i]?=some e:=⟨_,Zy (by rw [HL.o];exact hlt)⟩;obtain ⟨g',qq',c3,e3,hg',hnc3,z0,z1⟩:=(hst.pull 2 _ rfl).places_cell hpl;rw [HL.o] at e3 hnc3;simp only [Zz] at e3;obtain ⟨rfl,hnn,rfl⟩:=e3;clear hnn;have k8:=jn_c8 hst;have k9:=jn_c9 hst;simp only at k8 k9;have lq:=hst.lt;have hdr:R=if pl.set=st then ZaV ps (J.l.drop (i+1)) (J.at_.drop (i+1)) (i+1) e.seq (n,st) else if ps<pq then (n,st) else ZaV ps (J.l.drop (i+1)) (J.at_.drop (i+1)) (i+1) e.seq (i,pl.set):=by
     rw [hgo,ZaS (ZH.1 he).1,ZaS (ZH.1 hpl).1,(ZH.1 he).2,(ZH.1 hpl).2];rfl
    have hnext:∀ i',i+1=i'+1->∃ x,J.l[i']?=some x∧x.seq=e.seq:=fun i' h=>by
     obtain rfl:i=i':=by omega
     exact ⟨e,he,rfl⟩
    have h00:i=0->pl.set=st:=fun h=>by
     rw [hi0 h];subst h;exact H0.o pl hpl
    obtain ⟨sq,hsq⟩:=Zn e.seq;rw [<-hsq] at hdr hnext;obtain ⟨pls,plo⟩:=pl;simp only at z0 z1 hdr h00;have HDR:=Zh hdr;have HNX:=Zh hnext;have HST:=Zh hst;by_cases hse:pls=st
    ·have HR4:=Zh (HDR.o.trans (Zb hse));subst hse;clear hgo hpv hi0 he hpl hdr hnext h00 hst hsq z1;go_wp2;go_roundw;case rel=>exact ⟨i+1,n,pls,sq,by go_num,rfl,rfl,by omega,HR4.o,HNX.o,fun h=>by omega,HST.o⟩
     case measure=>simp [intOf]<;>omega
    ·have hin:¬ i=0:=fun h=>hse (h00 h);obtain ⟨i',rfl⟩:∃ i',i=i'+1:=⟨i - 1,by omega⟩;obtain ⟨x,hx,hxs⟩:=hpv i' rfl;obtain ⟨g,qq,c5,vd,e2,hg,hbd,hbb,y0,y1,y2⟩:=(hst.pull 1 _ rfl).ents_cell hx;rw [<-HN0.o] at e2;simp only [Zz] at e2;obtain ⟨rfl,hnn,rfl⟩:=e2;clear hnn;rw [hxs] at y1;have hne:(pls==st)=false:=by simpa using hse
     have HR4:=Zh (HDR.o.trans (Za hse));have w1:IntKind.i64.wrap (((i'+1:Nat):Int) - 1)=(i':Int):=by rw [Zx];omega
     have hii:i'<n0:=by omega
     by_cases hpp:ps<pq
     ·have e1:=HR4.o.trans (Zb hpp);subst e1;have h5:=St.jn_shut (J:=J) (V:=⟨vt,slice Ac J.r.cls.length cc,slice (some ⟨g,qq,none⟩) n0 c,slice (some ⟨g',qq',none⟩) n0 ca⟩) HRI.o HST.o;have H5:=Zh h5;clear hgo hpv hi0 he hpl hdr hnext h00 hst hsq z1 hx hxs y0 y2 hbd hbb h5;go_wp2;go_ret2;exact ⟨rfl,H5.o⟩
     ·have HR5:=Zh (HR4.o.trans (Za hpp));clear hgo hpv hi0 he hpl hdr hnext h00 hst hsq z1 hx hxs y0 y2 hbd hbb;go_wp2_with fail;go_upto_region 11 with fail;go_quiet (fail);go_wp2;go_roundw;case rel=>exact ⟨i'+1+1,i'+1,pls,sq,by go_num,rfl,rfl,by omega,HR5.o,HNX.o,fun h=>by omega,HST.o.drewN nq⟩
      case measure=>simp [intOf]<;>omega
   ·obtain rfl:i=n0:=by omega
    have hlt2:¬ (i:Int)<(i:Int):=by omega
    rw [ZbS (by rw [<-HN0.o];exact ZC _)] at hgo;have e1:R=(n,st):=hgo;subst e1;have h5:=St.jn_shut (J:=J) (V:=⟨vt,slice Ac J.r.cls.length cc,slice A i c,slice Aa i ca⟩) HRI.o hst;have H5:=Zh h5;clear hst hgo hpv hi0 h5;go_wp2;go_ret2;exact ⟨rfl,H5.o⟩
 | false =>
  obtain ⟨ps,hps⟩:=Zn sf;have HR2:=Zh (show R=ZaV ps J.l J.at_ 0 0 (0,s0) by rw [hps];exact HR.o);subst hps;clear HR;go_upto_region 5 with fail;go_quiet (fail);go_upto_region 6 with fail;have H3:=Zh (H2.o.drewN nq);have k8:=jn_c8 H3.o;simp only at k8;have lq:=H3.o.lt;clear H2;go_wp2;go_loopw [7,8,37] (fun a7 a8 a37 wr=>∃ (i n:Nat) (st pq:Int),a37=int i64 i∧a7=int i64 n∧a8=int i64 st∧i<=n0∧R=ZaV ps (J.l.drop i) (J.at_.drop i) i pq (n,st)∧(∀ i',i=i'+1->∃ e,J.l[i']?=some e∧e.seq=pq)∧(i=0->st=s0)∧St W I wr (jnBlk q p J ⟨vt,slice Ac J.r.cls.length cc,slice A n0 c,slice Aa n0 ca⟩::Zo (slice A n0 c) J.l::ZY (slice Aa n0 ca) J.at_::l)) (fun _ _ a37 _=>n0 - (intOf a37).toNat);case atStart=>exact ⟨0,0,s0,0,rfl,rfl,rfl,ZL _,HR2.o,fun i' e=>(by cases e),fun _=>rfl,H3.o⟩
  case round =>
   obtain ⟨i,n,st,pq,rfl,rfl,rfl,hi,hgo,hpv,hi0,hst⟩:=hrel;clear H3 k8 lq HR2;by_cases hlt:i<n0
   ·have hlt2:(i:Int)<(n0:Int):=by omega
    obtain ⟨e,he⟩:∃ e,J.l[i]?=some e:=⟨_,Zy (by rw [<-HN0.o];exact hlt)⟩;obtain ⟨pl,hpl⟩:∃ e,J.at_[i]?=some e:=⟨_,Zy (by rw [HL.o];exact hlt)⟩;obtain ⟨g',qq',c3,e3,hg',hnc3,z0,z1⟩:=(hst.pull 2 _ rfl).places_cell hpl;rw [HL.o] at e3 hnc3;simp only [Zz] at e3;obtain ⟨rfl,hnn,rfl⟩:=e3;clear hnn;have k8:=jn_c8 hst;have k9:=jn_c9 hst;simp only at k8 k9;have lq:=hst.lt;have hdr:R=if pl.set=st then ZaV ps (J.l.drop (i+1)) (J.at_.drop (i+1)) (i+1) e.seq (n,st) else if ps<pq then (n,st) else ZaV ps (J.l.drop (i+1)) (J.at_.drop (i+1)) (i+1) e.seq (i,pl.set):=by
     rw [hgo,ZaS (ZH.1 he).1,ZaS (ZH.1 hpl).1,(ZH.1 he).2,(ZH.1 hpl).2];rfl
    have hnext:∀ i',i+1=i'+1->∃ x,J.l[i']?=some x∧x.seq=e.seq:=fun i' h=>by
     obtain rfl:i=i':=by omega
     exact ⟨e,he,rfl⟩
    have h00:i=0->pl.set=st:=fun h=>by
     rw [hi0 h];subst h;exact H0.o pl hpl
    obtain ⟨sq,hsq⟩:=Zn e.seq;rw [<-hsq] at hdr hnext;obtain ⟨pls,plo⟩:=pl;simp only at z0 z1 hdr h00;have HDR:=Zh hdr;have HNX:=Zh hnext;have HST:=Zh hst;by_cases hse:pls=st
    ·have HR4:=Zh (HDR.o.trans (Zb hse));subst hse;clear hgo hpv hi0 he hpl hdr hnext h00 hst hsq z1;go_wp2;go_roundw;case rel=>exact ⟨i+1,n,pls,sq,by go_num,rfl,rfl,by omega,HR4.o,HNX.o,fun h=>by omega,HST.o⟩
     case measure=>simp [intOf]<;>omega
    ·have hin:¬ i=0:=fun h=>hse (h00 h);obtain ⟨i',rfl⟩:∃ i',i=i'+1:=⟨i - 1,by omega⟩;obtain ⟨x,hx,hxs⟩:=hpv i' rfl;obtain ⟨g,qq,c5,vd,e2,hg,hbd,hbb,y0,y1,y2⟩:=(hst.pull 1 _ rfl).ents_cell hx;rw [<-HN0.o] at e2;simp only [Zz] at e2;obtain ⟨rfl,hnn,rfl⟩:=e2;clear hnn;rw [hxs] at y1;have hne:(pls==st)=false:=by simpa using hse
     have HR4:=Zh (HDR.o.trans (Za hse));have w1:IntKind.i64.wrap (((i'+1:Nat):Int) - 1)=(i':Int):=by rw [Zx];omega
     have hii:i'<n0:=by omega
     by_cases hpp:ps<pq
     ·have e1:=HR4.o.trans (Zb hpp);subst e1;have h5:=St.jn_shut (J:=J) (V:=⟨vt,slice Ac J.r.cls.length cc,slice (some ⟨g,qq,none⟩) n0 c,slice (some ⟨g',qq',none⟩) n0 ca⟩) HRI.o HST.o;have H5:=Zh h5;clear hgo hpv hi0 he hpl hdr hnext h00 hst hsq z1 hx hxs y0 y2 hbd hbb h5;go_wp2;go_ret2;exact ⟨rfl,H5.o⟩
     ·have HR5:=Zh (HR4.o.trans (Za hpp));clear hgo hpv hi0 he hpl hdr hnext h00 hst hsq z1 hx hxs y0 y2 hbd hbb;go_wp2_with fail;go_upto_region 11 with fail;go_quiet (fail);go_wp2;go_roundw;case rel=>exact ⟨i'+1+1,i'+1,pls,sq,by go_num,rfl,rfl,by omega,HR5.o,HNX.o,fun h=>by omega,HST.o.drewN nq⟩
      case measure=>simp [intOf]<;>omega
   ·obtain rfl:i=n0:=by omega
    have hlt2:¬ (i:Int)<(i:Int):=by omega
    rw [ZbS (by rw [<-HN0.o];exact ZC _)] at hgo;have e1:R=(n,st):=hgo;subst e1;have h5:=St.jn_shut (J:=J) (V:=⟨vt,slice Ac J.r.cls.length cc,slice A i c,slice Aa i ca⟩) HRI.o hst;have H5:=Zh h5;clear hst hgo hpv hi0 h5;go_wp2;go_ret2;exact ⟨rfl,H5.o⟩
end
def goneR (r:Rc) (n set:Int):Rc:=⟨r.shape,r.first+n,set,r.tags,r.cls⟩
def goneJ (J:Jn) (n:Nat):Jn:=lJ J (J.l.drop n) (J.at_.drop n) J.fill
def ZcA (S:Str) (J:Jn):(Int × Int) × Str × Jn :=
 if mayJ S J≠0 then ((0,mayJ S J),S,mayJ2 S J)
 else if (doneJ J).1=0 then ((0,(ZB S).1),(ZB S).2,endsJ J (ZB S).1)
 else if (keepJ S J (goneR J.r (doneJ J).1 (doneJ J).2)).1≠0 then ((0,(keepJ S J (goneR J.r (doneJ J).1 (doneJ J).2)).1),(keepJ S J (goneR J.r (doneJ J).1 (doneJ J).2)).2.1,(keepJ S J (goneR J.r (doneJ J).1 (doneJ J).2)).2.2)
 else if (trimJ (keepJ S J (goneR J.r (doneJ J).1 (doneJ J).2)).2.1 (goneJ (recJ J (goneR J.r (doneJ J).1 (doneJ J).2)) (doneJ J).1)).1≠0 then
  ((0,(trimJ (keepJ S J (goneR J.r (doneJ J).1 (doneJ J).2)).2.1 (goneJ (recJ J (goneR J.r (doneJ J).1 (doneJ J).2)) (doneJ J).1)).1),
    (trimJ (keepJ S J (goneR J.r (doneJ J).1 (doneJ J).2)).2.1 (goneJ (recJ J (goneR J.r (doneJ J).1 (doneJ J).2)) (doneJ J).1)).2,
    endsJ (goneJ (recJ J (goneR J.r (doneJ J).1 (doneJ J).2)) (doneJ J).1) (trimJ (keepJ S J (goneR J.r (doneJ J).1 (doneJ J).2)).2.1 (goneJ (recJ J (goneR J.r (doneJ J).1 (doneJ J).2)) (doneJ J).1)).1)
 else (((doneJ J).1,0),(trimJ (keepJ S J (goneR J.r (doneJ J).1 (doneJ J).2)).2.1 (goneJ (recJ J (goneR J.r (doneJ J).1 (doneJ J).2)) (doneJ J).1)).2,goneJ (recJ J (goneR J.r (doneJ J).1 (doneJ J).2)) (doneJ J).1)
theorem Zh5 (pos:Int):∀ (es:List En) (ps:List Pl) (i:Nat) (q:Int) (r:Nat × Int),ZaV pos es ps i q r=r∨(i<=(ZaV pos es ps i q r).1∧(ZaV pos es ps i q r).1<i+es.length)
 | [],ps,i,q,r=>by cases ps <;> exact .inl rfl
 | e::es,[],i,q,r=>.inl rfl
 | e::es,p::ps,i,q,r=>by
  unfold ZaV;simp only [Z9];split
  ·rcases Zh5 pos es ps (i+1) e.seq r with h|h
   ·exact .inl h
   ·exact .inr (by omega)
  ·split
   ·exact .inl rfl
   ·rcases Zh5 pos es ps (i+1) e.seq (i,p.set) with h|h
    ·right;rw [h];simp only;omega
    ·exact .inr (by omega)
theorem Zsp {J:Jn} (h:(doneJ J).1≠0):(doneJ J).1<J.l.length:=by
 unfold doneJ at h |-;rcases Zh5 (posD J) J.l J.at_ 0 0 (0,J.r.set) with e|e
 ·rw [e] at h;exact absurd rfl h
 ·omega
section
variable {p q : Nat} {J : Jn} {S : Str}
theorem St.ents_dropN {g o n c k:Nat} {es:List En} (h:St W I w (Zo (slice (some ⟨g,o,none⟩) n c) es::l)) (hk:k<=es.length):St W I w (Zo (slice (some ⟨g,o+k*3,none⟩) (n - k) (c - k)) (es.drop k)::l):=by
 obtain ⟨M,rfl,hM,h1⟩:=h.ents_open;obtain ⟨A2,c2,e2,hrest⟩:=h1.win_slice;clear hrest;simp only [Zz] at e2;obtain ⟨_,rfl,rfl⟩:=e2;have h2:=h1.win_drop hk;rw [Za7] at hk h2;have e:(M.flatMap mcell).drop (k*3)=(M.drop k).flatMap mcell:=by
  clear h h1 h2 hM;induction M generalizing k with
  | nil=>simp
  | cons x M ih =>
   cases k with
   | zero=>simp
   | succ k =>
    rw [Za0,Zd9,ZgL,ZbS (by rw [Zeg];omega),Zeg,show (k+1)*3 - 3=k*3 by omega,Zu,ih (by simpa using hk)]
 rw [e] at h2;have h3:St W I w (HP.win 50 3 (slice (some ⟨g,o+k*3,none⟩) (M.length - k) (c - k)) (M.drop k).length ((M.drop k).flatMap mcell)::l):=by
  rw [ZW];exact h2
 have h4:=h3.ents_shut (fun x hx=>hM x (Zda hx));rw [ZeY] at h4;rw [Za7];exact h4
theorem St.places_dropN {g o n c k:Nat} {ps:List Pl} (h:St W I w (ZY (slice (some ⟨g,o,none⟩) n c) ps::l)) (hk:k<=ps.length):St W I w (ZY (slice (some ⟨g,o+k*2,none⟩) (n - k) (c - k)) (ps.drop k)::l):=by
 have h1:St W I w (HP.win 41 2 (slice (some ⟨g,o,none⟩) n c) ps.length (ps.flatMap Pl.vals)::l):=h;obtain ⟨A2,c2,e2,hrest⟩:=h1.win_slice;clear hrest;simp only [Zz] at e2;obtain ⟨_,rfl,rfl⟩:=e2;have h2:=h1.win_drop hk;have e:(ps.flatMap Pl.vals).drop (k*2)=(ps.drop k).flatMap Pl.vals:=by
  clear h h1 h2;induction ps generalizing k with
  | nil=>simp
  | cons x ps ih =>
   cases k with
   | zero=>simp
   | succ k =>
    rw [Za0,Zd9,ZgL,ZbS (by rw [Pl.vals_len];omega),Pl.vals_len,show (k+1)*2 - 2=k*2 by omega,Zu,ih (by simpa using hk)]
 rw [e] at h2;unfold ZY;rw [ZW];exact h2
theorem Zsq {r:Rc} (h:(keepJ S J r).1=0):(keepJ S J r).2.2=recJ J r:=by
 unfold keepJ at h |-;simp only at h |-;rw [h,Zb rfl];rfl
set_option maxRecDepth 8000
theorem Zn3 (o:Option Rc) {m m2:Nat} (h:St W I w (Zj p S::jnHP q p J::l)) (hk:Keeps S (m+2)) (hB:JB J) (hE:∀ e ∈ J.l,e.okB=true) (h0:∀ p,J.at_[0]?=some p->p.set=J.r.set) (hj:JRec S o)
  (hr:(doneJ J).1≠0->(goneR J.r (doneJ J).1 (doneJ J).2).Ok)
  (hk1:(doneJ J).1≠0->(keepJ S J (goneR J.r (doneJ J).1 (doneJ J).2)).1=0->Keeps (keepJ S J (goneR J.r (doneJ J).1 (doneJ J).2)).2.1 (m2+4*(Zau (keepJ S J (goneR J.r (doneJ J).1 (doneJ J).2)).2.1 ⟨2,0⟩).length)∧(Zp (keepJ S J (goneR J.r (doneJ J).1 (doneJ J).2)).2.1 ⟨2,0⟩).length<=1000000∧SeenB (keepJ S J (goneR J.r (doneJ J).1 (doneJ J).2)).2.1) :
  Calls prog 45 #[pointer (some ⟨q,0,none⟩)] w fun e w'=>∃ I',I.sub I'∧e=.returned (.tuple #[int i64 (ZcA S J).1.1,int i64 (ZcA S J).1.2])∧St W I' w' (Zj p (ZcA S J).2.1::jnHP q p (ZcA S J).2.2::l):=by
 have HM:=Zh (ZdA h);have HSM:=Zh (@Zcw S J);obtain ⟨⟨⟨rn0,re0⟩,RS,RJ⟩,hR⟩:∃ x,x=ZcA S J:=⟨_,rfl⟩;rw [<-hR];unfold ZcA at hR;obtain ⟨e0,he0⟩:=Zn (mayJ S J);rw [<-he0] at HM HSM hR;have hlt:=@Zsp J;have HDN:=Zh (fun w1 L (h:St W I w1 (jnHP q p J::L))=>Zp2 h hB h0);obtain ⟨⟨n,st⟩,hd⟩:∃ x,x=doneJ J:=⟨_,rfl⟩;rw [<-hd] at hR hr hk1 hlt HDN;simp only at hR hr hk1 hlt HDN;have HX:=Zh hR;have HB:=Zh hB;have HK:=Zh hk;have HEE:=Zh hE;have HJ:=Zh hj;have HR:=Zh hr;have HK1:=Zh hk1;have HLT:=Zh hlt;clear h hk hB hE h0 hj hr hk1 he0 hd hR hlt;by_cases hz:e0=0
 ·subst hz;have HX2:=Zh (HX.o.trans (Za (by simp)));have hsame:=HSM.o rfl;rw [hsame] at HM;clear HX HSM hsame;go_enter func45,ntmps45;go_wp2_with fail;refine HM.o.mono ?_;rintro e w2 ⟨rfl,h2⟩;have H2:=Zh h2;clear h2 HM;go_wp2_with fail;refine (HDN.o _ _ (H2.o.pull 1 _ rfl)).mono ?_;rintro e w3 ⟨rfl,h3⟩;have H3:=Zh (h3.pull 1 _ rfl);clear h3 H2 HDN;by_cases hn0:n=0
  ·have e1:=HX2.o.trans (Zb hn0);subst hn0;obtain ⟨x0,lq⟩:=(H3.o.pull 1 _ rfl).jn_ptr;have hba:=Zec H3.o HK.o;obtain ⟨⟨bw,S4⟩,hb4⟩:∃ x,x=ZB S:=⟨_,rfl⟩;rw [<-hb4] at hba e1;simp only [Zv] at e1;obtain ⟨⟨rfl,rfl⟩,rfl,rfl⟩:=e1;have HBA:=Zh hba;clear hba hb4 H3;go_wp2_with fail;refine HBA.o.mono ?_;rintro e w4 ⟨I4,s4,rfl,h4⟩;have HE:=Zh (Zdd re0 (h4.pull 1 _ rfl));have S4':=Zh s4;clear h4 s4 HBA x0 lq;go_wp2_with fail;refine HE.o.mono ?_;rintro e w5 ⟨rfl,h5⟩;have H5:=Zh (h5.pull 1 _ rfl);clear h5 HE;go_wp2;go_ret2;exact ⟨I4,S4'.o,rfl,H5.o⟩
  ·have HX3:=Zh (HX2.o.trans (Za hn0));have hok:=HR.o hn0;have HOK:=Zh hok;have hnl:=HLT.o hn0;have hne0:((n:Int)==0)=false:=by simpa using hn0
   obtain ⟨⟨vt,vc,vl,va⟩,hrI,h4⟩:=(H3.o.pull 1 _ rfl).jn_open;obtain ⟨At,ct,ev,_⟩:=hrI.1;obtain ⟨Ac,cc,ec,_⟩:=hrI.2;simp only at ev ec hrI h4;subst ev ec;obtain ⟨a1,a2,a3⟩:=Zc0 h4;have a4:=jn_c4 h4;have a5:=jn_c5 h4;have a6:=jn_c6 h4;have a7:=jn_c7 h4;have lq:=h4.lt;simp only at a6 a7;obtain ⟨fi,hfi⟩:=Zn J.r.first;have hfr:=HB.o.first;have hlen:=HB.o.len;rw [<-hfi] at hfr;have w1:IntKind.i64.wrap (fi+(n:Int))=fi+(n:Int):=by rw [Zx];omega
   have h5:=H3.o.alloc (cells #[int i64 J.r.shape.splay,int i64 J.r.shape.sets,int i64 J.r.shape.size,int i64 J.r.first,int i64 J.r.set,slice At J.r.tags.length ct,slice Ac J.r.cls.length cc] 105);obtain ⟨g7,hg7⟩:=Zn w3.heap.size;rw [<-hg7] at h5;have HRI:=Zh hrI;have HFI:=Zh hfi;have H5:=Zh h5;clear h4 h5 H3 HX2 hrI hok hfr hfi;go_upto_region 8 with fail;rw [<-hg7];have h5:=H5.o;generalize (World.alloc _ _:World)=w5 at h5 |-;clear a1 a2 a3 a4 a5 a6 a7 lq H5 hg7;obtain ⟨z0,z1,z2,z3,z4,z5,z6⟩:=ZaC h5;rw [<-HFI.o] at z3;have lg:=h5.lt;have fg:=frozen_of_row h5.heap;have h6:=(h5.setCell 3 (int i64 (fi+(n:Int)))).setCell 4 (int i64 st);simp only [Zf,Zd,Ze] at h6;have hkp:=fun w1 L (h:St W I w1 (Zj p S::jnHP q p J::L))=>ZhB (goneR J.r n st) (slice At J.r.tags.length ct) (slice Ac J.r.cls.length cc) o h HK.o HOK.o ⟨HRI.o.1,HRI.o.2⟩ HJ.o;have hkq:=@Zsq J S (goneR J.r n st);have hk1:=HK1.o hn0;obtain ⟨⟨kw,S8,J8⟩,hkj⟩:∃ x,x=keepJ S J (goneR J.r n st):=⟨_,rfl⟩;have hx3:=HX3.o;rw [<-hkj] at hkp hx3 hkq hk1;simp only [Rc.cells,goneR,<-HFI.o] at hkp;have HKP:=Zh hkp;have HX4:=Zh hx3;have HKQ:=Zh hkq;have HK2:=Zh hk1;have H6:=Zh ((h6.pull 2 _ rfl).pull 2 _ rfl);clear h5 h6 hkp hx3 hkq hkj hk1 HX3 HK1;go_upto_region 9 with fail;have h7:=H6.o;generalize (World.setCell _ _ _:World)=w7 at h7 |-;clear z0 z1 z2 z3 z4 z5 z6 lg fg H6 w1;obtain ⟨z0,z1,z2,z3,z4,z5,z6⟩:=ZaC (h7.pull 2 _ rfl);have lg:=(h7.pull 2 _ rfl).lt;have H7:=Zh h7;clear h7;go_wp2_with fail;refine (HKP.o _ _ H7.o).mono ?_;rintro e w8 ⟨I8,s8,rfl,h8⟩;have H8:=Zh (h8.pull 2 _ rfl).drop;have S8':=Zh s8;clear h8 s8 z0 z1 z2 z3 z4 z5 z6 lg H7 HKP;by_cases hkw:kw=0
   ·subst hkw;have hj8:=HKQ.o (by first|rfl|trivial);have hkk:=HK2.o (by first|rfl|trivial);have hx5:=HX4.o.trans (Za (by simp));subst hj8;obtain ⟨R,hRR⟩:=Zn (goneR J.r n st);rw [<-hRR] at H8 hx5;have HX5:=Zh hx5;have HKK:=Zh hkk;clear hx5 hkk HX4 HKQ HK2 hRR;obtain ⟨⟨vt9,vc9,vl9,va9⟩,hrI9,h9⟩:=(H8.o.pull 1 _ rfl).jn_open;have hJl:(recJ J R).l=J.l:=rfl;have hJa:(recJ J R).at_=J.at_:=rfl;rw [hJl,hJa] at h9;obtain ⟨x0,hx0⟩:∃ x,J.l[0]?=some x:=⟨_,Zy (by omega)⟩;obtain ⟨pl0,hp0⟩:∃ x,J.at_[0]?=some x:=⟨_,Zy (by rw [HB.o.lens];omega)⟩;obtain ⟨g,qq,c1,vd,e1,hg,_,_,_,_,_⟩:=(h9.pull 1 _ rfl).ents_cell hx0;obtain ⟨g',qq',c2,e2,hg',hnc2,_,_⟩:=(h9.pull 2 _ rfl).places_cell hp0;obtain ⟨A3,c3,e3,hnc1,_⟩:=(h9.pull 1 _ rfl).ents_slice;simp only at e1 e2 e3 h9 hrI9;subst e1 e2;simp only [Zz] at e3;obtain ⟨rfl,hnn9,rfl⟩:=e3;clear hnn9;obtain ⟨n0,hn00⟩:=Zn J.l.length;have hal:J.at_.length=n0:=by rw [hn00];exact HB.o.lens
    rw [hal,<-hn00] at h9;rw [hal] at hnc2;rw [<-hn00] at hnc1 hnl hlen;have HN00:=Zh hn00;have HAL:=Zh hal;have h10:=h9.drew;have k8:=jn_c8 h10;have k9:=jn_c9 h10;simp only at k8 k9;have lq:=h9.lt;have H10:=Zh h10;have HR9:=Zh hrI9;clear h9 h10 hg hg' hx0 hp0 hrI9 H8 hn00 hal hJl hJa;go_wp2_with fail;go_upto_region 12 with fail;have hcn1:¬ c1=n:=by omega
    have hcn2:¬ c2=n:=by omega
    have hnn0:n<=n0:=by omega
    have hnc3:n<=c1:=by omega
    have hnc4:n<=c2:=by omega
    refine Zjb (fun w'=>w'.cell? ⟨q,8,none⟩=some (slice (some ⟨g,qq,none⟩) n0 c1)∧w'.cell? ⟨q,9,none⟩=some (slice (some ⟨g',qq',none⟩) n0 c2)) (fun w'=>True) [0,2,3,4,5,6,7,8,9,10,11,14,15] [1,12,13] [] [16] (Tr.one 16 Tr.leaf) [17,18,19] (by kernel_rfl) (by kernel_rfl) (by (exact ⟨⟨k8,k9⟩,trivial⟩)) ?_;simp only [pickL,Zg,Zi];repeat (first|refine ZM _ (Or.inl ⟨by rfl,by (intro w hSw;(try dsimp only at hSw);go_simp;try with_reducible rfl)⟩) ?_|refine ZM _ (Or.inr ⟨by rfl,rfl⟩) ?_|fail);(try go_frame)
    (try refine Z7 ?_)
    repeat (first|refine ZM _ (Or.inl ⟨by rfl,by (intro w hSw;(try dsimp only at hSw);go_simp;try with_reducible rfl)⟩) ?_|refine ZM _ (Or.inr ⟨by rfl,rfl⟩) ?_|fail);(try go_frame)
    (try refine Z7 ?_)
    unfold wpTr2;simp only [pickL,Zg,Zi];clear k8 k9 lq;obtain ⟨w0,hw0⟩:=Zn w8.drew;rw [<-hw0] at H10 |-;clear hw0;have kq:=Za1 H10.o;have k8:=kq 8;have k9:=kq 9;have fq:=Zbx H10.o;have lq:=H10.o.lt;simp [Zb3] at k8 k9;have h11:=(H10.o.jb_l (slice (some ⟨g,qq+n*3,none⟩) (n0 - n) (c1 - n))).jb_at (slice (some ⟨g',qq'+n*2,none⟩) (n0 - n) (c2 - n));have h12:=(h11.pull 1 _ rfl).ents_dropN (k:=n) (by rw [<-HN00.o];exact hnn0);have h13:=(h12.pull 2 _ rfl).places_dropN (k:=n) (by rw [HAL.o];exact hnn0);have h14:St W I8 ((w0.setCell ⟨q,8,none⟩ (slice (some ⟨g,qq+n*3,none⟩) (n0 - n) (c1 - n))).setCell ⟨q,9,none⟩ (slice (some ⟨g',qq'+n*2,none⟩) (n0 - n) (c2 - n))) (jnHP q p (goneJ (recJ J R) n)::Zj p S8::l) :=
     St.jn_shut (J:=goneJ (recJ J R) n) (V:=⟨vt9,vc9,slice (some ⟨g,qq+n*3,none⟩) (n0 - n) (c1 - n),slice (some ⟨g',qq'+n*2,none⟩) (n0 - n) (c2 - n)⟩) HR9.o ((h13.pull 1 _ rfl).pull 2 _ rfl)
    have H14:=Zh (h14.pull 1 _ rfl);clear kq h11 h12 h13 h14 H10;go_wp2;refine Zm (ZbC rfl trivial) ?_;unfold wpTr2;go_wp2;refine Zw ?_;clear k8 k9 fq lq hcn1 hcn2 hnc1 hnc2;have h14:=H14.o;generalize (World.setCell _ _ _:World)=w14 at h14 |-;have htr:=ZkQ (m:=m2) h14 HKK.o.1 HKK.o.2.1 HKK.o.2.2 (show (J.at_.drop n).length=(J.l.drop n).length by rw [ZW,ZW,HB.o.lens]) (show (J.l.drop n).length<=100000 by rw [ZW];have:=HB.o.len;omega) (show ∀ e ∈ J.l.drop n,e.okB=true from fun e he=>HEE.o e (Zda he));obtain ⟨⟨tw,S15⟩,ht15⟩:∃ x,x=trimJ S8 (goneJ (recJ J R) n):=⟨_,rfl⟩;have hx5:=HX5.o;rw [<-ht15] at htr hx5;have HX6:=Zh hx5;have HTR:=Zh htr;clear h14 htr ht15 hx5 H14 HX5 HKK;go_wp2_with fail;refine HTR.o.mono ?_;rintro e w15 ⟨I15,s15,rfl,h15⟩;have H15:=Zh h15;have S15':=Zh (S8'.o.trans s15);clear h15 s15 HTR;by_cases htw:tw=0
    ·have e1:=HX6.o.trans (Za (by simp [htw]));simp only [Zv] at e1;obtain ⟨⟨rfl,rfl⟩,rfl,rfl⟩:=e1;subst htw;go_wp2;go_ret2;exact ⟨I15,S15'.o,rfl,H15.o⟩
    ·have e1:=HX6.o.trans (Zb htw);simp only [Zv] at e1;obtain ⟨⟨rfl,rfl⟩,rfl,rfl⟩:=e1;have hne:(re0 != 0)=true:=by simpa using htw
     have HE:=Zh (Zdd re0 (H15.o.pull 1 _ rfl));go_wp2_with fail;refine HE.o.mono ?_;rintro e w16 ⟨rfl,h16⟩;have H16:=Zh (h16.pull 1 _ rfl);clear h16 HE;go_wp2;go_ret2;exact ⟨I15,S15'.o,rfl,H16.o⟩
   ·have e1:=HX4.o.trans (Zb hkw);simp only [Zv] at e1;obtain ⟨⟨rfl,rfl⟩,rfl,rfl⟩:=e1;have hne:(re0 != 0)=true:=by simpa using hkw
    go_wp2;go_ret2;exact ⟨I8,S8'.o,rfl,H8.o⟩
 ·have e1:=HX.o.trans (Zb hz);simp only [Zv] at e1;obtain ⟨⟨rfl,rfl⟩,rfl,rfl⟩:=e1;have hne:(re0 != 0)=true:=by simpa using hz
  go_enter func45,ntmps45;go_wp2_with fail;refine HM.o.mono ?_;rintro e w2 ⟨rfl,h2⟩;have H2:=Zh h2;clear h2;go_wp2;go_ret2;exact ⟨I,Hp.sub.refl _,rfl,H2.o⟩
end
def sumS (L:List (K4 × TS)):Int:=(L.map fun x=>x.2.size).sum
theorem Zrg (t:TS):0<=t.size:=by
 unfold TS.size ZcN;have:∀ l:List (ByteArray × List Int),0<=(l.map fun x=>(x.1.size:Int)+x.2.length).sum:=fun l=>by
  induction l with
  | nil=>simp
  | cons a l ih=>simp only [ZaT,ZgJ];omega
 have:=this t.attr;omega
theorem Zj2:∀ L:List (K4 × TS),0<=sumS L
 | []=>by simp [sumS]
 | x::L=>by
  have:=Zj2 L;have h:=Zrg x.2;have e:sumS (x::L)=x.2.size+sumS L:=by simp [sumS]
  omega
theorem Zsr {l k:List Int} (h:l.Perm k):l.sum=k.sum:=by
 induction h with
 | nil=>rfl
 | cons a _ ih=>simp [ih]
 | swap a b l=>simp only [ZgJ];omega
 | trans _ _ i j=>exact i.trans j
theorem Zp3 {L:List (K4 × TS)} (hn:(L.map (·.1)).Nodup) (k:K4):sumS L=sizeO (get k L)+sumS (del k L):=by
 cases hg:get k L with
 | none=>rw [ZcV hg];simp [sizeO]
 | some t =>
  have h:=Zsr ((ZeE hn hg).map fun x=>x.2.size);unfold sumS;rw [h];simp [sizeO]
end Go.Proofs.YtpjchngjhijgmaaGreat
