import Derived.Test.YtpjchngjhijgmaaGreatJP32
set_option linter.all false
set_option maxRecDepth 4000
set_option maxHeartbeats 8000000
open Go.RowKit
open Go.IntKind (i64 u64)
open Go.Value (int pointer slice)
open Go.Obj (cells)
namespace Go.Proofs.YtpjchngjhijgmaaGreat
open Tryz
open HP (pt mapOf)
variable {W w w':World} {I:Hp} {l:List HP}
def ZU (R:RJ) (a:A16):(Int × Int) × RJ :=
 if a.what=0 then Zbe R a.d
 else if a.what=1 then ((0,0),Zeq R)
 else if a.what=2 then ((((rRead R a.n a.m).1.length:Nat),(rRead R a.n a.m).2),R)
 else if a.what=3 then ((0,(rCut R a.n).1),(rCut R a.n).2)
 else if a.what=4 then ((0,(rLead R a.ts).1),(rLead R a.ts).2)
 else if a.what=5 then ((0,(rAct R 0 a.n a.m a.off).1),(rAct R 0 a.n a.m a.off).2)
 else if a.what=6 then ((0,(rAct R 1 a.n a.m a.off).1),(rAct R 1 a.n a.m a.off).2)
 else if a.what=7 then ((0,(rAct R 2 a.n a.m a.off).1),(rAct R 2 a.n a.m a.off).2)
 else if a.what=8 then ((0,(rAct R 3 a.n a.m a.off).1),(rAct R 3 a.n a.m a.off).2)
 else if a.what=9 then (((R.l.length - (rLess R).l.length:Nat),0),rLess R)
 else if a.what=10 then ((0,0),rTidy R)
 else if a.what=11 then ((0,(rLead R (ZbZ R.chain R.en a.n a.m)).1),(rLead R (ZbZ R.chain R.en a.n a.m)).2)
 else if a.what=12 then ((if rFits R.c a.ns R.fill (R.en+1) R.sets.length=true then 1 else 0,0),R)
 else ((0,0),R)
structure RB (R:RJ):Prop where
 en:0<=R.en∧R.en<=3299023255552
 first:∃ a,R.sets[0]?=some a∧0<=a∧a<=4611686018427387904
 sets:∀ x ∈ R.sets,0<=x∧x<=4611686018427387904
 rise:R.sets.Pairwise (· <= ·)
 few:R.sets.length<=1000∧R.l.length<=1000∧R.chain.length<=900∧R.cls.length<=4
 ents:∀ e ∈ R.l,e.okB=true
 c:R.c.okB=true
 cls:Zae R.cls=true
theorem PJ.rb {S:Str} {J:Jn} {R:RJ} {i:Nat} (h:PJ S J R i) (hi:i<=80):RB R:=by
 have hj:=h.ok;have hen:=h.ends;have h1:=hj.froms;have h2:=hj.at.inside;have h3:=hj.ok.first;have h4:=hj.small;have h5:=h.fset;have h6:=hj.ok.set;have hl:R.l.length<=i:=by rw [h.sim.l];exact h.len
 have hb:∀ x ∈ R.sets,0<=x∧x<=4611686018427387904:=by
  rw [h.sim.sets];intro x hx;rcases Z4.1 hx with rfl|hx
  ·omega
  ·have:=ZdQ hj.run x hx;omega
 have hcl:=ZiB hj;refine ⟨hen,⟨J.r.first,by rw [h.sim.sets];rfl,by omega,by omega⟩,hb,?_,⟨?_,by omega,?_,by rw [h.sim.cls];exact hcl⟩,by rw [h.sim.l];exact hj.okB,by rw [h.sim.c];exact hj.ok.shape,by rw [h.sim.cls];exact hj.ok.cls⟩
 ·rw [h.sim.sets];refine List.Pairwise.cons (fun x hx=>(ZdQ hj.run x hx).1) ?_;exact (ZhJ hj.run).imp fun h=>Int.le_of_lt h
 ·have:(R.sets.length:Int)=setsJ J:=by rw [h.sim.sets];exact h1
  unfold setsJ at this;omega
 ·rw [h.sim.chain];have:=h.tags;omega
section
theorem Zit (A:Option Addr) (n c:Nat) (l:List Tag) (s:Int) (w:World) (hl:TagsAt w A n l) (hn:n<=1000000) :
  Calls prog 103 #[slice A n c,int i64 s] w fun e w'=>e=.returned (int i64 (nextId l s))∧w=w':=by
 go_enter func103,ntmps103;go_wp2;go_loop [5,6] (fun v5 v10=>∃ (k:Nat) (m:Int),k<=n∧v10=int i64 k∧v5=int i64 m∧m=ZbY (l.take k)∧0<=m∧m<=1073741824∧ZcP (l.take k)=false) (fun _ v10=>n - (intOf v10).toNat);case atStart=>exact ⟨0,0,ZL _,rfl,rfl,rfl,by omega,by omega,rfl⟩
 case round =>
  obtain ⟨k,m,hk,rfl,rfl,hm,hm0,hm1,hh⟩:=hrel;have HM:=Zh hm;have HH:=Zh hh;clear hm hh;by_cases hlt:k<n
  ·obtain ⟨b,off,x,rfl,hB,hx,c0,c1,c2,c3⟩:=hl.at_ hlt;have HX:=Zh hx;clear hx;by_cases hmx:m<x.id;all_goals
    go_wp2;all_goals first
     |(go_ret
       exact ⟨ret_int (Zod HX.o (by assumption) s),rfl⟩)
     |(go_round;case rel=>exact ⟨k+1,_,by omega,by go_num,rfl,by rw [Zob HX.o,<-HM.o];omega,by omega,by omega,by rw [Zoc HX.o HH.o];simp;omega⟩
       case measure=>simp [intOf]<;>omega)
     | fail
  ·go_wp2
   go_ways
   ·go_ret;exact ⟨ret_int (Zkh hl.1 hk hlt HH.o HM.o (ZnK ((ZgG _).mp ‹_›))),rfl⟩
   ·go_ret;exact ⟨ret_int (Zkh hl.1 hk hlt HH.o HM.o (ZnL ((ZiO _).mp ‹_›))),rfl⟩
theorem ZlS (ts:List Tag) (t:Tag):flat ts++t.vals=flat (ts++[t]):=by simp [flat]
theorem Zjz (At:Option Addr) (ct:Nat) (ts:List Tag) (e0 n m:Int) (h:St W I w l) (ht:RowI I 4 (slice At ts.length ct) ts.length (flat ts)) (hn:ts.length<=1000) (he:0<=e0∧e0<=4611686018427387904) :
  Calls prog 42 #[slice At ts.length ct,int i64 e0,int i64 n,int i64 m] w fun e w'=>∃ I' A' c',I.sub I'∧e=.returned (slice A' (ZbZ ts e0 n m).length c')∧RowI I' 4 (slice A' (ZbZ ts e0 n m).length c') (ZbZ ts e0 n m).length (flat (ZbZ ts e0 n m))∧St W I' w' l:=by
 obtain ⟨s,hs⟩:=Zn (1+m % 2);obtain ⟨m2,hm2⟩:∃ x,m % 2=x:=⟨_,rfl⟩;obtain ⟨n2,hn2⟩:∃ x,n % 2=x:=⟨_,rfl⟩;have ha1:bits .and i64 m 1=m2:=(Zic m).trans hm2;have ha2:bits .and i64 n 1=n2:=(Zic n).trans hn2;have w1:IntKind.i64.wrap (1+m2)=s:=by rw [Zx];omega
 obtain ⟨d,hd⟩:=Zn (e0 - n2);have w2:IntKind.i64.wrap (e0 - n2)=d:=by rw [Zx];omega
 obtain ⟨mx,hmx⟩:=Zn (max 0 d);have HG:=Zh (show ZbZ ts e0 n m=ts++[⟨nextId ts s,s,0,mx⟩] by unfold ZbZ;rw [hmx,hd,hs,hn2]);have h0:=h.row_bare 80 4;obtain ⟨v1,x1,hr1,h1⟩:=St.tags_append 65 h0 (RowI.src ht h0.imm (ZeN ts) (by omega)) (by omega);rw [ZX,Zu] at h1;obtain ⟨A1,c1,rfl⟩:=ZA h1.row_owns;obtain ⟨At',ct',e1,hnc,hat⟩:=ZbM h1 ht;simp only [Zz] at e1;obtain ⟨rfl,_,rfl⟩:=e1;have HN:=Zh (Zit At ts.length ct ts s x1 hat (by omega));obtain ⟨nid,hnid⟩:=Zn (nextId ts s);rw [<-hnid] at HG HN;have h2:=h1.keep (ZS x1 (cells #[int i64 nid,int i64 s,int i64 0,int i64 mx] 80));obtain ⟨v3,x3,hr3,h3⟩:=St.tags_append 65 h2 (Ziz x1 ⟨nid,s,0,mx⟩) (by omega);obtain ⟨A3,c3,rfl⟩:=ZA h3.row_owns;rw [ZlS] at h3;obtain ⟨I4,hs4,hr4,h4⟩:=h3.freeze_row;have HR1:=Zh hr1;have HR3:=Zh hr3;have HS4:=Zh hs4;have HR4:=Zh hr4;have H4:=Zh h4;have HMX:=Zh hmx;clear h h0 h1 h2 h3 h4 hr1 hr3 hs4 hr4 ht hat hnc hs hm2 hn2 hd hnid hmx;have hmx2:max 0 d=mx:=HMX.o.symm;go_enter func42,ntmps42;go_wp2_with (at_builtin;refine ZZ _ rfl (.tmp 13) (.tmp 14) 65 65 rfl _ _ rfl rfl _ _ HR1.o ?_);refine HN.o.mono ?_;rintro e w5 ⟨rfl,rfl⟩;go_wp2_with (at_builtin;refine ZZ _ rfl (.tmp 15) (.tmp 26) 65 65 rfl _ _ rfl rfl _ _ HR3.o ?_);go_ret;rw [HG.o];exact ⟨I4,A3,c3,HS4.o,by simp,by simpa using HR4.o,H4.o⟩
theorem Zhq (ts:List Tag) (e:Int):ZQ ts e=ts.take (ZQ ts e).length:=Zi5.1 (Zdr _)
theorem Zqh {ts:List Tag} {e:Int} {i:Nat} {t:Tag} (hi:i<(ZQ ts e).length) (ht:ts[i]?=some t):t.at_<=e:=by
 have h1:(ZQ ts e)[i]?=some t:=by rw [Zhq,Ze0 hi];exact ht
 have h2:=ZaG h1;unfold ZQ at h2;have:=ZmY h2;simpa using this
theorem Zqi {ts:List Tag} {e:Int} {t:Tag} (ht:ts[(ZQ ts e).length]?=some t):e<t.at_:=by
 have h1:=List.takeWhile_append_dropWhile (p:=fun t:Tag=>decide (t.at_<=e)) (l:=ts);have h2:ts.dropWhile (fun t:Tag=>decide (t.at_<=e))=ts.drop (ZQ ts e).length:=by
  have h3:=Zck (ZQ ts e).length ts;rw [<-Zhq] at h3;exact List.append_cancel_left (h1.trans h3.symm)
 obtain ⟨hil,hie⟩:=ZH.1 ht;rw [ZaS hil,hie] at h2;have h3:=List.head?_dropWhile_not (fun t:Tag=>decide (t.at_<=e)) ts;rw [h2] at h3;simp only [List.head?_cons,ZT] at h3;omega
theorem ZrG (At:Option Addr) (ct:Nat) (ts:List Tag) (e0:Int) (h:St W I w l) (ht:RowI I 4 (slice At ts.length ct) ts.length (flat ts)) (hn:ts.length<=1000) :
  Calls prog 43 #[slice At ts.length ct,int i64 e0] w fun e w'=>∃ A' c',e=.returned (slice A' (ZQ ts e0).length c')∧St W I w' (HP.row 80 4 (slice A' (ZQ ts e0).length c') (ZQ ts e0).length (flat (ZQ ts e0))::l):=by
 obtain ⟨m,hm⟩:=Zn ((ZQ ts e0).length);have HCT:=Zh (show ZQ ts e0=ts.take m by rw [hm];exact Zhq ts e0);have HLT:=Zh (fun (i:Nat) (t:Tag) (hi:i<m) (ht:ts[i]?=some t)=>Zqh (ts:=ts) (e:=e0) (by rw [<-hm];exact hi) ht);have HGE:=Zh (fun (t:Tag) (ht:ts[m]?=some t)=>Zqi (ts:=ts) (e:=e0) (by rw [<-hm];exact ht));have hml:m<=ts.length:=by rw [hm];unfold ZQ;exact (Zdr _).length_le
 rw [<-hm];have H0:=Zh (h.row_nil 80 4);have HT:=Zh ht;have hn1:(ts.length:Int)<=1000:=by omega
 clear h ht hm;go_enter func43,ntmps43;go_wp2;go_loopw [5,6] (fun a5 a6 wr=>∃ (i:Nat) (A5:Option Addr) (c5:Nat),a6=int i64 i∧a5=slice A5 i c5∧i<=m∧St W I wr (HP.row 80 4 (slice A5 i c5) i (flat (ts.take i))::l)) (fun _ a6 _=>m - (intOf a6).toNat);case atStart=>exact ⟨0,none,0,rfl,rfl,ZL _,by simpa [flat] using H0.o⟩
 case round =>
  obtain ⟨i,A5,c5,rfl,rfl,hi,h2⟩:=hrel;clear H0;by_cases hlt:i<ts.length
  ·have d0:decide ((i:Int)<(ts.length:Int))=true:=Zt (by omega);obtain ⟨t,hti⟩:∃ t,ts[i]?=some t:=⟨_,Zy hlt⟩;obtain ⟨A,c,e1,_,hat⟩:=ZbM h2 HT.o;simp only [Zz] at e1;obtain ⟨rfl,hx1,hx2⟩:=e1;clear hx1 hx2;obtain ⟨b,off,x,rfl,hB,hx,k0,k1,k2,k3⟩:=hat.at_ hlt;rw [hti] at hx;obtain rfl:=Zey hx;clear hx hat;by_cases him:i<m
   ·have hle:=HLT.o i t him hti;have d1:decide (t.at_<=e0)=true:=Zt hle;have h3:=h2.keep (ZS wr (cells #[int i64 t.id,int i64 t.own,int i64 t.heir,int i64 t.at_] 80));obtain ⟨v4,w4,hr4,h4⟩:=St.tags_append 65 h3 (Ziz wr t) (by omega);obtain ⟨A4,c4,rfl⟩:=ZA h4.row_owns;have htk:flat (ts.take i)++t.vals=flat (ts.take (i+1)):=by rw [ZlS,Zb9,hti];rfl
    rw [htk] at h4;have H4:=Zh h4;have HR4:=Zh hr4;clear h2 h3 h4 hr4 htk hti hle;go_wp2_with (at_builtin;refine ZZ _ rfl (.tmp 22) (.tmp 27) 65 65 rfl _ _ rfl rfl _ _ HR4.o ?_);go_roundw;case rel=>exact ⟨i+1,A4,c4,by go_num,rfl,by omega,H4.o⟩
    case measure=>simp [intOf]<;>omega
   ·obtain rfl:i=m:=by omega
    have hge:=HGE.o t hti;have d1:decide (t.at_<=e0)=false:=Zq (by omega);have H2:=Zh h2;clear h2 hti hge;go_wp2;go_ret;rw [HCT.o];exact ⟨A5,c5,rfl,H2.o⟩
  ·obtain rfl:i=m:=by omega
   have d0:decide ((i:Int)<(ts.length:Int))=false:=Zq (by omega);have H2:=Zh h2;clear h2;go_wp2;go_ret;rw [HCT.o];exact ⟨A5,c5,rfl,H2.o⟩
end
theorem JOK.cut_pre {S:Str} {J:Jn} (h:JOK S J) (n:Nat):(trimJ S (Go.Proofs.YtpjchngjhijgmaaGreat.layJ (lJ J (J.l.take n) J.at_ J.fill))).1=0->JRec (trimJ S (Go.Proofs.YtpjchngjhijgmaaGreat.layJ (lJ J (J.l.take n) J.at_ J.fill))).2 (some J.r):=by
 obtain ⟨f,h1,h2,h3⟩:=h.cut n;rw [h1];intro h0;exact ((h.mend (J1:=lJ J (J.l.take n) (J.at_.take n) f) rfl h2 (Zi8 _ _) h3 (fun x hx=>ZbI hx) h.dead h.safe (ZlN n f)).2.2 h0).1.jrec
section
variable {p q : Nat} {J : Jn} {S : Str} {R : RJ} {i : Nat}
def PJP (W:World) (I:Hp) (l:List HP) (p q i:Nat) (v:Value) (R:RJ) (e:Ending) (w':World):Prop :=
 ∃ I' S' J',I.sub I'∧e=.returned v∧St W I' w' (Zj p S'::jnHP q p J'::l)∧PJ S' J' R i
theorem ZrH (Ad:Option Addr) (cd:Nat) (d:List Int) (h:St W I w (Zj p S::jnHP q p J::l)) (hp:PJ S J R i) (hi:i<80) (hd:BytesI I (slice Ad d.length cd) d) (hb:∀ y ∈ d,isByte y) (hn:d.length<=120) :
  Calls prog 24 #[pointer (some ⟨q,0,none⟩),slice Ad d.length cd] w (PJP W I l p q (i+1) (.tuple #[int i64 (Zbe R d).1.1,int i64 (Zbe R d).1.2]) (Zbe R d).2):=by
 obtain ⟨S',J',e1,e2⟩:=hp.append hi hb;have hs:=Zjy (m:=0) d Ad cd h (hp.ks.fewer (by omega)) hp.ok.jb hd hb (hp.ok.six hp.calm (by omega) _);rw [e1] at hs;exact hs.mono fun e w' ⟨I',s1,he,h2⟩=>⟨I',S',J',s1,he,h2,e2⟩
theorem ZsC (h:St W I w (Zj p S::jnHP q p J::l)) (hp:PJ S J R i) :
  Calls prog 17 #[pointer (some ⟨q,0,none⟩)] w (PJP W I l p q (i+1) (int i64 0) (Zeq R)):=by
 obtain ⟨S',e1,e2⟩:=hp.flush;have hs:=ZoG h hp.ks hp.ok.jb;rw [e1] at hs;exact hs.mono fun e w' ⟨I',s1,he,h2⟩=>⟨I',S',_,s1,he,h2,e2⟩
theorem Ztc (pos most:Int) (h:St W I w (Zj p S::jnHP q p J::l)) (hp:PJ S J R i) :
  Calls prog 28 #[pointer (some ⟨q,0,none⟩),int i64 pos,int i64 most] w fun e w'=>∃ I' A c,I.sub I'∧e=.returned (.tuple #[slice A (rRead R pos most).1.length c,int i64 (rRead R pos most).2])∧St W I' w' (Zj p S::jnHP q p J::l):=by
 have hs:=ZlF pos most h hp.ok.jb hp.ok.okB;rw [Zcw hp.ok.may,<-hp.sim.read hp.ok] at hs;refine hs.mono ?_;rintro e w' ⟨I',v,s1,rfl,h2⟩;obtain ⟨A,c,rfl,_⟩:=h2.ents_slice;exact ⟨I',A,c,s1,rfl,h2.drop⟩
theorem Ztu (e0:Int) (h:St W I w (Zj p S::jnHP q p J::l)) (hp:PJ S J R i) (hi:i<80) :
  Calls prog 110 #[pointer (some ⟨q,0,none⟩),int i64 e0] w (PJP W I l p q (i+1) (int i64 (rCut R e0).1) (rCut R e0).2):=by
 obtain ⟨S',J',e1,e2⟩:=hp.cut hi e0;have hj:=hp.ok;have:=hj.live.told;have:=hj.live.inv.keyCount;have:=hj.small;have hs:=Zre (m:=0) e0 (some J.r) h (hp.ks.fewer (by omega)) (by omega) hj.live.inv.seenB hj.jb hj.okB (by omega) (hj.cut_pre _);rw [e1] at hs;exact hs.mono fun e w' ⟨I',s1,he,h2⟩=>⟨I',S',J',s1,he,h2,e2⟩
theorem ZmO (At:Option Addr) (ct:Nat) (ts:List Tag) (h:St W I w (Zj p S::jnHP q p J::l)) (hp:PJ S J R i) (hi:i<80) (ht:RowI I 4 (slice At ts.length ct) ts.length (flat ts)) (hn:ts.length<=51+i) :
  Calls prog 41 #[pointer (some ⟨q,0,none⟩),slice At ts.length ct] w (PJP W I l p q (i+1) (int i64 (rLead R ts).1) (rLead R ts).2):=by
 obtain ⟨S',J',e1,e2⟩:=hp.lead (ts:=ts) hi hn;have hs:=ZpV (m:=0) At ct ts (some J.r) h (hp.ks.fewer (by omega)) hp.ok.jb ht (by omega) hp.ok.jrec;rw [e1] at hs;exact hs.mono fun e w' ⟨I',s1,he,h2⟩=>⟨I',S',J',s1,he,h2,e2⟩
theorem Ztv (id pos:Int) (off:Bool) (h:St W I w (Zj p S::jnHP q p J::l)) (hp:PJ S J R i) (hi:i<80) :
  Calls prog 46 #[pointer (some ⟨q,0,none⟩),int i64 id,int i64 pos] w (PJP W I l p q (i+1) (int i64 (rAct R 0 id pos off).1) (rAct R 0 id pos off).2):=by
 refine (Zp8 id pos (m:=95000 - 300*(i+1)) h hp.ok hp.calm (hp.ks.fewer (by omega))).mono ?_;rintro e w' ⟨I',S',s1,rfl,h2,h3,h4,h5⟩;refine ⟨I',S',_,s1,?_,h2,?_⟩
 ·rw [<-hp.addWhy id pos off];rfl
 ·have:=hp.cls h3 h4 h5;unfold rAct;rw [hp.addWhy id pos off,hp.sim.cls];exact this
theorem Ztd (id pos:Int) (off:Bool) (h:St W I w (Zj p S::jnHP q p J::l)) (hp:PJ S J R i) (hi:i<80) :
  Calls prog 47 #[pointer (some ⟨q,0,none⟩),int i64 id,.bool off] w (PJP W I l p q (i+1) (int i64 (rAct R 3 id pos off).1) (rAct R 3 id pos off).2):=by
 refine (ZoX id off (m:=95000 - 300*(i+1)) h hp.ok hp.calm (hp.ks.fewer (by omega))).mono ?_;rintro e w' ⟨I',S',s1,rfl,h2,h3,h4,h5⟩;refine ⟨I',S',_,s1,?_,h2,?_⟩
 ·rw [<-hp.turnWhy id pos off];rfl
 ·have:=hp.cls h3 h4 h5;unfold rAct;rw [hp.turnWhy id pos off,hp.sim.cls];exact this
theorem Zte (id pos:Int) (off:Bool) (h:St W I w (Zj p S::jnHP q p J::l)) (hp:PJ S J R i) (hi:i<80) :
  Calls prog 111 #[pointer (some ⟨q,0,none⟩),int i64 id] w (PJP W I l p q (i+1) (int i64 (rAct R 1 id pos off).1) (rAct R 1 id pos off).2):=by
 obtain ⟨S',e1,e2,e3⟩:=hp.ok.drop_calm hp.calm id;have hs:=Zp0 id (some J.r) (m:=95000 - 300*(i+1)) h (hp.ks.fewer (by omega)) hp.ok.jb hp.ok.jrec;have hk2:Keeps (dropJ S J id).2.1 (95000 - 300*(i+1)):=by
  unfold dropJ;split
  ·exact hp.ks.fewer (by omega)
  ·exact Zf2 (hp.ks.fewer (by omega))
 rw [e1] at hs hk2;refine hs.mono ?_;rintro e w' ⟨I',s1,rfl,h2⟩;refine ⟨I',S',_,s1,?_,h2,?_⟩
 ·rw [<-hp.dropWhy id pos off];rfl
 ·have:=hp.cls e2 e3 hk2;unfold rAct;rw [hp.dropWhy id pos off,hp.sim.cls];exact this
theorem ZrI (id pos:Int) (off:Bool) (h:St W I w (Zj p S::jnHP q p J::l)) (hp:PJ S J R i) (hi:i<80) :
  Calls prog 112 #[pointer (some ⟨q,0,none⟩),int i64 id,int i64 pos] w (PJP W I l p q (i+1) (int i64 (rAct R 2 id pos off).1) (rAct R 2 id pos off).2):=by
 obtain ⟨S',e1,e2,e3⟩:=hp.ok.commit_calm hp.calm id pos;have hs:=Zn2 id pos (some J.r) (m:=95000 - 300*(i+1)) h (hp.ks.fewer (by omega)) hp.ok.jb hp.ok.jrec;have hk2:Keeps (ZdC S J id pos).2.1 (95000 - 300*(i+1)):=by
  unfold ZdC;split
  ·exact hp.ks.fewer (by omega)
  ·exact Zf2 (hp.ks.fewer (by omega))
 rw [e1] at hs hk2;refine hs.mono ?_;rintro e w' ⟨I',s1,rfl,h2⟩;refine ⟨I',S',_,s1,?_,h2,?_⟩
 ·rw [<-hp.commitWhy id pos off];rfl
 ·have:=hp.cls e2 e3 hk2;unfold rAct;rw [hp.commitWhy id pos off,hp.sim.cls];exact this
theorem Ztf (h:St W I w (Zj p S::jnHP q p J::l)) (hp:PJ S J R i) (hi:i<80) :
  Calls prog 45 #[pointer (some ⟨q,0,none⟩)] w (PJP W I l p q (i+1) (.tuple #[int i64 ((R.l.length - (rLess R).l.length:Nat)),int i64 0]) (rLess R)):=by
 refine (ZoW (m:=95000 - 300*(i+1)) h hp.ok hp.calm (hp.ks.fewer (by omega))).mono ?_;rintro e w' ⟨I',S',s1,rfl,h2,h3,h4,h5⟩;refine ⟨I',S',_,s1,?_,h2,hp.trim h3 h4 h5⟩;rw [(hp.sim.less hp.ok).2]
theorem Ztg (h:St W I w (Zj p S::l)) (hp:PJ S J R i) (hi:i<80) :
  Calls prog 27 #[pointer (some ⟨p,0,none⟩)] w fun e w'=>∃ q',PJP W I l p q' (i+1) (.tuple #[pointer (some ⟨q',0,none⟩),int i64 0]) (rTidy R) e w':=by
 have hj:=hp.ok;obtain ⟨q1,q2,q3,q4,q5⟩:=hj.open_pre;obtain ⟨S',ho,hj',ha'⟩:=hj.open_calm hp.calm;have hto:=hj.live.told;have hs:=ZkT (m:=0) J.r (some J.r) h hj.live.on (hp.ks.fewer (by omega)) q1 q2 q3 q4 q5;have hk2:=Zj7 (r:=J.r) (m:=95000 - 300*(i+1)) (hp.ks.fewer (show 95000 - 300*(i+1)+2+4*(Zau S ⟨2,0⟩).length<=95000 - 300*i by omega));rw [ho] at hs hk2;refine hs.mono ?_;rintro e w' ⟨I',hs1,⟨hne,_⟩|⟨_,q,he,h2⟩⟩
 ·exact absurd rfl hne
 ·exact ⟨q,I',S',_,hs1,he,h2,hp.opened hj' ha' hk2⟩
end
section
variable {p q : Nat} {J : Jn} {S : Str} {R : RJ} {i : Nat}
def PJA (W:World) (I:Hp) (l:List HP) (p i:Nat) (n why:Int) (R:RJ) (e:Ending) (w':World):Prop :=
 ∃ q',PJP W I l p q' i (.tuple #[pointer (some ⟨q',0,none⟩),int i64 n,int i64 why]) R e w'
theorem ZnE (h:St W I w (Zj p S::l)) (hp:PJ S J R i) (hi:i<80) :
  Calls prog 113 #[pointer (some ⟨p,0,none⟩)] w (PJA W I l p (i+1) 0 0 (rTidy R)):=by
 have HO:=Zh (Ztg h hp hi);clear h;go_enter func113,ntmps113;go_wp2_with fail;refine HO.o.mono ?_;rintro e w2 ⟨q2,I2,S2,J2,s2,rfl,h2,hp2⟩;have H2:=Zh h2;have S2:=Zh s2;clear h2 s2 HO;go_wp2;refine Zaj (v:=.tuple #[pointer (some ⟨q2,0,none⟩),int i64 0,int i64 0]) (by simp [results,results113,go_sem]) rfl ?_;exact ⟨q2,I2,_,_,S2.o,rfl,H2.o,hp2⟩
theorem ZrJ (a:A16) (h:St W I w (Zj p S::jnHP q p J::l)) (hp:PJ S J R i) (hi:i<80) (ha:a.ok I) (hf:a.few=true) :
  Calls prog 51 #[pointer (some ⟨p,0,none⟩),pointer (some ⟨q,0,none⟩),a.val] w (PJA W I l p (i+1) (ZU R a).1.1 (ZU R a).1.2 (ZU R a).2):=by
 obtain ⟨what,n,m,off,d,dv,ts,tv,ns,nv⟩:=a;obtain ⟨had,hat,han,_,_,hmm,ham⟩:=ha;simp only at had hat han hmm ham;obtain ⟨Ad,cd,e1,_⟩:=id had;obtain ⟨At,ct,e2,_⟩:=id hat;obtain ⟨An,cn,e3,_⟩:=id han;subst e1 e2 e3;unfold A16.few at hf;simp only [Zk] at hf;unfold A16.val;simp only;obtain ⟨o,ho⟩:=Zn (Obj.cells #[int i64 what,int i64 n,int i64 m,.bool off,slice Ad d.length cd,slice At ts.length ct,slice An ns.length cn] 96);have h1:=h.alloc o;obtain ⟨g,hg⟩:=Zn w.heap.size;obtain ⟨w1,hw1⟩:=Zn (w.alloc o);rw [<-hg,<-hw1] at h1;rw [ho] at hw1;have H1:=Zh ((h1.pull 1 _ rfl).pull 2 _ rfl |>.pull 1 _ rfl);have HC:=Zh (fun (w':World) (L:List HP) (I':Hp) (h':St W I' w' (pt g o::L))=>ZaC (by rw [ho] at h';exact h'));have HAD:=Zh had;have HAT:=Zh hat;have HAN:=Zh han;have HBY:=Zh ham;have HF:=Zh hf;have HRB:=Zh (hp.rb (by omega));obtain ⟨x0,x1,x2,x3,x4,x5,x6⟩:=HC.o _ _ _ h1;have lg:=h1.lt;clear h h1 ho had hat han ham hf hmm;go_enter func51,ntmps51;go_upto_region 1 with fail;rw [<-hg,<-hw1];clear hg hw1;by_cases k0:what=0
 ·subst k0;have HT:=Zh (show ZU R ⟨0,n,m,off,d,slice Ad d.length cd,ts,slice At ts.length ct,ns,slice An ns.length cn⟩=Zbe R d by simp [ZU]);have HK:=Zh (ZrH Ad cd d H1.o hp hi HAD.o HBY.o (by have:=HF.o;omega));go_wp2_with fail;refine HK.o.mono ?_;rintro e w2 ⟨I2,S2,J2,s2,rfl,h2,hp2⟩;have H2:=Zh ((h2.pull 2 _ rfl).drop);have HS2:=Zh s2;clear s2 h2 HK;go_wp2;refine Zaj (v:=.tuple #[pointer (some ⟨q,0,none⟩),int i64 (Zbe R d).1.1,int i64 (Zbe R d).1.2]) (by simp [results,results51,go_sem]) rfl ?_;exact ⟨q,I2,S2,J2,HS2.o,rfl,H2.o,hp2⟩
 have q0:(what==0)=false:=by simp [k0]
 by_cases k1:what=1
 ·subst k1;have HT:=Zh (show ZU R ⟨1,n,m,off,d,slice Ad d.length cd,ts,slice At ts.length ct,ns,slice An ns.length cn⟩=((0,0),Zeq R) by simp [ZU]);have HK:=Zh (ZsC H1.o hp);go_wp2_with fail;refine HK.o.mono ?_;rintro e w2 ⟨I2,S2,J2,s2,rfl,h2,hp2⟩;have H2:=Zh ((h2.pull 2 _ rfl).drop);have HS2:=Zh s2;clear s2 h2 HK;go_wp2;refine Zaj (v:=.tuple #[pointer (some ⟨q,0,none⟩),int i64 0,int i64 0]) (by simp [results,results51,go_sem]) rfl ?_;exact ⟨q,I2,S2,J2,HS2.o,rfl,H2.o,hp2⟩
 have q1:(what==1)=false:=by simp [k1]
 by_cases k2:what=2
 ·subst k2;have HT:=Zh (show ZU R ⟨2,n,m,off,d,slice Ad d.length cd,ts,slice At ts.length ct,ns,slice An ns.length cn⟩=((((rRead R n m).1.length:Int),(rRead R n m).2),R) by simp [ZU]);have HK:=Zh (Ztc n m H1.o hp);go_wp2_with fail;refine HK.o.mono ?_;rintro e w2 ⟨I2,Av,cv,s2,rfl,h2⟩;have H2:=Zh ((h2.pull 2 _ rfl).drop);have HS2:=Zh s2;clear s2 h2 HK;go_wp2;refine Zaj (v:=.tuple #[pointer (some ⟨q,0,none⟩),int i64 ((rRead R n m).1.length:Int),int i64 (rRead R n m).2]) (by simp [results,results51,go_sem]) rfl ?_;exact ⟨q,I2,S,J,HS2.o,rfl,H2.o,hp.later (by omega)⟩
 have q2:(what==2)=false:=by simp [k2]
 by_cases k3:what=3
 ·subst k3;have HT:=Zh (show ZU R ⟨3,n,m,off,d,slice Ad d.length cd,ts,slice At ts.length ct,ns,slice An ns.length cn⟩=((0,(rCut R n).1),(rCut R n).2) by simp [ZU]);have HK:=Zh (Ztu n H1.o hp hi);go_wp2_with fail;refine HK.o.mono ?_;rintro e w2 ⟨I2,S2,J2,s2,rfl,h2,hp2⟩;have H2:=Zh ((h2.pull 2 _ rfl).drop);have HS2:=Zh s2;clear s2 h2 HK;go_wp2;refine Zaj (v:=.tuple #[pointer (some ⟨q,0,none⟩),int i64 0,int i64 (rCut R n).1]) (by simp [results,results51,go_sem]) rfl ?_;exact ⟨q,I2,S2,J2,HS2.o,rfl,H2.o,hp2⟩
 have q3:(what==3)=false:=by simp [k3]
 by_cases k4:what=4
 ·subst k4;have HT:=Zh (show ZU R ⟨4,n,m,off,d,slice Ad d.length cd,ts,slice At ts.length ct,ns,slice An ns.length cn⟩=((0,(rLead R ts).1),(rLead R ts).2) by simp [ZU]);have HK:=Zh (ZmO At ct ts H1.o hp hi HAT.o (by have:=HF.o;omega));go_wp2_with fail;refine HK.o.mono ?_;rintro e w2 ⟨I2,S2,J2,s2,rfl,h2,hp2⟩;have H2:=Zh ((h2.pull 2 _ rfl).drop);have HS2:=Zh s2;clear s2 h2 HK;go_wp2;refine Zaj (v:=.tuple #[pointer (some ⟨q,0,none⟩),int i64 0,int i64 (rLead R ts).1]) (by simp [results,results51,go_sem]) rfl ?_;exact ⟨q,I2,S2,J2,HS2.o,rfl,H2.o,hp2⟩
 have q4:(what==4)=false:=by simp [k4]
 by_cases k5:what=5
 ·subst k5;have HT:=Zh (show ZU R ⟨5,n,m,off,d,slice Ad d.length cd,ts,slice At ts.length ct,ns,slice An ns.length cn⟩=((0,(rAct R 0 n m off).1),(rAct R 0 n m off).2) by simp [ZU]);have HK:=Zh (Ztv n m off H1.o hp hi);go_wp2_with fail;refine HK.o.mono ?_;rintro e w2 ⟨I2,S2,J2,s2,rfl,h2,hp2⟩;have H2:=Zh ((h2.pull 2 _ rfl).drop);have HS2:=Zh s2;clear s2 h2 HK;go_wp2;refine Zaj (v:=.tuple #[pointer (some ⟨q,0,none⟩),int i64 0,int i64 (rAct R 0 n m off).1]) (by simp [results,results51,go_sem]) rfl ?_;exact ⟨q,I2,S2,J2,HS2.o,rfl,H2.o,hp2⟩
 have q5:(what==5)=false:=by simp [k5]
 by_cases k6:what=6
 ·subst k6;have HT:=Zh (show ZU R ⟨6,n,m,off,d,slice Ad d.length cd,ts,slice At ts.length ct,ns,slice An ns.length cn⟩=((0,(rAct R 1 n m off).1),(rAct R 1 n m off).2) by simp [ZU]);have HK:=Zh (Zte n m off H1.o hp hi);go_wp2_with fail;refine HK.o.mono ?_;rintro e w2 ⟨I2,S2,J2,s2,rfl,h2,hp2⟩;have H2:=Zh ((h2.pull 2 _ rfl).drop);have HS2:=Zh s2;clear s2 h2 HK;go_wp2;refine Zaj (v:=.tuple #[pointer (some ⟨q,0,none⟩),int i64 0,int i64 (rAct R 1 n m off).1]) (by simp [results,results51,go_sem]) rfl ?_;exact ⟨q,I2,S2,J2,HS2.o,rfl,H2.o,hp2⟩
 have q6:(what==6)=false:=by simp [k6]
 by_cases k7:what=7
 ·subst k7;have HT:=Zh (show ZU R ⟨7,n,m,off,d,slice Ad d.length cd,ts,slice At ts.length ct,ns,slice An ns.length cn⟩=((0,(rAct R 2 n m off).1),(rAct R 2 n m off).2) by simp [ZU]);have HK:=Zh (ZrI n m off H1.o hp hi);go_wp2_with fail;refine HK.o.mono ?_;rintro e w2 ⟨I2,S2,J2,s2,rfl,h2,hp2⟩;have H2:=Zh ((h2.pull 2 _ rfl).drop);have HS2:=Zh s2;clear s2 h2 HK;go_wp2;refine Zaj (v:=.tuple #[pointer (some ⟨q,0,none⟩),int i64 0,int i64 (rAct R 2 n m off).1]) (by simp [results,results51,go_sem]) rfl ?_;exact ⟨q,I2,S2,J2,HS2.o,rfl,H2.o,hp2⟩
 have q7:(what==7)=false:=by simp [k7]
 by_cases k8:what=8
 ·subst k8;have HT:=Zh (show ZU R ⟨8,n,m,off,d,slice Ad d.length cd,ts,slice At ts.length ct,ns,slice An ns.length cn⟩=((0,(rAct R 3 n m off).1),(rAct R 3 n m off).2) by simp [ZU]);have HK:=Zh (Ztd n m off H1.o hp hi);go_wp2_with fail;refine HK.o.mono ?_;rintro e w2 ⟨I2,S2,J2,s2,rfl,h2,hp2⟩;have H2:=Zh ((h2.pull 2 _ rfl).drop);have HS2:=Zh s2;clear s2 h2 HK;go_wp2;refine Zaj (v:=.tuple #[pointer (some ⟨q,0,none⟩),int i64 0,int i64 (rAct R 3 n m off).1]) (by simp [results,results51,go_sem]) rfl ?_;exact ⟨q,I2,S2,J2,HS2.o,rfl,H2.o,hp2⟩
 have q8:(what==8)=false:=by simp [k8]
 by_cases k9:what=9
 ·subst k9;have HT:=Zh (show ZU R ⟨9,n,m,off,d,slice Ad d.length cd,ts,slice At ts.length ct,ns,slice An ns.length cn⟩=((((R.l.length - (rLess R).l.length:Nat):Int),0),rLess R) by simp [ZU]);have HK:=Zh (Ztf H1.o hp hi);go_wp2_with fail;refine HK.o.mono ?_;rintro e w2 ⟨I2,S2,J2,s2,rfl,h2,hp2⟩;have H2:=Zh ((h2.pull 2 _ rfl).drop);have HS2:=Zh s2;clear s2 h2 HK;go_wp2;refine Zaj (v:=.tuple #[pointer (some ⟨q,0,none⟩),int i64 ((R.l.length - (rLess R).l.length:Nat)),int i64 0]) (by simp [results,results51,go_sem]) rfl ?_;exact ⟨q,I2,S2,J2,HS2.o,rfl,H2.o,hp2⟩
 have q9:(what==9)=false:=by simp [k9]
 by_cases k10:what=10
 ·subst k10;have HT:=Zh (show ZU R ⟨10,n,m,off,d,slice Ad d.length cd,ts,slice At ts.length ct,ns,slice An ns.length cn⟩=((0,0),rTidy R) by simp [ZU]);have HK:=Zh (ZnE (H1.o.pull 1 _ rfl).drop hp hi);go_wp2_with fail;refine HK.o.mono ?_;rintro e w2 ⟨q2,I2,S2,J2,s2,rfl,h2,hp2⟩;have H2:=Zh ((h2.pull 2 _ rfl).drop);have HS2:=Zh s2;clear s2 h2 HK;go_wp2;refine Zaj (v:=.tuple #[pointer (some ⟨q2,0,none⟩),int i64 0,int i64 0]) (by simp [results,results51,go_sem]) rfl ?_;exact ⟨q2,I2,S2,J2,HS2.o,rfl,H2.o,hp2⟩
 have q10:(what==10)=false:=by simp [k10]
 by_cases k11:what=11
 ·subst k11;have HT:=Zh (show ZU R ⟨11,n,m,off,d,slice Ad d.length cd,ts,slice At ts.length ct,ns,slice An ns.length cn⟩=((0,(rLead R (ZbZ R.chain R.en n m)).1),(rLead R (ZbZ R.chain R.en n m)).2) by simp [ZU]);obtain ⟨ts2,hts⟩:=Zn (ZbZ R.chain R.en n m);have htl:ts2.length<=51+i:=by
   rw [hts,hp.sim.chain];unfold ZbZ;rw [Zs,ZcT];have:=hp.tags;omega
  rw [<-hts] at HT;have hts3:ZbZ J.r.tags (endJ J) n m=ts2:=by rw [hts,hp.sim.chain,hp.sim.en]
  obtain ⟨nt,hnt⟩:=Zn J.r.tags.length;have htn:nt<=1000:=by have:=hp.tags;omega
  obtain ⟨nt2,hnt2⟩:=Zn ts2.length;have HNT:=Zh hnt;have HNT2:=Zh hnt2;have HTS:=Zh hts3;have HCH:=Zh (ZjR (H1.o.drew.pull 1 _ rfl) (by omega));have HEN:=Zh (fun (w':World) (I':Hp) (L:List HP) (h':St W I' w' (jnHP q p J::L))=>ZcW h' hp.ok.jb);rw [<-hnt] at HCH;obtain ⟨en,hen⟩:=Zn (endJ J);have henb:0<=en∧en<=4611686018427387904:=by have:=hp.ok.ends;omega
  rw [<-hen] at HEN HTS;clear hts hts3 hnt hnt2 hen;go_upto_region 27 with fail;clear x0 x3 x4 x5 x6;refine Zay (fun w'=>w'.cell? ⟨g,1,none⟩=some (int i64 n)∧w'.cell? ⟨g,2,none⟩=some (int i64 m)) [0,1,3,5,6,7,8] [2,4,9] [10,11] (by kernel_rfl) (by kernel_rfl) (by (exact ⟨x1,x2⟩)) ?_;simp only [pickL,Zg,Zi];repeat (refine ZM _ (Or.inl ⟨by rfl,by (intro w hSw;(try dsimp only at hSw);go_simp;try with_reducible rfl)⟩) ?_;(try go_frame))
  refine Z7 ?_;unfold Zr;clear x1 x2;go_wp2_with fail;refine HCH.o.mono ?_;rintro e w2 ⟨I2,v,s2,rfl,hR2,h2⟩;have hR3:=hR2;obtain ⟨A2,c2,rfl,_⟩:=hR3;obtain ⟨_,z1,z2,_⟩:=HC.o _ _ _ (h2.pull 2 _ rfl);have HE2:=Zh (HEN.o _ _ _ h2);have H2:=Zh h2;have HR2:=Zh hR2;have HS2:=Zh s2;clear h2 hR2 s2 HCH;go_wp2;refine Zm (And.intro z1 z2) ?_;clear z1 z2;unfold Zr;go_wp2_with fail;refine HE2.o.mono ?_;rintro e w3 ⟨rfl,hb3⟩;have h3:=H2.o.keep hb3;obtain ⟨_,z1,z2,_⟩:=HC.o _ _ _ (h3.pull 2 _ rfl);have HG:=Zh (Zjz A2 c2 J.r.tags en n m h3 (by rw [<-HNT.o];exact HR2.o) (by have:=HNT.o;omega) henb);rw [<-HNT.o,HTS.o,<-HNT2.o] at HG;clear hb3 h3 HE2 H2;go_wp2;refine Zm (And.intro z1 z2) ?_;clear z1 z2;unfold Zr;go_wp2_with fail;refine HG.o.mono ?_;rintro e w4 ⟨I4,A4,c4,s4,rfl,hR4,h4⟩;obtain ⟨_,z1,z2,_⟩:=HC.o _ _ _ (h4.pull 2 _ rfl);have HL:=Zh (ZmO A4 c4 ts2 (h4.pull 1 _ rfl) hp hi (by rw [<-HNT2.o];exact hR4) htl);rw [<-HNT2.o] at HL;have HS4:=Zh (HS2.o.trans s4);clear h4 hR4 s4 HG;go_wp2;refine Zm (And.intro z1 z2) ?_;clear z1 z2;unfold Zr;go_wp2_with fail;refine HL.o.mono ?_;rintro e w5 ⟨I5,S5,J5,s5,rfl,h5,hp5⟩;have H5:=Zh ((h5.pull 2 _ rfl).drop);have HS5:=Zh (HS4.o.trans s5);clear h5 s5 HL;go_wp2;refine Zw ?_;go_wp2;refine Zaj (v:=.tuple #[pointer (some ⟨q,0,none⟩),int i64 0,int i64 (rLead R ts2).1]) (by simp [results,results51,go_sem]) rfl ?_;exact ⟨q,I5,S5,J5,HS5.o,by rw [HT.o],H5.o,by rw [HT.o];exact hp5⟩
 have q11:(what==11)=false:=by simp [k11]
 by_cases k12:what=12
 ·subst k12;have HT:=Zh (show ZU R ⟨12,n,m,off,d,slice Ad d.length cd,ts,slice At ts.length ct,ns,slice An ns.length cn⟩=((if rFits R.c ns R.fill (R.en+1) R.sets.length=true then 1 else 0,0),R) by simp [ZU])
  have HK:=Zh (ZkC (H1.o.pull 1 _ rfl) hp.ok.jb An cn ns (by have:=HF.o;omega) (fun j x hx=>by
   obtain ⟨b,o,e,hc⟩:=HAN.o.cells hx;have:=hc (Hp.sub.refl _) H1.o
   exact ⟨b,o,e,ZfF _ _ this,this⟩))
  rw [<-hp.fits (by omega) (by have:=HF.o;omega)] at HK;obtain ⟨b,hbq⟩:=Zn (rFits R.c ns R.fill (R.en+1) R.sets.length);rw [<-hbq] at HK;have HBQ:=Zh hbq;clear hbq;go_wp2_with fail;refine HK.o.mono ?_;rintro e w2 ⟨rfl,hb2⟩;have H2:=Zh (((H1.o.keep hb2).pull 2 _ rfl).drop);clear hb2 HK;cases b
  case' false=>go_wp2;refine Zaj (v:=.tuple #[pointer (some ⟨q,0,none⟩),int i64 0,int i64 0]) (by simp [results,results51,go_sem]) rfl ?_
  case' true=>go_wp2;refine Zaj (v:=.tuple #[pointer (some ⟨q,0,none⟩),int i64 1,int i64 0]) (by simp [results,results51,go_sem]) rfl ?_
  all_goals exact ⟨q,I,S,J,Hp.sub.refl _,by rw [HT.o,<-HBQ.o];rfl,H2.o,by rw [HT.o];exact hp.later (by omega)⟩
 have q12:(what==12)=false:=by simp [k12]
 have HT:=Zh (show ZU R ⟨what,n,m,off,d,slice Ad d.length cd,ts,slice At ts.length ct,ns,slice An ns.length cn⟩=((0,0),R) by simp [ZU,k0,k1,k2,k3,k4,k5,k6,k7,k8,k9,k10,k11,k12]);go_wp2;refine Zaj (v:=.tuple #[pointer (some ⟨q,0,none⟩),int i64 0,int i64 0]) (by simp [results,results51,go_sem]) rfl ?_;exact ⟨q,I,S,J,Hp.sub.refl _,by rw [HT.o],(H1.o.pull 2 _ rfl).drop,by rw [HT.o];exact hp.later (by omega)⟩
end
section
theorem ZhN (A:Option Addr) (n c:Nat) (l:List Tag) (s:Int) (w:World) (hl:TagsAt w A n l) (hn:n<=1000000) :
  Calls prog 164 #[slice A n c,int i64 s] w fun e w'=>e=.returned (int i64 (tagOf l s))∧w=w':=by
 go_enter func164,ntmps164;go_wp2;go_loop [5,6] (fun v5 v6=>∃ (k:Nat) (m:Int),k<=n∧v6=int i64 k∧v5=int i64 m∧m=tagOf (l.take k) s) (fun _ v6=>n - (intOf v6).toNat);case atStart=>exact ⟨0,0,ZL _,rfl,rfl,rfl⟩
 case round =>
  obtain ⟨k,m,hk,rfl,rfl,hm⟩:=hrel;have HM:=Zh hm;clear hm;by_cases hlt:k<n
  ·obtain ⟨b,off,x,rfl,hB,hx,c0,c1,c2,c3⟩:=hl.at_ hlt
   have HN:=Zh (show tagOf (l.take (k+1)) s=if x.at_<s then x.id else m by
    obtain ⟨hil,he⟩:=ZH.1 hx
    rw [Zc8 hil,he,ZhA,<-HM.o])
   clear hx;by_cases hmx:x.at_<s;all_goals
    go_wp2;go_round;case rel=>exact ⟨k+1,_,by omega,by go_num,rfl,by rw [HN.o];simp [hmx]⟩
    case measure=>simp [intOf]<;>omega
  ·have HE:=Zh (show tagOf l s=m by
    have:=hl.1
    rw [HM.o,Zba (by omega)])
   go_wp2;go_ret;exact ⟨by rw [HE.o];rfl,rfl⟩
theorem ZnF (v:Value) (cs:List Cl) (h:St W I w l) (hv:RowI I 3 v cs.length (cs.flatMap Cl.vals)) (hn:cs.length<=1000000) :
  Calls prog 167 #[v] w fun e w'=>e=.returned (.tuple #[int i64 (slowC cs).1,.bool (slowC cs).2])∧w=w':=by
 have HV:=Zh hv;have H:=Zh h;obtain ⟨A,c,rfl,_⟩:=hv;clear h;go_enter func167,ntmps167;go_wp2;go_loopw [4,5,6] (fun a4 a5 a6 wr=>∃ (i:Nat) (s:Int × Bool),a6=int i64 i∧i<=cs.length∧a4=int i64 s.1∧a5=.bool s.2∧ZdY (cs.take i) (0,false)=s∧wr=w) (fun _ _ a6 _=>cs.length - (intOf a6).toNat);case atStart=>exact ⟨0,(0,false),rfl,ZL _,rfl,rfl,rfl,rfl⟩
 case round =>
  obtain ⟨i,⟨s1,s2⟩,rfl,hi,rfl,rfl,hs,rfl⟩:=hrel;by_cases hlt:i<cs.length
  ·have d0:decide ((i:Int)<(cs.length:Int))=true:=by rw [Zk];omega
   obtain ⟨k,hk⟩:∃ k,cs[i]?=some k:=⟨_,Zy hlt⟩;obtain ⟨b,off,e1,hc⟩:=ZbL (i:=i) HV.o (Hp.sub.refl I) H.o (fun _=>rfl) hk;simp only [Zz,Zap] at e1;subst e1;have y1:=hc 1 (by omega);have y2:=hc 2 (by omega);obtain ⟨kid,kpos,koff⟩:=k;simp only [Cl.vals,Zg,Zi,ZaP] at y1 y2;have hin:(i:Int)<(cs.length:Int):=by omega
   have HN:=Zh (show ZdY (cs.take (i+1)) (0,false)=Zcy (s1,s2) ⟨kid,kpos,koff⟩ by
    obtain ⟨hil,he⟩:=ZH.1 hk
    rw [Zc8 hil,he,Zhk,hs])
   clear hc hk hs;simp only at *;cases koff with
   | true =>
    go_wp2;go_roundw;case rel=>exact ⟨i+1,(s1,s2),by go_num,by omega,rfl,rfl,by rw [HN.o];rfl,trivial⟩
    case measure=>simp [intOf]<;>omega
   | false =>
    cases s2 with
    | false =>
     go_wp2;go_roundw;case rel=>exact ⟨i+1,(kpos,true),by go_num,by omega,rfl,rfl,by rw [HN.o];simp [Zcy],trivial⟩
     case measure=>simp [intOf]<;>omega
    | true =>
     by_cases hp:kpos<s1
     ·have dp:decide (kpos<s1)=true:=Zt hp;have HS:=Zh (show Zcy (s1,true) ⟨kid,kpos,false⟩=(kpos,true) by simp [Zcy,hp]);go_wp2;go_roundw;case rel=>exact ⟨i+1,(kpos,true),by go_num,by omega,rfl,rfl,by rw [HN.o,HS.o],trivial⟩
      case measure=>simp [intOf]<;>omega
     ·have dp:decide (kpos<s1)=false:=Zq hp;have HS:=Zh (show Zcy (s1,true) ⟨kid,kpos,false⟩=(s1,true) by simp [Zcy];omega);go_wp2;go_roundw;case rel=>exact ⟨i+1,(s1,true),by go_num,by omega,rfl,rfl,by rw [HN.o,HS.o],trivial⟩
      case measure=>simp [intOf]<;>omega
  ·obtain rfl:i=cs.length:=by omega
   have d0:decide (((cs.length:Nat):Int)<(cs.length:Int))=false:=by rw [ZT];omega
   rw [ZbJ] at hs;have HS:=Zh (show slowC cs=(s1,s2) from hs);clear hs;go_wp2;go_ret2;rw [HS.o];exact ⟨rfl,rfl⟩
def findC:List Cl->Int->Int->Int
 | [],_,_=>-1
 | c::l,id,i=>if c.id=id then i else findC l id (i+1)
theorem Zkd:∀ (l:List Cl) (id last i:Int),clsGo l last=true->findC l id i=if (Zaf l id).2=true then i+(Zaf l id).1 else -1
 | [],id,last,i,_=>rfl
 | c::l,id,last,i,h=>by
  unfold clsGo at h;simp only [ZR] at h;have ih:=Zkd l id c.id (i+1) h.2;unfold findC Zaf;by_cases q:c.id=id
  ·rw [Zb q,Zb (show id<=c.id by omega)];simp [q]
  ·rw [Za q];by_cases q2:id<=c.id
   ·rw [Zb q2];simp only [Zk];rw [Za q];have hnone:∀ (l:List Cl) (b i:Int),clsGo l b=true->id<=b->findC l id i=-1:=by
     intro l;induction l with
     | nil=>intros;rfl
     | cons x l ih =>
      intro b i hx hb;unfold clsGo at hx;simp only [ZR,Zk] at hx;unfold findC;rw [Za (by omega)];exact ih x.id (i+1) hx.2 (by omega)
    exact hnone l c.id (i+1) h.2 q2
   ·rw [Za q2,ih];simp only;split
    ·push_cast;omega
    ·rfl
theorem Zqj (v:Value) (cs:List Cl) (id:Int) (h:St W I w l) (hv:RowI I 3 v cs.length (cs.flatMap Cl.vals)) (hn:cs.length<=1000000) :
  Calls prog 190 #[v,int i64 id] w fun e w'=>e=.returned (int i64 (findC cs id 0))∧w=w':=by
 have HV:=Zh hv;have H:=Zh h;obtain ⟨A,c,rfl,_⟩:=hv;clear h;go_enter func190,ntmps190;go_wp2;go_loopw [5] (fun a5 wr=>∃ i:Nat,a5=int i64 i∧i<=cs.length∧findC cs id 0=findC (cs.drop i) id i∧wr=w) (fun a5 _=>cs.length - (intOf a5).toNat);case atStart=>exact ⟨0,rfl,ZL _,rfl,rfl⟩
 case round =>
  obtain ⟨i,rfl,hi,hs,rfl⟩:=hrel;by_cases hlt:i<cs.length
  ·have d0:decide ((i:Int)<(cs.length:Int))=true:=by rw [Zk];omega
   obtain ⟨k,hk⟩:∃ k,cs[i]?=some k:=⟨_,Zy hlt⟩;obtain ⟨b,off,e1,hc⟩:=ZbL (i:=i) HV.o (Hp.sub.refl I) H.o (fun _=>rfl) hk;simp only [Zz,Zap] at e1;subst e1;have y0:=hc 0 (by omega);obtain ⟨kid,kpos,koff⟩:=k;simp only [Cl.vals,Zg,ZaP] at y0;have hin:(i:Int)<(cs.length:Int):=by omega
   have hdr:cs.drop i=⟨kid,kpos,koff⟩::cs.drop (i+1):=by
    obtain ⟨hil,he⟩:=ZH.1 hk;rw [ZaS hil,he]
   rw [hdr] at hs;have HS:=Zh (show findC cs id 0=if kid=id then (i:Int) else findC (cs.drop (i+1)) id (i+1) from hs);clear hc hk hs hdr;by_cases q:kid=id
   ·have hq:(kid==id)=true:=by simp [q]
    have HE:=Zh (HS.o.trans (Zb q));subst q;go_wp2;go_ret;rw [HE.o];exact ⟨rfl,rfl⟩
   ·have hq:(kid==id)=false:=by simp [q]
    have HE:=Zh (HS.o.trans (Za q));go_wp2;go_roundw;case rel=>exact ⟨i+1,by go_num,by omega,by rw [HE.o];push_cast;rfl,trivial⟩
    case measure=>simp [intOf]<;>omega
  ·obtain rfl:i=cs.length:=by omega
   have d0:decide (((cs.length:Nat):Int)<(cs.length:Int))=false:=by rw [ZT];omega
   rw [Zex] at hs;have HS:=Zh (show findC cs id 0=-1 from hs);clear hs;go_wp2;go_ret;rw [HS.o];exact ⟨rfl,rfl⟩
theorem Zo5 (v:Value) (cs:List Cl) (h:St W I w l) (hv:RowI I 3 v cs.length (cs.flatMap Cl.vals)) (hr:Zae cs=true) :
  Calls prog 189 #[v] w fun e w'=>e=.returned (.bool true)∧Below w.heap.size w w':=by
 have HV:=Zh hv;have H:=Zh h;obtain ⟨A,c,rfl,_⟩:=hv;clear h;unfold Zae at hr;simp only [ZR,Zk] at hr;obtain ⟨hgo,h4⟩:=hr;have hn4:¬ 4<(cs.length:Int):=by omega
 have HG:=Zh hgo;clear hgo;go_enter func189,ntmps189;go_wp2;go_loopw [3] (fun a3 wr=>∃ (i:Nat) (last:Int),a3=int i64 i∧i<=cs.length∧clsGo (cs.drop i) last=true∧(∀ c,0<i->cs[i - 1]?=some c->c.id=last)∧Below w.heap.size w wr) (fun a3 _=>cs.length - (intOf a3).toNat);case atStart=>exact ⟨0,0,rfl,ZL _,HG.o,fun c h=>by omega,ZI _ _⟩
 case round =>
  obtain ⟨i,last,rfl,hi,hs,hpre,hb⟩:=hrel;by_cases hlt:i<cs.length
  ·have d0:decide ((i:Int)<(cs.length:Int))=true:=by rw [Zk];omega
   obtain ⟨k,hk⟩:∃ k,cs[i]?=some k:=⟨_,Zy hlt⟩;have h2:=H.o.keep hb;obtain ⟨b,off,e1,hc⟩:=ZbL (i:=i) HV.o (Hp.sub.refl I) h2 (fun _=>rfl) hk;simp only [Zz,Zap] at e1;subst e1;have y0:=hc 0 (by omega);have y1:=hc 1 (by omega);obtain ⟨kid,kpos,koff⟩:=k;simp only [Cl.vals,Zg,Zi,ZaP] at y0 y1;have hin:(i:Int)<(cs.length:Int):=by omega
   have hdr:cs.drop i=⟨kid,kpos,koff⟩::cs.drop (i+1):=by
    obtain ⟨hil,he⟩:=ZH.1 hk;rw [ZaS hil,he]
   rw [hdr] at hs;unfold clsGo mayC at hs;simp only [ZR,Zk] at hs;obtain ⟨⟨⟨m1,m2,m3,m4⟩,hl1⟩,hgo⟩:=hs;have HGO:=Zh hgo
   have HN:=Zh (show ∀ c,0<i+1->cs[i+1 - 1]?=some c->c.id=kid from fun c _ hc=>by
    rw [ZiV,hk] at hc;injection hc with hc
    rw [<-hc])
   have d1:decide (kid<1)=false:=Zq (by omega);have d2:decide (1073741824<kid)=false:=Zq (by omega);have d3:decide (kpos<0)=false:=Zq (by omega);have d4:decide (1099511627776<kpos)=false:=Zq (by omega);have HB:=Zh hb;cases i with
   | zero =>
    have d5:decide ((0:Int)<0)=false:=rfl;simp only [ZcE,ZaP,ZX,Int.ofNat_zero,Int.natCast_zero] at *;clear hc hk hdr hgo hpre h2 hb;go_upto_region 6 with fail;go_quiet (fail);go_wp2;go_roundw;case rel=>exact ⟨0+1,kid,by go_num,by omega,HGO.o,HN.o,HB.o.trans ⟨rfl,rfl,rfl,ZC _,fun _ _=>rfl⟩⟩
    case measure=>simp [intOf]<;>omega
   | succ j =>
    obtain ⟨x,hx⟩:∃ x,cs[j]?=some x:=⟨_,Zy (by omega)⟩;have hxl:=hpre x (by omega) (by simpa using hx);obtain ⟨b',off',e1',hc'⟩:=ZbL (i:=j) HV.o (Hp.sub.refl I) h2 (fun _=>rfl) hx;simp only [Zz,Zap,Zaa,Addr.mk.injEq] at e1';obtain ⟨rfl,rfl⟩:=e1';have z0:=hc' 0 (by omega);simp only [Cl.vals,Zg,ZaP] at z0;have d5:decide ((0:Int)<((j+1:Nat):Int))=true:=by rw [Zk];omega
    have w5:IntKind.i64.wrap (((j+1:Nat):Int) - 1)=(j:Int):=by rw [Zx];omega
    obtain ⟨xid,hxi⟩:=Zn x.id;rw [<-hxi] at z0 hxl;have d6:decide (kid<=xid)=false:=Zq (by omega);have hj:j<cs.length:=by omega
    have hj1:(j:Int)<(cs.length:Int):=by omega
    clear hc hk hdr hgo hpre h2 hb hc' hx hxi;go_upto_region 6 with fail;go_quiet (fail);go_wp2;go_roundw;case rel=>exact ⟨j+1+1,kid,by go_num,by omega,HGO.o,HN.o,HB.o.trans ⟨rfl,rfl,rfl,ZC _,fun _ _=>rfl⟩⟩
    case measure=>simp [intOf]<;>omega
  ·obtain rfl:i=cs.length:=by omega
   have d0:decide (((cs.length:Nat):Int)<(cs.length:Int))=false:=by rw [ZT];omega
   have HB:=Zh hb;clear hs hpre hb;go_wp2;go_ret;exact ⟨rfl,HB.o⟩
end
theorem RowI.suf {I:Hp} {s n c g o:Nat} {xs:List Value} (h:RowI I s (slice (some ⟨g,o,none⟩) n c) n xs) {k:Nat} (hk:k<=n):RowI I s (slice (some ⟨g,o+k*s,none⟩) (n - k) (c - k)) (n - k) (xs.drop (k*s)):=by
 obtain ⟨A,c',e,h2,h3,h4,h5,h6⟩:=h;simp only [Zz,ZaR] at e;obtain ⟨rfl,rfl⟩:=e;refine ⟨_,_,rfl,?_,by omega,by omega,(fun e=>by cases e),fun hn=>?_⟩
 ·rw [ZW,h2,ZfM]
 ·obtain ⟨b,off,cs,t,f,e1,e2,e3⟩:=h6 (by omega);simp only [Zaa,Addr.mk.injEq,Zap] at e1;obtain ⟨rfl,rfl⟩:=e1;refine ⟨_,_,cs,t,f,rfl,e2,fun i y hy=>?_⟩;rw [Zbw] at hy;rw [Zbb];exact e3 _ y hy
theorem RowI.pre {I:Hp} {s n c:Nat} {A:Option Addr} {xs:List Value} (h:RowI I s (slice A n c) n xs) {k:Nat} (hk:k<=n):RowI I s (slice A k c) k (xs.take (k*s)):=by
 obtain ⟨A',c',e,h2,h3,h4,h5,h6⟩:=h;simp only [Zz,ZaR] at e;obtain ⟨rfl,rfl⟩:=e;refine ⟨_,_,rfl,?_,by omega,h4,h5,fun hn=>?_⟩
 ·rw [ZJ,h2];exact ZcJ (Zdb _ hk)
 ·obtain ⟨b,off,cs,t,f,e1,e2,e3⟩:=h6 (by omega);refine ⟨_,_,cs,t,f,e1,e2,fun i y hy=>?_⟩;rw [ZcG] at hy;split at hy
  ·exact e3 _ y hy
  ·cases hy
end Go.Proofs.YtpjchngjhijgmaaGreat
