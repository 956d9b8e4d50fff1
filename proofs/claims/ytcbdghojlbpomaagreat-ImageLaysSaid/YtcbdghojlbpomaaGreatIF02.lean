import Derived.Laws.CopyOwn
import Derived.Deep.RegionLaw
import Derived.Lib.Overlaps
import Derived.Test.YtcbdghojlbpomaaGreatIF01
set_option linter.all false
set_option maxRecDepth 4000
set_option maxHeartbeats 8000000
open Go.RowKit
open Go.IntKind (i64 u64)
open Go.Value (int pointer slice)
open Go.Obj (cells)
namespace Go.Proofs.YtcbdghojlbpomaaGreat
open Tryz
open HP (pt mapOf)
variable {W w w':World} {I:Hp} {l:List HP}
def kflat (l:List K4):List Value:=l.flatMap K4.vals
theorem Zbm:∀ l:List K4,(kflat l).length=l.length*4
 | []=>rfl
 | t::l=>by
  have:=Zbm l;simp only [kflat,ZaJ,ZA,Zat] at this |-;simp only [K4.vals,Zat,ZaH];omega
theorem ZjI:∀ (l:List K4) (i j:Nat),j<4->(kflat l)[i*4+j]?=(l[i]?).bind fun t=>t.vals[j]?
 | [],i,j,_=>by simp [kflat]
 | t::l,0,j,h=>by
  have hv:t.vals.length=4:=rfl;simp only [kflat,ZaJ,Zb0,Zar,Zg,Option.bind_some];rw [Zda (by omega)]
 | t::l,i+1,j,h=>by
  have hv:t.vals.length=4:=rfl;have:=ZjI l i j h;simp only [kflat,ZaJ,Zi] at this |-;rw [ZdF (by omega),hv,show (i+1)*4+j - 4=i*4+j by omega,this]
theorem add_plain (b off j:Nat):(⟨b,off,none⟩:Addr).add j=⟨b,off+j,none⟩:=by
 unfold Addr.add;split
 ·subst j;rfl
 ·rfl
theorem Zdq {w:World} {base:Nat} {e:TypeId} {g n c:Nat} {ks:List K4} (h:w.ownsRow base e 4 (slice (some ⟨g,0,none⟩) n c) n (kflat ks)) {k:Nat} {t:K4} (hk:ks[k]?=some t) (j:Nat) (hj:j<4):w.cell? ⟨g,k*4+j,none⟩=t.vals[j]?:=by
 have h1:=ZjI ks k j hj;rw [hk,Option.bind_some] at h1;have hv:j<t.vals.length:=hj;rw [ZL hv] at h1 |-;have:=h.cells (g:=g) rfl _ _ h1;rwa [add_plain,Zar] at this
theorem Zf5 {a b:Int}:cmpI a b<0↔a<b:=by unfold cmpI;split <;> (try split) <;> omega
theorem Zdm {a b:Int}:cmpI a b=0↔a=b:=by unfold cmpI;split <;> (try split) <;> omega
theorem Zkt (x:Int) (l:List Int):orI (x::l)=if x=0 then orI l else x:=by
 rw [orI];by_cases h:x=0 <;> simp [h]
theorem Zoc {a b:K4}:cmpK a b=0↔a=b:=by
 obtain ⟨a0,a1,a2,a3⟩:=a;obtain ⟨b0,b1,b2,b3⟩:=b;simp only [cmpK,Zkt,K4.mk.injEq];have e0:=@Zdm a0 b0;have e1:=@Zdm a1 b1;have e2:=@Zdm a2 b2;have e3:=@Zdm a3 b3;split
 ·split
  ·split
   ·split
    ·simp only [orI,true_iff];exact ⟨e0.1 ‹_›,e1.1 ‹_›,e2.1 ‹_›,e3.1 ‹_›⟩
    ·constructor
     ·intro h;exact absurd h ‹_›
     ·intro h;exact absurd (e3.2 h.2.2.2) ‹_›
   ·constructor
    ·intro h;exact absurd h ‹_›
    ·intro h;exact absurd (e2.2 h.2.2.1) ‹_›
  ·constructor
   ·intro h;exact absurd h ‹_›
   ·intro h;exact absurd (e1.2 h.2.1) ‹_›
 ·constructor
  ·intro h;exact absurd h ‹_›
  ·intro h;exact absurd (e0.2 h.1) ‹_›
theorem Zq8 {a b:K4}:cmpK a b<0↔a.lt b=true:=by
 obtain ⟨a0,a1,a2,a3⟩:=a;obtain ⟨b0,b1,b2,b3⟩:=b;simp only [cmpK,Zkt,K4.lt,Ze];have e0:=@Zdm a0 b0;have e1:=@Zdm a1 b1;have e2:=@Zdm a2 b2;have e3:=@Zdm a3 b3;have n0:=@Zf5 a0 b0;have n1:=@Zf5 a1 b1;have n2:=@Zf5 a2 b2;have n3:=@Zf5 a3 b3;generalize cmpI a0 b0=c0 at *;generalize cmpI a1 b1=c1 at *;generalize cmpI a2 b2=c2 at *;generalize cmpI a3 b3=c3 at *;split
 ·split
  ·split
   ·split
    ·simp only [orI];omega
    ·omega
   ·omega
  ·omega
 ·omega
def Za6 (ks:List K4):Prop:=ks.Pairwise fun a b=>a.lt b=true
theorem ZjJ {a b c:K4} (h:a.lt b=true) (k:b.lt c=true):a.lt c=true:=by
 simp only [K4.lt,Ze] at *;omega
theorem ZgZ {ks:List K4} (h:Za6 ks) {i j:Nat} {a b:K4} (hi:ks[i]?=some a) (hj:ks[j]?=some b) (hij:i<j):a.lt b=true:=by
 obtain ⟨h1,rfl⟩:=ZS.1 hi;obtain ⟨h2,rfl⟩:=ZS.1 hj;exact Zia.1 h i j h1 h2 hij
theorem Zod {ks:List K4} (hr:Za6 ks) {m:Nat} {t k:K4} (ht:ks[m]?=some t) (h:t.lt k=true):∀ q a,q<m+1->ks[q]?=some a->a.lt k=true:=fun q a hq ha=>by
 rcases Nat.lt_or_ge q m with h1|h1
 ·exact ZjJ (ZgZ hr ha ht h1) h
 ·obtain rfl:q=m:=by omega
  rw [ht] at ha;cases ha;exact h
theorem Zoe {ks:List K4} (hr:Za6 ks) {m:Nat} {t k:K4} (ht:ks[m]?=some t) (h:t.lt k=false):∀ q a,m<=q->ks[q]?=some a->a.lt k=false:=fun q a hq ha=>by
 rw [Zeu];intro h2;rcases Nat.lt_or_ge m q with h1|h1
 ·rw [ZjJ (ZgZ hr ht ha h1) h2] at h;cases h
 ·obtain rfl:m=q:=by omega
  rw [ht] at ha;cases ha;rw [h] at h2;cases h2
structure Place (ks:List K4) (k:K4) (i:Nat):Prop where
 le:i<=ks.length
 below:∀ j a,j<i->ks[j]?=some a->a.lt k=true
 above:∀ j a,i<=j->ks[j]?=some a->a.lt k=false
section
theorem Zfv {v:Value} {ks:List K4} (k:K4) (h:St W I w (Z6 v ks::l)) (hn:ks.length<=1000000) (hr:Za6 ks) :
  Calls prog 198 #[v,k.val,.func (.func 126) #[] #[]] w fun e w'=>Below w.heap.size w w'∧∃ i:Nat,Place ks k i∧e=.returned (.tuple #[int i64 i,.bool (decide (ks[i]?=some k))]):=by
 have hown:=h.row_owns;obtain ⟨A,c,rfl⟩:=ZD hown;have HO:=Zh hown;have HR:=Zh hr;clear h hown hr;obtain ⟨k0,k1,k2,k3⟩:=k;unfold K4.val;go_enter func198,ntmps198;go_wp2;go_loopw [9,10] (fun v9 v10 wr=>∃ i j:Nat,v9=int i64 i∧v10=int i64 j∧i<=j∧j<=ks.length∧(∀ q a,q<i->ks[q]?=some a->a.lt ⟨k0,k1,k2,k3⟩=true)∧(∀ q a,j<=q->ks[q]?=some a->a.lt ⟨k0,k1,k2,k3⟩=false)∧Below (w.heap.size+1) (w.alloc (cells #[int i64 k0,int i64 k1,int i64 k2,int i64 k3] 150)) wr) (fun v9 v10 _=>(intOf v10).toNat - (intOf v9).toNat);case atStart=>exact ⟨0,ks.length,rfl,rfl,by omega,by omega,by simp,(fun q a h h2=>by rw [Zb1 h] at h2;cases h2),ZR _ _⟩
 case round =>
  obtain ⟨i,j,rfl,rfl,hij,hj,hlo,hhi,hb⟩:=hrel;have HL:=Zh hlo;have HH:=Zh hhi;have HB:=Zh hb;clear hlo hhi hb;by_cases hlt:i<j
  ·obtain ⟨m,hm⟩:∃ m:Nat,m=(i+j) / 2:=⟨_,rfl⟩;have hmI:((i:Int)+(j:Int)) / 2=(m:Int):=by omega
   have hmn:m<ks.length:=by omega
   have hmI2:(m:Int)<(ks.length:Int):=by omega
   obtain ⟨g,rfl⟩:∃ g,A=some ⟨g,0,none⟩:=by
    rcases HO.o.2 with ⟨_,e2⟩|⟨g,cap,cur,e1,_⟩
    ·omega
    ·cases e1;exact ⟨g,rfl⟩
   obtain ⟨t,ht⟩:∃ t,ks[m]?=some t:=⟨_,ZL hmn⟩;have HT:=Zh ht;have hgl:g<w.heap.size:=(HO.o.lt g rfl).2;have cw:∀ o,wr.cell? ⟨g,o,none⟩=w.cell? ⟨g,o,none⟩:=fun o=>(HB.o.cell (p:=⟨g,o,none⟩) (by simp;omega)).trans (World.cell?_alloc_lt w _ _ hgl);have t0:=(cw _).trans (Zdq HO.o ht 0 (by omega));have t1:=(cw _).trans (Zdq HO.o ht 1 (by omega));have t2:=(cw _).trans (Zdq HO.o ht 2 (by omega));have t3:=(cw _).trans (Zdq HO.o ht 3 (by omega));have hk:wr.heap[w.heap.size]?=some (cells #[int i64 k0,int i64 k1,int i64 k2,int i64 k3] 150):=(HB.o.block _ (by omega)).trans (Zbh _ _);have x0:=Zc hk 0;have x1:=Zc hk 1;have x2:=Zc hk 2;have x3:=Zc hk 3;simp [K4.vals] at t0 t1 t2 t3 x0 x1 x2 x3;have HM:=Zh hm;clear cw ht hk hm;obtain ⟨s0,s1,s2,s3⟩:=t;simp only at t0 t1 t2 t3;go_wp2_with fail
   go_region_with (go_at_call 126
                   refine (ZjH ⟨s0,s1,s2,s3⟩ ⟨k0,k1,k2,k3⟩ _).mono ?_
                   rintro e w4 ⟨rfl,hb4⟩)
   all_goals
    have hb5:=HB.o.drew.trans (hb4.mono (by have:=HB.o.size;simp at this |-;omega));have HB5:=Zh hb5;clear hb4 hb5 t0 t1 t2 t3 x0 x1 x2 x3 hgl;by_cases hc:cmpK ⟨s0,s1,s2,s3⟩ ⟨k0,k1,k2,k3⟩<0
    ·have HC:=Zh hc;go_wp2;go_roundw;case rel=>exact ⟨m+1,j,by go_num,rfl,by have:=HM.o;omega,hj,Zod HR.o HT.o (Zq8.1 HC.o),HH.o,HB5.o⟩
     case measure=>simp [intOf]<;>omega
    ·have HC:=Zh hc;go_wp2;go_roundw;case rel=>exact ⟨i,m,rfl,by go_num,by have:=HM.o;omega,by omega,HL.o,Zoe HR.o HT.o (by rw [Zeu];exact fun h=>HC.o (Zq8.2 h)),HB5.o⟩
     case measure=>simp [intOf]<;>omega
  ·obtain rfl:i=j:=by omega
   have HPl:=Zh (show Place ks ⟨k0,k1,k2,k3⟩ i from ⟨hj,HL.o,HH.o⟩);have hbw:Below w.heap.size w wr:=(ZM _ _).trans (HB.o.mono (by omega));have HBW:=Zh hbw;by_cases hin:i<ks.length
   ·have hinI:(i:Int)<(ks.length:Int):=by omega
    have hd:decide ((i:Int)<(ks.length:Int))=true:=by simpa using hin
    obtain ⟨g,rfl⟩:∃ g,A=some ⟨g,0,none⟩:=by
     rcases HO.o.2 with ⟨_,e2⟩|⟨g,cap,cur,e1,_⟩
     ·omega
     ·cases e1;exact ⟨g,rfl⟩
    obtain ⟨t,ht⟩:∃ t,ks[i]?=some t:=⟨_,ZL hin⟩;have HT:=Zh ht;have hgl:g<w.heap.size:=(HO.o.lt g rfl).2;have cw:∀ o,wr.cell? ⟨g,o,none⟩=w.cell? ⟨g,o,none⟩:=fun o=>hbw.cell (p:=⟨g,o,none⟩) hgl;have t0:=(cw _).trans (Zdq HO.o ht 0 (by omega));have t1:=(cw _).trans (Zdq HO.o ht 1 (by omega));have t2:=(cw _).trans (Zdq HO.o ht 2 (by omega));have t3:=(cw _).trans (Zdq HO.o ht 3 (by omega));have hk:wr.heap[w.heap.size]?=some (cells #[int i64 k0,int i64 k1,int i64 k2,int i64 k3] 150):=(HB.o.block _ (by omega)).trans (Zbh _ _);have x0:=Zc hk 0;have x1:=Zc hk 1;have x2:=Zc hk 2;have x3:=Zc hk 3;simp [K4.vals] at t0 t1 t2 t3 x0 x1 x2 x3;clear cw ht hk hbw;obtain ⟨s0,s1,s2,s3⟩:=t;simp only at t0 t1 t2 t3;go_wp2_with fail;have hww:Below wr.heap.size wr wr:=ZR _ _;have hlt1:w.heap.size<wr.heap.size:=by have:=HB.o.size;simp at this;omega
    have hlt2:g<wr.heap.size:=by omega
    clear hgl
    go_region_held3 (fun w'=>w'.cell? ⟨g,i*4,none⟩=some (int i64 s0)∧w'.cell? ⟨g,i*4+1,none⟩=some (int i64 s1)∧w'.cell? ⟨g,i*4+2,none⟩=some (int i64 s2)∧w'.cell? ⟨g,i*4+3,none⟩=some (int i64 s3) ∧
      w'.cell? ⟨w.heap.size,0,none⟩=some (int i64 k0)∧w'.cell? ⟨w.heap.size,1,none⟩=some (int i64 k1)∧w'.cell? ⟨w.heap.size,2,none⟩=some (int i64 k2)∧w'.cell? ⟨w.heap.size,3,none⟩=some (int i64 k3))
     (first
       | go_keep
       |(go_split_ands
         refine ⟨?_,?_,?_,?_,?_,?_,?_,?_⟩ <;> (rw [hb4.cell (by first|exact hlt1|exact hlt2)];assumption))
       | fail)
     (first
       |(go_at_call 126
         refine (ZjH ⟨s0,s1,s2,s3⟩ ⟨k0,k1,k2,k3⟩ _).mono ?_
         rintro e w4 ⟨rfl,hb4⟩)
       | fail)
    all_goals
     have HB5:=Zh (HBW.o.drew.trans (hb4.mono (by have:=HBW.o.size;simp at this |-;omega)));clear hb4 t0 t1 t2 t3 x0 x1 x2 x3;go_wp2;go_ret2;refine ⟨HB5.o,i,HPl.o,?_⟩;have e1:(cmpK ⟨s0,s1,s2,s3⟩ ⟨k0,k1,k2,k3⟩==0)=decide (ks[i]?=some ⟨k0,k1,k2,k3⟩):=by
      rw [HT.o,Zai,beq_iff_eq,Zoc,Ze,Zah]
     rw [<-e1];simp
   ·have hd:decide ((i:Int)<(ks.length:Int))=false:=by simp;omega
    have hno:ks[i]?=none:=Zb1 (by omega);clear hbw;go_wp2_with fail;go_quiet (fail);go_wp2;go_ret2;refine ⟨below_drewN HBW.o _,i,HPl.o,?_⟩;rw [hno];simp
end
section
variable {v : Value}
theorem Zqi:(prog.info? 5).map (fun i=>(i.zero,i.size,i.bytes))=some (some (int .u8 0),1,1):=by kernel_rfl
theorem ZfQ {w:World} {g:Nat} {cur cs:Array Value} {t:TypeId} {f:Nat × Nat} (h:St W I w (pt g (cells cur t f)::l)):St W I (w.setRow g cs) (pt g (cells cs t f)::l) :=
 h.write rfl rfl rfl (setRow_heap w g cur cs t f h.heap) fun c _ hc=>setRow_other w g c cs hc
theorem Zof {α:Type} {cur:List α} {n off:Nat} {cs:List α} (h:off+cs.length<=n) :
  (cur.take off++(cs++cur.drop (off+cs.length))).take n=(cur.take n).take off++(cs++(cur.take n).drop (off+cs.length))∨cur.length<off:=by
 by_cases hc:cur.length<off
 ·exact .inr hc
 ·left;have e1:(cur.take off).length=off:=by rw [ZN];omega
  rw [Zfl,e1,Zev,Zev,Zfl,List.drop_take,Zew (l:=cs) (by omega)];rw [show min n off=off by omega,show min off n=off by omega,show n - off - cs.length=n - (off+cs.length) by omega]
theorem Zku {P:Program} {e:TypeId} {g n cap off:Nat} {xs cs:List Value} (h:St W I w (HP.row e 1 (slice (some ⟨g,0,none⟩) n cap) n xs::l)) (hoff:off+cs.length<=n)
  {dT sT ty:TypeId} (hu:P.underlying dT=some (.slice e)) (hs:(P.info? e).map (·.size)=some 1) (hsrc:SliceSrc w 1 v cs.length cs) (dCap:Nat) :
  ∃ w',(Builtin.copy_ #[dT,sT] ty #[slice (some ⟨g,off,none⟩) (n - off) dCap,v]).run P w=.ok (goInt cs.length) w'∧w'.heap.size=w.heap.size ∧
   St W I w' (HP.row e 1 (slice (some ⟨g,0,none⟩) n cap) n (xs.take off++(cs++xs.drop (off+cs.length)))::l):=by
 obtain ⟨A,k,rfl,hsrc,_⟩:=hsrc;obtain ⟨hl,p⟩:=h.row_open;rcases p with ⟨e1,_⟩|⟨g',cap',cur,e1,p3,p4,p5,p6,s⟩
 ·cases e1
 ·simp only [ZF,Zah,Addr.mk.injEq,Zae,ZK] at e1;obtain ⟨rfl,rfl⟩:=e1;have hcl:cur.toList.length=cap:=by simpa using p5
  have hst:St W I (w.setRow g (cur.toList.take off++(cs++cur.toList.drop (off+cs.length))).toArray) (HP.row e 1 (slice (some ⟨g,0,none⟩) n cap) n (xs.take off++(cs++xs.drop (off+cs.length)))::l):=by
   refine (ZfQ s).row_shut ?_ p3 p4 ?_ ?_
   ·rw [<-p6];simp only [ZA,ZN,Zas];omega
   ·simp only [Zc7,ZA,ZN,Zas];omega
   ·simp only [ZaT] at p6 |-;rcases Zof (cur:=cur.toList) hoff with h1|h1
    ·rw [h1,p6]
    ·omega
  have hmin:cs.length=Nat.min cs.length (n - off):=(Zex (by omega)).symm;rcases Zbf cs.length with h0|h0
  ·have hc:cs=[]:=ZbZ h0;subst hc;refine ⟨w,run_copy_none w dT sT ty e _ _ _ _ _ _ hu hs (by simp),rfl,?_⟩;simpa using h
  ·obtain ⟨ad,rfl,hc⟩:=hsrc.cells h0;have hr:=run_copy_row (P:=P) w dT sT ty e g off (n - off) dCap ad cs.length k cur e cs hu hs s.heap hmin hc (by rw [p5];omega) hsrc.one;rw [Zam] at hr;exact ⟨_,hr,by simp [World.setRow],hst⟩
theorem Zqj {b p:List Int} {off:Nat} (hz:¬ p=[]) (h:off+p.length<=b.length):(b.map byteV).take off++(p.map byteV++(b.map byteV).drop (off+p.length))=(layB b off p).map byteV:=by
 unfold layB;rw [Za hz,show off+p.length - b.length=0 by omega];simp
theorem ZpA {b p:List Int} {off:Nat} (hz:¬ p=[]) (h:b.length<=off+p.length):(b.map byteV++List.replicate (off+p.length - b.length) (int .u8 0)).take off++(p.map byteV++(b.map byteV++List.replicate (off+p.length - b.length) (int .u8 0)).drop (off+p.length))=(layB b off p).map byteV:=by
 unfold layB;rw [Za hz];have e:(int .u8 0)=byteV 0:=rfl;rw [e,<-Zgq,<-Z4,<-ZcR,<-Zdb,<-Z4,<-Z4];congr 1;rw [Zam,ZcS (l:=b) h,ZcS (by simp;omega)]
theorem ZgN {b p:List Int} {off:Nat}:(layB b off p).length=if p=[] then b.length else max b.length (off+p.length):=by
 unfold layB;split
 ·rfl
 ·simp only [ZA,ZN,Za7,Zas];omega
theorem ZpB {pv:Value} {t:TS} {p:List Int} {off:Nat} (h:St W I w (Zv v t::l)) (hp:Zw I pv p) (ho:off+p.length<=1000000) (ht:t.b.length<=1000000) :
  Calls prog 228 #[v,int i64 off,pv] w fun e w'=>e=.returned (.tuple #[])∧St W I w' (Zv v { t with b:=layB t.b off p }::l):=by
 obtain ⟨b,m,vb,rfl,hs⟩:=h.thing_open;clear h;have h:=hs;clear hs;have hlt:=h.lt;have c0:=Zc h.heap 0;simp at c0;have hown:=(h.pull 1 _ rfl).row_owns;have hsrc:=ZbT h hp;obtain ⟨A0,k0,rfl⟩:=ZD hown;have HB:=Zh hp;obtain ⟨A1,k1,rfl,_⟩:=hp;have H:=Zh h;have HX:=Zh hsrc;have HO:=Zh hown;clear h hsrc hown;by_cases hz:p=[]
 ·subst hz;go_enter func228,ntmps228;go_wp2;exact ZaK (v:=.tuple #[]) (by simp [results,results228,go_sem]) rfl ⟨rfl,H.o.thing_shut (t:={ t with b:=layB t.b off [] })⟩
 ·have hpos:0<p.length:=by
   rcases Zbf p.length with h|h
   ·exact absurd (ZbZ h) hz
   ·exact h
  have hne:(((p.length:Nat):Int)==0)=false:=by simp;omega
  have hlp:∀ xs:List Value,xs.length=off+p.length->∀ g cap:Nat,True:=fun _ _ _ _=>trivial;clear hlp;by_cases hg:t.b.length<off+p.length
  ·go_enter func228,ntmps228;have f0:=frozen_of_row H.o.heap 0;have hgd:decide (((t.b.length:Nat):Int)<(off:Int)+(p.length:Int))=true:=by simp;omega
   have hw:IntKind.i64.wrap ((off:Int)+(p.length:Int) - (t.b.length:Int))=((off+p.length - t.b.length:Nat):Int):=by rw [Z2];omega
   obtain ⟨i0,hi0,hz0,hz1,hz2⟩:=info_parts Zqi;have hmx:t.b.length+(off+p.length - t.b.length)<=maxLen:=by simp only [maxLen];omega
   go_wp2_with fail
   go_region_law (refine ZlF w.drew (by rfl) (.tmp 25) (.tmp 32) 32 3 (by rfl) 0 5 i0 (int .u8 0) i64 i64 underlying32 underlying3 hi0 hz0 hz1 hz2 rfl rfl (slice A0 t.b.length k0) t.b.length (t.b.map byteV) (by rfl) (show w.drew.ownsRow 0 5 1 (slice A0 t.b.length k0) t.b.length (t.b.map byteV) from HO.o) (off+p.length - t.b.length) (by rfl) hmx (by omega) (ZaY _) ?_
                  intro v5 w5 ho5 hg5 hv5;have hg6:w.grownBy w5 (Value.ownBlock (slice A0 t.b.length k0)):=⟨hg5.os,hg5.tape,hg5.output,hg5.size,hg5.block⟩;have h6:=(H.o.pull 1 _ rfl).row_grown ho5 hg6 hv5;obtain ⟨A5,k5,rfl⟩:=ZD ho5;have h7:=h6.pull 1 _ rfl;have c6:=Zc h7.heap 0;have f6:=frozen_of_row h7.heap 0;have l6:=h7.lt;simp at c6;have H7:=Zh h7;have HO5:=Zh ho5
                  clear h6 h7 ho5 hg5 hg6 hv5)
   all_goals
    have e1:t.b.length+(off+p.length - t.b.length)=off+p.length:=by omega
    rw [e1] at H7 HO5;rw [e1];obtain ⟨g5,rfl,hk5⟩:∃ g,A5=some ⟨g,0,none⟩∧off+p.length<=k5:=by
     rcases HO5.o.2 with ⟨_,e2⟩|⟨g,cap,cur,e1,_,_,h1,_⟩
     ·omega
     ·cases e1;exact ⟨g,rfl,h1⟩
    have h8:St W I (w5.setCell ⟨b,0,none⟩ (slice (some ⟨g5,0,none⟩) (off+p.length) k5)) (pt b (cells #[slice (some ⟨g5,0,none⟩) (off+p.length) k5,.map (some m)] 218)::HP.row 5 1 (slice (some ⟨g5,0,none⟩) (off+p.length) k5) (off+p.length) (t.b.map byteV++List.replicate (off+p.length - t.b.length) (int .u8 0))::mapOf Zaf ZaL m t.attr::l):=H7.o.setCell 0 _;have hko:off<k5:=by omega
    have hX:SliceSrc (w5.setCell ⟨b,0,none⟩ (slice (some ⟨g5,0,none⟩) (off+p.length) k5)) 1 (slice A1 p.length k1) p.length (p.map byteV):=ZbT h8 HB.o;have c8:=Zc h8.heap 0;obtain ⟨w2,hrun,_,hst⟩:=Zku (P:=prog) (cs:=p.map byteV) (off:=off) (h8.pull 1 _ rfl) (by simp) (dT:=32) (sT:=32) (ty:=3) underlying32 (by kernel_rfl) (by simpa using hX) (k5 - off);have l8:=h8.lt;simp only [ZE] at hrun hst;rw [ZpA hz (Nat.le_of_lt hg)] at hst;rw [show off+p.length - off=p.length by omega] at hrun;have HST:=Zh hst;clear hst h8 hX H7 HO5 c0 f0 f6 l6 c6;generalize w5.setCell ⟨b,0,none⟩ (slice (some ⟨g5,0,none⟩) (off+p.length) k5)=w6 at *;simp at c8;go_wp2_with fail
    go_end0
    refine ⟨rfl,?_⟩;have h9:=HST.o.perm (m:=pt b (cells #[slice (some ⟨g5,0,none⟩) (off+p.length) k5,.map (some m)] 218)::HP.row 5 1 (slice (some ⟨g5,0,none⟩) (off+p.length) k5) (off+p.length) ((layB t.b off p).map byteV)::mapOf Zaf ZaL m t.attr::l) (by ((try simp only [Zx,Zy,ZZ,ZP]);repeat (first|with_reducible exact Zad _|(apply Zaq;(· repeat (first|with_reducible exact Zap|with_reducible apply Zao))))));have hlen:(layB t.b off p).length=off+p.length:=by
     have:=(h9.pull 1 _ rfl).row_len;simpa using this
    rw [<-hlen] at h9;exact h9.thing_shut (t:={ t with b:=layB t.b off p })
  ·have hgi:(((t.b.length:Nat):Int)<(off:Int)+(p.length:Int))=False:=by simp;omega
   have hgd:decide (((t.b.length:Nat):Int)<(off:Int)+(p.length:Int))=false:=by simp;omega
   obtain ⟨g,rfl,hk⟩:∃ g,A0=some ⟨g,0,none⟩∧t.b.length<=k0:=by
    rcases HO.o.2 with ⟨_,e2⟩|⟨g,cap,cur,e1,_,_,h1,_⟩
    ·omega
    ·cases e1;exact ⟨g,rfl,h1⟩
   have hko:off<k0:=by omega
   obtain ⟨w2,hrun,_,hst⟩:=Zku (P:=prog) (cs:=p.map byteV) (off:=off) (H.o.pull 1 _ rfl) (by simp;omega) (dT:=32) (sT:=32) (ty:=3) underlying32 (by kernel_rfl) (by simpa using HX.o) (k0 - off);simp only [ZE] at hrun hst;have HST:=Zh hst;clear hst;go_enter func228,ntmps228;go_wp2_with fail
   go_end0
   refine ⟨rfl,?_⟩;rw [Zqj hz (Nat.le_of_not_lt hg)] at HST;have h8:=HST.o.perm (m:=pt b (cells #[slice (some ⟨g,0,none⟩) t.b.length k0,.map (some m)] 218)::HP.row 5 1 (slice (some ⟨g,0,none⟩) t.b.length k0) t.b.length ((layB t.b off p).map byteV)::mapOf Zaf ZaL m t.attr::l) (by ((try simp only [Zx,Zy,ZZ,ZP]);repeat (first|with_reducible exact Zad _|(apply Zaq;(· repeat (first|with_reducible exact Zap|with_reducible apply Zao))))));have hlen:(layB t.b off p).length=t.b.length:=by
    have:=(h8.pull 1 _ rfl).row_len;simpa using this
   rw [<-hlen] at h8;exact h8.thing_shut (t:={ t with b:=layB t.b off p })
end
section
variable {P : Program}
variable {v : Value}
theorem ZlH {ops:Array Oper} {o:Oper} {a:Act} {K:Act->World->Prop} {Q:Exit->Act->World->Prop} {E:Prop} (hgd:o.guard=none) (s x:Operand) (t tn:TypeId)
  (ho:o.op=.call { callee:=.builtin .append,args:=#[s,x],argTypes:=#[t,tn] }) (vs vx:Value) (hs:a.eval s=vs) (hx:a.eval x=vx) (v':Value) (w':World)
  (hr:(Builtin.append_ #[t,tn] o.type #[vs,vx]).run P w=.ok v' w') (h:K (a.put o.dst v') w'):if Region.wanted o (yielded ops a.tmps)=true then Oper.wp P o a w K Q else E:=by
 rw [Zb (by simp [Region.wanted,hgd])];exact Lib.wp_append_run w s x t tn ho vs vx hs hx v' w' hr h
end
section
theorem ZfC (ks:List K4) (i:Nat):(kflat ks).take (i*4)=kflat (ks.take i):=by
 induction ks generalizing i with
 | nil=>simp [kflat]
 | cons t ks ih =>
  cases i with
  | zero=>simp [kflat]
  | succ i =>
   have:=ih i;simp only [kflat,ZaJ,List.take_succ_cons] at this |-;rw [Zfl,show t.vals.length=4 from rfl,Zew (by show 4<=_;omega),show (i+1)*4 - 4=i*4 by omega,this]
theorem Zg0 (ks:List K4) (i:Nat):(kflat ks).drop (i*4)=kflat (ks.drop i):=by
 induction ks generalizing i with
 | nil=>simp [kflat]
 | cons t ks ih =>
  cases i with
  | zero=>simp [kflat]
  | succ i =>
   have:=ih i;simp only [kflat,ZaJ,List.drop_succ_cons] at this |-;rw [List.drop_append,show t.vals.length=4 from rfl,ZcS (by show 4<=_;omega),show (i+1)*4 - 4=i*4 by omega,ZP,this]
theorem ZgG (a b:List K4):kflat (a++b)=kflat a++kflat b:=by simp [kflat]
theorem Zhg:(prog.info? 150).map (fun i=>(i.zero,i.size,i.bytes))=some (some (.agg #[int i64 0,int i64 0,int i64 0,int i64 0]),4,32):=by kernel_rfl
theorem Zl4 {g n c i:Nat} {ks:List K4} (h:St W I w (HP.row 150 4 (slice (some ⟨g,0,none⟩) n c) n (kflat ks)::l)) (hk:ks.length=n) (hi:i<n) (A:Addr) (hA:n - (i+1)=0∨A=⟨g,(i+1)*4,none⟩) (cx:Nat) (ty:TypeId) :
  ∃ w' cur,(Builtin.append_ #[165,165] ty #[slice (some ⟨g,0,none⟩) i c,slice (some A) (n - (i+1)) cx]).run prog w=.ok (slice (some ⟨g,0,none⟩) (n - 1) c) w'∧w'.heap.size=w.heap.size ∧
   n<=c∧c<=maxLen∧cur.size=c*4∧cur.toList.take ((n - 1)*4)=kflat (ks.eraseIdx i)∧St W I w' (pt g (cells cur 150 (0,0))::l):=by
 obtain ⟨hl,p⟩:=h.row_open;rcases p with ⟨e1,_⟩|⟨g',cap',cur,e1,p3,p4,p5,p6,s⟩
 ·cases e1
 ·simp only [ZF,Zah,Addr.mk.injEq,Zae,ZK] at e1;obtain ⟨rfl,rfl⟩:=e1;obtain ⟨i0,hi0,hz0,hz1,hz2⟩:=info_parts Zhg;have hown:=h.row_owns;have hnl:(kflat (ks.drop (i+1))).length=(n - (i+1))*4:=by rw [Zbm,Zas,hk]
  have hnews:∀ j u,(kflat (ks.drop (i+1)))[j]?=some u->w.cell? (A.add j)=some u:=fun j u hu=>by
   have hj:=(ZS.1 hu).1;rcases hA with e|rfl
   ·rw [hnl,e] at hj;omega
   ·rw [<-Zg0,Zb9] at hu;have:=hown.cells (g:=g) rfl _ _ hu;rw [add_plain] at this |-;rwa [Zar] at this
  have hr:=run_append_room (P:=prog) w 165 ty 150 i0 underlying165 hi0 g i c cur s.heap A (n - (i+1)) cx (kflat (ks.drop (i+1))) (by rw [hz1];exact hnl) hnews (fun u hu=>Zhz _ u hu) (by omega) (by rw [hz1,hnl,p5];omega);rw [show i+(n - (i+1))=n - 1 by omega,hz1] at hr;have hcl:cur.toList.length=c*4:=by simpa using p5
  refine ⟨_,_,hr,by simp [World.setRow],p3,p4,?_,?_,ZfQ s⟩
  ·simp only [Zc7,ZA,ZN,Zas,hnl];omega
  ·have e1:cur.toList.take (i*4)=kflat (ks.take i):=by
    rw [<-ZfC,<-p6,Zev,show min (i*4) (n*4)=i*4 by omega]
   rw [e1,Zey,ZgG];have e2:(kflat (ks.take i)++kflat (ks.drop (i+1))).length=(n - 1)*4:=by rw [ZA,hnl,Zbm,ZN,hk];omega
   rw [<-e2];exact Zgm
def zero4:List Value:=[int i64 0,int i64 0,int i64 0,int i64 0]
theorem Zix {g n c:Nat} {ks:List K4} {cur:Array Value} (h:St W I w (pt g (cells cur 150 (0,0))::l)) (hn:0<n) (h1:n<=c) (h2:c<=maxLen) (h3:cur.size=c*4) (h4:cur.toList.take ((n - 1)*4)=kflat ks) (hk:ks.length=n - 1) (cc:Nat) (ty:TypeId) :
  ∃ w',(Builtin.clear_ #[165] ty #[slice (some ⟨g,(n - 1)*4,none⟩) 1 cc]).run prog w=.ok (.tuple #[]) w'∧w'.heap.size=w.heap.size∧St W I w' (Z6 (slice (some ⟨g,0,none⟩) (n - 1) c) ks::l):=by
 have hst:=run_storeCells_at prog g ((n - 1)*4) 150 zero4 0 cur w h.heap (by show _+0+4<=_;omega) (by intro u hu;simp only [zero4,ZO,ZdE,ZcQ] at hu;rcases hu with rfl|rfl|rfl|rfl <;> rfl);have hz:(zeroValue 150).run prog w=.ok (.agg #[int i64 0,int i64 0,int i64 0,int i64 0]) w:=by kernel_rfl
 have hr:(Builtin.clear_ #[165] ty #[slice (some ⟨g,(n - 1)*4,none⟩) 1 cc]).run prog w=.ok (.tuple #[]) (w.setRow g (cur.toList.take ((n - 1)*4+0)++zero4++cur.toList.drop ((n - 1)*4+0+4)).toArray):=by
  have hzc:(Builtin.zeroCells (Value.agg #[int i64 0,int i64 0,int i64 0,int i64 0]).cells 1).toList=zero4:=by kernel_rfl
  simp only [Builtin.clear_];simp [Za3 underlying165,hz,hzc,Result.andThen];have hst2:=hst;simp at hst2;rw [hst2];rfl
 have hcl:cur.toList.length=c*4:=by simpa using h3
 refine ⟨_,hr,by simp [World.setRow],?_⟩;have s:=ZfQ (cs:=(cur.toList.take ((n - 1)*4+0)++zero4++cur.toList.drop ((n - 1)*4+0+4)).toArray) h
 have hs2:St W I _ (HP.row 150 4 (slice (some ⟨g,0,none⟩) (n - 1) c) (n - 1) (kflat ks)::l):=s.row_shut (by rw [Zbm,hk]) (by omega) h2 (by simp only [Zc7,ZA,ZN,Zas,zero4,Zat,ZaH];omega) (by
  rw [Zam];have e1:(cur.toList.take ((n - 1)*4+0)).length=(n - 1)*4:=by rw [ZN];omega
  rw [Zfl,e1,Zfm,List.take_zero,ZdG,Zew (by omega),Zbg,h4])
 unfold Z6;rw [hk];exact hs2
theorem Zmi {v:Value} {ks:List K4} {i:Nat} (h:St W I w (Z6 v ks::l)) (hn:ks.length<=1000000) (hi:i<ks.length) :
  Calls prog 199 #[v,int i64 i,int i64 ((i:Int)+1)] w fun e w'=>∃ v',e=.returned v'∧St W I w' (Z6 v' (ks.eraseIdx i)::l):=by
 obtain ⟨n,hnn⟩:=Zn ks.length;have hown:=h.row_owns;obtain ⟨g,c,rfl,hnc⟩:∃ g c,v=slice (some ⟨g,0,none⟩) ks.length c∧ks.length<=c:=by
  rcases hown.2 with ⟨_,e2⟩|⟨g,cap,cur,e1,_,_,h1,_⟩
  ·omega
  ·exact ⟨g,cap,e1,h1⟩
 have hs:St W I w (HP.row 150 4 (slice (some ⟨g,0,none⟩) n c) n (kflat ks)::l):=by rw [hnn];exact h
 rw [<-hnn] at hnc hi hn |-;obtain ⟨q,rfl⟩:∃ q,n=q+1:=⟨n - 1,by omega⟩;have HS:=Zh hs;have HN:=Zh hnn;clear h hown hs hnn;have hne:((i:Int)==(i:Int)+1)=false:=by simp;omega
 have hI1:((i:Int)+1)<=((q:Int)+1):=by omega
 have hic:i<c:=by omega
 have hicl:i<=c:=by omega
 have hin1:i<=q:=by omega
 have h0i:(0:Int)<=(i:Int)+1:=by omega
 have hi0:¬ c=0:=by omega
 have hqc:¬ c=q:=by omega
 by_cases hc:i+1=c
 ·obtain rfl:i=q:=by omega
  subst hc;clear hne hI1 hic hicl hin1 h0i hi0 hqc;have hne:((i:Int)==(i:Int)+1)=false:=by simp;omega
  have h0i:(0:Int)<=(i:Int)+1:=by omega
  have hI1:(i:Int)<=(i:Int)+1:=by omega
  go_enter func199,ntmps199;go_wp2_with fail;obtain ⟨hl,p⟩:=HS.o.drew.row_open;obtain ⟨g',cap',cur,e1,p3,p4,p5,p6,s⟩:∃ g' cap cur,slice (some ⟨g,0,none⟩) (i+1) (i+1)=slice (some ⟨g',0,none⟩) (i+1) cap∧(i+1)<=cap∧cap<=maxLen∧cur.size=cap*4∧cur.toList.take ((i+1)*4)=kflat ks∧St W I w.drew (pt g' (cells cur 150 (0,0))::l):=by
   rcases p with ⟨e1,_⟩|h1
   ·cases e1
   ·exact h1
  simp only [ZF,Zah,Addr.mk.injEq,Zae,ZK] at e1;obtain ⟨rfl,rfl⟩:=e1;obtain ⟨w6,hr6,hs6,h6⟩:=Zix (ks:=ks.eraseIdx i) s (by omega) p3 p4 p5 (by rw [Nat.add_sub_cancel,Zey,ZcS (by have:=HN.o;omega),ZdG,<-ZfC,<-p6,Zev,show min (i*4) ((i+1)*4)=i*4 by omega]) (by rw [List.length_eraseIdx,<-HN.o,Zb hi]) 1 0;rw [show i+1 - 1=i by omega] at hr6 h6;have H6:=Zh h6;clear hl p p3 p4 p5 p6 s h6
  go_still_tail 6,(by kernel_rfl)
  change wpList _ _ _ _ _ w.drew;generalize w.drew=w2 at *;all_goals
   go_wp2;go_ret;exact ⟨_,rfl,H6.o⟩
 ·have hcc:¬ (c=i+1):=fun e=>hc e.symm;go_enter func199,ntmps199;go_wp2_with fail;obtain ⟨w5,cur,hr5,hs5,h51,h52,h53,h54,h55⟩:=Zl4 HS.o.drew HN.o.symm hi ⟨g,(i+1)*4,none⟩ (.inr rfl) (c - (i+1)) 165;rw [show q+1 - (i+1)=q - i by omega,show q+1 - 1=q by omega] at hr5;obtain ⟨w6,hr6,hs6,h6⟩:=Zix h55 (by omega) h51 h52 h53 h54 (by rw [List.length_eraseIdx,<-HN.o,Zb hi]) (c - q) 0;rw [show q+1 - 1=q by omega] at hr6 h6;have H6:=Zh h6;have HR5:=Zh hr5;clear h55 hr5 h6 h51 h52 h53 h54
  go_region_law (refine ZlH (by rfl) (.tmp 22) (.tmp 25) 165 165 (by rfl) (slice (some ⟨g,0,none⟩) i c) (slice (some ⟨g,(i+1)*4,none⟩) (q - i) (c - (i+1))) (by rfl) (by rfl) (slice (some ⟨g,0,none⟩) q c) w5 HR5.o ?_)
  all_goals
   go_wp2;go_ret;exact ⟨_,rfl,H6.o⟩
end
def insK (i:Nat) (k:K4) (ks:List K4):List K4:=ks.take i++k::ks.drop i
section
variable {P : Program}
theorem St.copy_run {g o dLen dCap n sLen sCap size:Nat} {a:Addr} {cur:Array Value} {t dT sT ty elem:TypeId} {cs:List Value} (h:St W I w (pt g (cells cur t (0,0))::l))
  (hu:P.underlying dT=some (.slice elem)) (hs:(P.info? elem).map (·.size)=some size) (hmin:Nat.min sLen dLen=n) (hcl:cs.length=n*size)
  (hsrc:∀ j v,cs[j]?=some v->w.cell? (a.add j)=some v) (hfit:o+cs.length<=cur.size) (h1:∀ v ∈ cs,v.oneCell'=true) :
  ∃ w',(Builtin.copy_ #[dT,sT] ty #[slice (some ⟨g,o,none⟩) dLen dCap,slice (some a) sLen sCap]).run P w=.ok (goInt n) w'∧w'.heap.size=w.heap.size ∧
   St W I w' (pt g (cells (cur.toList.take o++cs++cur.toList.drop (o+cs.length)).toArray t (0,0))::l):=by
 have hl:=run_firstCells_some (P:=P) w size n a sLen sCap cs hcl hsrc;have hst:=run_storeCells_at P g o t cs 0 cur w h.heap (by simpa using hfit) h1;refine ⟨_,?_,?_,ZfQ h⟩
 ·cases hq:P.info? elem with
  | none=>simp [hq] at hs
  | some i =>
   have hi:i.size=size:=by simpa [hq] using hs
   simp [Builtin.copy_,Za3 hu,Builtin.lenOf,sizeOf,typeInfo,hq,hi,hmin,hl,hst]
 ·simp [World.setRow]
theorem Zmj {o:Oper} {a:Act} {K:Act->World->Prop} {Q:Exit->Act->World->Prop} (s x:Operand) (t tn:TypeId)
  (ho:o.op=.call { callee:=.builtin .copy,args:=#[s,x],argTypes:=#[t,tn] }) (vs vx:Value) (hs:a.eval s=vs) (hx:a.eval x=vx)
  (v':Value) (w':World) (hr:(Builtin.copy_ #[t,tn] o.type #[vs,vx]).run P w=.ok v' w') (h:K (a.put o.dst v') w'):o.wp P a w K Q:=by
 unfold Oper.wp execOp;simp only [ho,resolve,invoke,builtin,Sem.run_bind,Sem.run_pure,Result.andThen_ok,List.map_toArray,Zav,Zc6,hs,hx,hr];exact h
theorem Zgz {ops:Array Oper} {rest:List Oper} {o:Oper} {a:Act} {Q:Exit->Act->World->Prop} (hgd:o.guard=none) (s x:Operand) (t tn:TypeId)
  (ho:o.op=.call { callee:=.builtin .copy,args:=#[s,x],argTypes:=#[t,tn] }) (vs vx:Value) (hs:a.eval s=vs) (hx:a.eval x=vx)
  (v':Value) (w':World) (hr:(Builtin.copy_ #[t,tn] o.type #[vs,vx]).run P w=.ok v' w') (h:wpList P ops Q rest (a.put o.dst v') w'):wpList P ops Q (o::rest) a w :=
 wpList_plain hgd fun _ hK=>Zmj s x t tn ho vs vx hs hx v' w' hr (hK _ _ h)
theorem Zmk {X ys R:List Value} {a b:Nat} (h:a+b<=X.length):(X.take (a+b)++ys++R).take a=X.take a:=by
 rw [Zam,Zfl,Zev,ZN,show min a (a+b)=a by omega,show a - min (a+b) X.length=0 by omega,List.take_zero,ZdG]
theorem Zml {X ys R:List Value} {a:Nat} (h:a<=X.length):(X.take a++ys++R).drop a=ys++R:=by
 rw [Zam,List.drop_append,ZN,show a - min a X.length=0 by omega,List.drop_zero,ZcS (by rw [ZN];omega),ZP]
theorem Zog {X v ys R:List Value} {a:Nat} (hv:v.length=4) (h:a+4<=X.length) :
  (((X.take (a+4)++ys++R).take a++v++(X.take (a+4)++ys++R).drop (a+v.length)).take (a+4+ys.length))=X.take a++(v++ys):=by
 rw [hv,Zmk h,Zml (a:=a+4) h];have e:X.take a++v++(ys++R)=(X.take a++(v++ys))++R:=by simp [Zam]
 rw [e,Zez (by simp only [ZA,ZN,hv];omega)]
theorem Zi3 (i:Nat) (k:K4) (ks:List K4):kflat (insK i k ks)=kflat (ks.take i)++(k.vals++kflat (ks.drop i)):=by
 unfold insK;rw [ZgG];rfl
theorem Zm6 {v:Value} {ks:List K4} {gv:Nat} {k0 k1 k2 k3:Int} (h:St W I w (pt gv (cells #[int i64 k0,int i64 k1,int i64 k2,int i64 k3] 150)::Z6 v ks::l)) (hn:ks.length<=1000000) :
  Calls prog 200 #[v,int i64 ks.length,slice (some ⟨gv,0,none⟩) 1 1] w fun e w'=>∃ v',e=.returned v'∧St W I w' (Z6 v' (ks++[⟨k0,k1,k2,k3⟩])::l):=by
 obtain ⟨i0,hi0,hz0,hz1,hz2⟩:=info_parts Zhg;have hg:=h.heap;have h2:=h.pull 1 _ rfl;have hown:=h2.row_owns
 have hsrc:SrcAt w 4 (some ⟨gv,0,none⟩) 1 [int i64 k0,int i64 k1,int i64 k2,int i64 k3]:=⟨rfl,fun _=>⟨_,rfl,fun j u hu=>by
  rw [add_plain,Zar];have hj:=(ZS.1 hu).1;have:=Zc hg j;simp only [Zat,ZaH] at hj;rw [this]
  simpa using hu⟩,by simp [Value.oneCell']⟩
 obtain ⟨v',w',hr,ho',hgr,hv'⟩:=Zdf (P:=prog) w 0 165 165 150 i0 _ 4 32 underlying165 hi0 hz0 hz1 hz2 rfl (by decide) v ks.length _ hown (some ⟨gv,0,none⟩) 1 1 _ hsrc (by intro h;cases h) (by unfold maxLen;omega) (by omega) (ZaY _);have h3:=(h2.row_grown ho' hgr hv').pull 1 _ rfl;have h4:St W I w' (Z6 v' (ks++[⟨k0,k1,k2,k3⟩])::l):=by
  have h5:=h3.drop;have e:kflat (ks++[⟨k0,k1,k2,k3⟩])=kflat ks++[int i64 k0,int i64 k1,int i64 k2,int i64 k3]:=ZgG _ _;have e2:(ks++[(⟨k0,k1,k2,k3⟩:K4)]).length=ks.length+1:=by simp
  unfold Z6;rw [e2];show St W I w' (HP.row _ 4 v' _ (kflat _)::l);rw [e];exact h5
 obtain ⟨A,c,rfl,hA⟩:∃ A c,v=slice A ks.length c∧((A=none∧c=0∧ks.length=0)∨∃ g,A=some ⟨g,0,none⟩∧ks.length<=c):=by
  rcases hown.2 with ⟨e1,e2⟩|⟨g,cap,cur,e1,_,_,h1,_⟩
  ·exact ⟨none,0,by rw [e1,e2],.inl ⟨rfl,rfl,e2⟩⟩
  ·exact ⟨_,_,e1,.inr ⟨g,rfl,h1⟩⟩
 obtain ⟨n,hnn⟩:=Zn ks.length;rw [<-hnn] at hr hA hn |-;have H4:=Zh h4;have HR:=Zh hr;clear h4 h3 ho' hgr hv' hsrc hown h2 hg h hz0 hz1 hz2 hi0 hnn hr;rcases hA with ⟨rfl,rfl,rfl⟩|⟨g,rfl,hnc⟩
 ·go_enter func200,ntmps200;go_wp2_with (at_builtin;refine Zax _ rfl (.tmp 23) (.tmp 24) 165 165 rfl _ _ rfl rfl v' w' HR.o ?_);go_ret;exact ⟨_,rfl,H4.o⟩
 ·by_cases hcn:c=n
  ·subst hcn;go_enter func200,ntmps200;go_wp2_with (at_builtin;refine Zax _ rfl (.tmp 23) (.tmp 24) 165 165 rfl _ _ rfl rfl v' w' HR.o ?_);go_ret;exact ⟨_,rfl,H4.o⟩
  ·go_enter func200,ntmps200;go_wp2_with (at_builtin;refine Zax _ rfl (.tmp 23) (.tmp 24) 165 165 rfl _ _ rfl rfl v' w' HR.o ?_);go_ret;exact ⟨_,rfl,H4.o⟩
theorem Zmm {v:Value} {ks:List K4} {i gv g c:Nat} {k0 k1 k2 k3:Int} (h:St W I w (pt gv (cells #[int i64 k0,int i64 k1,int i64 k2,int i64 k3] 150)::Z6 v ks::l)) (hn:ks.length<=1000000) (hi:i<ks.length) (hv:v=slice (some ⟨g,0,none⟩) ks.length c) (hc:ks.length<c) :
  Calls prog 200 #[v,int i64 i,slice (some ⟨gv,0,none⟩) 1 1] w fun e w'=>∃ v',e=.returned v'∧St W I w' (Z6 v' (insK i ⟨k0,k1,k2,k3⟩ ks)::l):=by
 subst hv;obtain ⟨n,hnn⟩:=Zn ks.length;rw [<-hnn] at hn hi hc |-;have hg:=h.heap;obtain ⟨hl,p⟩:=(h.pull 1 _ rfl).row_open;obtain ⟨cur,p3,p4,p5,p6,s⟩:∃ cur,ks.length<=c∧c<=maxLen∧cur.size=c*4∧cur.toList.take (ks.length*4)=kflat ks∧St W I w (pt g (cells cur 150 (0,0))::pt gv (cells #[int i64 k0,int i64 k1,int i64 k2,int i64 k3] 150)::l):=by
  rcases p with ⟨e1,_⟩|⟨g',cap',cur,e1,h2,h3,h4,h5,h6⟩
  ·cases e1
  ·simp only [ZF,Zah,Addr.mk.injEq,Zae,ZK] at e1;obtain ⟨rfl,rfl⟩:=e1;exact ⟨cur,h2,h3,h4,h5,h6⟩
 have hne:=s.ne;have S:=Zh s;have P6:=Zh p6;have HN:=Zh hnn;obtain ⟨w1,hr1,hs1,s1⟩:=s.drew.copy_run (P:=prog) (g:=g) (o:=(i+1)*4) (dLen:=n - i) (dCap:=c - (i+1)) (n:=n - i) (sLen:=n+1 - i) (sCap:=c - i) (size:=4) (a:=⟨g,i*4,none⟩) (dT:=165) (sT:=165) (ty:=3) (cs:=kflat (ks.drop i)) underlying165 (by kernel_rfl) (by show min _ _=_;omega) (by rw [Zbm,Zas,<-hnn])
  (by
    intro j v hj;rw [add_plain];rw [<-Zg0,<-p6,Zb9,Zci] at hj;split at hj
    ·have:=Zc s.drew.heap (i*4+j);rw [this];simpa using hj
    ·cases hj) (by rw [Zbm,Zas,<-hnn,p5];omega) (fun u hu=>Zhz _ u hu)
 have hX:ks.length*4<=cur.toList.length:=by simp [p5];omega
 have hl1:(cur.toList.take ((i+1)*4)++kflat (ks.drop i)++cur.toList.drop ((i+1)*4+(kflat (ks.drop i)).length)).length=c*4:=by
  simp only [ZA,ZN,Zas,Zbm,ZdC,p5,<-hnn];omega
 obtain ⟨w2,hr2,hs2,s2⟩:=s1.copy_run (P:=prog) (g:=g) (o:=i*4) (dLen:=n+1 - i) (dCap:=c - i) (n:=1) (sLen:=1) (sCap:=1) (size:=4) (a:=⟨gv,0,none⟩) (dT:=165) (sT:=165) (ty:=3) (cs:=[int i64 k0,int i64 k1,int i64 k2,int i64 k3]) underlying165 (by kernel_rfl) (by show min _ _=_;omega) rfl
  (by
    intro j v hj;rw [add_plain,Zar];have:=Zc (s1.pull 1 _ rfl).heap j;rw [this]
    simpa using hj) (by rw [Zc7,hl1];simp;omega) (by simp [Value.oneCell'])
 have h3:St W I w2 (Z6 (slice (some ⟨g,0,none⟩) (n+1) c) (insK i ⟨k0,k1,k2,k3⟩ ks)::l):=by
  have h4:=((s2.pull 1 _ rfl).drop);simp only [Zx,Zy] at h4;have e:(insK i ⟨k0,k1,k2,k3⟩ ks).length=n+1:=by simp [insK];omega
  unfold Z6;rw [e];refine h4.row_shut (xs:=kflat (insK i ⟨k0,k1,k2,k3⟩ ks)) (by rw [Zbm,e]) (by omega) p4 ?_ ?_
  ·simp only [Zc7,ZA,ZN,Zas,hl1,Zat,ZaH];omega
  ·have e2:cur.toList.take (i*4)=kflat (ks.take i):=by
    rw [<-ZfC,<-p6,Zev,show min (i*4) (ks.length*4)=i*4 by omega]
   have e3:=Zog (X:=cur.toList) (v:=[int i64 k0,int i64 k1,int i64 k2,int i64 k3]) (ys:=kflat (ks.drop i)) (R:=cur.toList.drop ((i+1)*4+(kflat (ks.drop i)).length)) (a:=i*4) rfl (by omega);rw [e2,Zbm,Zas,<-hnn] at e3;rw [Zi3,Zbm,Zas,<-hnn];rw [show (n+1)*4=i*4+4+(n - i)*4 by omega];rw [show (i+1)*4=i*4+4 by omega] at e3 |-;exact e3
 have H3:=Zh h3;have HR1:=Zh hr1;have HR2:=Zh hr2;clear h3 hr1 hr2 hs1 hs2 s1 s2 hX hl1;have hov:(callFunc 229 #[slice (some ⟨gv,0,none⟩) 1 1,slice (some ⟨g,(i+1)*4,none⟩) (n - i) (c - (i+1))]).run prog w=.ok (.value (.bool false)) w:=by
  have hgg:=s.heap
  rw [run_callFunc_extern func229 (by kernel_rfl) (by kernel_rfl) (by kernel_rfl) (e:=Extern.SlicesOverlaps.overlaps #[165,165] #[4]) (by kernel_rfl),
   Lib.run_overlaps_apart w 165 4 150 underlying165 4 (fun w=>by kernel_rfl) ⟨gv,0,none⟩ ⟨g,(i+1)*4,none⟩ 1 1 (n - i) (c - (i+1)) (Ne.symm hne) 150 150 4 (c*4) (by simp [World.shape?,hg]) (by simp [World.shape?,hgg,p5]) (by omega) (by simp [World.frozen?,hg]) (by simp [World.frozen?,hg])]
  rfl
 clear h hl p p6 s p5 hnn p3;have h1:((i:Int)==(n:Int))=false:=by simp;omega
 have h2:((n:Int)+1)<=(c:Int):=by omega
 have h3:(n:Int)<=(c:Int):=by omega
 have h4:¬ (i=n):=by omega
 have h5:n+1<=c:=by omega
 have h6:i<=n:=by omega
 have h7:¬ (c=i):=by omega
 have h8:¬ (c=i+1):=by omega
 have h9:((i:Int)+1)<=(n:Int)+1:=by omega
 have h10:((i:Int))<=(n:Int)+1:=by omega
 have h11:((i:Int))<=(n:Int):=by omega
 go_enter func200,ntmps200;go_wp2_with fail;have z1:IntKind.i64.wrap ((i:Int)+1)=(i:Int)+1:=by rw [Z2];omega
 have z2:(0:Int)<=(i:Int)+1:=by omega
 have z3:((i:Int)+1).toNat=i+1:=by omega
 go_still_tail 8,(by kernel_rfl)
 change wpList _ _ _ _ _ w.drew;refine Zgz rfl (.tmp 73) (.tmp 76) 165 165 rfl _ _ rfl rfl _ _ HR1.o ?_;have hr2:=HR2.o;clear z1 z2 z3;go_wp2;go_ret;exact ⟨_,rfl,H3.o⟩
end
section
theorem Zoh {X v ys Z:List Value} {a:Nat} (hv:v.length=4) (ha:X.length=a) (h:4+ys.length<=Z.length) :
  ((((X++Z).take a++v++(X++Z).drop (a+v.length)).take (a+4)++ys++((X++Z).take a++v++(X++Z).drop (a+v.length)).drop (a+4+ys.length)).take (a+4+ys.length))=X++(v++ys):=by
 have e1:(X++Z).take a=X:=by rw [<-ha];exact Zgm
 rw [e1];have e2:(X++v++(X++Z).drop (a+v.length)).take (a+4)=X++v:=by
  rw [Zez (by rw [ZA,ha,hv])]
 rw [e2,Zez (by simp only [ZA,hv,ha]),Zam]
theorem Zmn {v:Value} {ks:List K4} {i gv g:Nat} {k0 k1 k2 k3:Int} (h:St W I w (pt gv (cells #[int i64 k0,int i64 k1,int i64 k2,int i64 k3] 150)::Z6 v ks::l)) (hn:ks.length<=1000000) (hi:i<ks.length) (hv:v=slice (some ⟨g,0,none⟩) ks.length ks.length) :
  Calls prog 200 #[v,int i64 i,slice (some ⟨gv,0,none⟩) 1 1] w fun e w'=>∃ v',e=.returned v'∧St W I w' (Z6 v' (insK i ⟨k0,k1,k2,k3⟩ ks)::l):=by
 obtain ⟨i0,hi0,hz0,hz1,hz2⟩:=info_parts Zhg;subst hv;obtain ⟨n,hnn⟩:=Zn ks.length;have hown:=(h.pull 1 _ rfl).row_owns;rw [<-hnn] at hn hi |-;have hold:∀ j u,(kflat (ks.take i))[j]?=some u->w.cell? ((⟨g,0,none⟩:Addr).add j)=some u:=fun j u hu=>by
  rw [<-ZfC,Zci] at hu;split at hu
  ·exact hown.cells (g:=g) rfl j u hu
  ·cases hu
 have hr:=Lib.run_append_grow_zeros (P:=prog) w 165 3 165 150 i0 _ i64 i64 underlying165 underlying3 hi0 hz0 (some ⟨g,0,none⟩) i n (kflat (ks.take i))
  (by rw [hz1];exact run_firstCells_some w.drew 4 i _ i n _ (by rw [Zbm,ZN];omega) hold) (n+1 - i) (by omega) (by omega) (by omega) (by omega) (by rw [hz2];omega) (growslice_fits (by omega) (by rw [hz2];omega))
 rw [show i+(n+1 - i)=n+1 by omega] at hr;have hge:=grownCap_ge w (n+1) n 150;have hcm:grownCap w (n+1) n 150<=maxLen:=grownCap_le_maxLen w (n+1) n 150 (by unfold maxLen;omega);generalize grownCap w (n+1) n 150=c at hr hge hcm;obtain ⟨Z,hZ⟩:∃ Z:Array Value,Z=Builtin.zeroCells (Value.agg #[int i64 0,int i64 0,int i64 0,int i64 0]).cells (n+1 - i)++Builtin.zeroCells (Value.agg #[int i64 0,int i64 0,int i64 0,int i64 0]).cells (c - (n+1)):=⟨_,rfl⟩;have hZs:Z.size=(c - i)*4:=by
  rw [hZ,Array.size_append,size_zeroCells,size_zeroCells];show (n+1 - i)*4+(c - (n+1))*4=_;omega
 rw [Array.append_assoc,<-hZ] at hr;have s0:St W I (w.drew.alloc (cells ((kflat (ks.take i)).toArray++Z) 150)) (pt w.heap.size (cells ((kflat (ks.take i)).toArray++Z) 150 (0,0))::_):=h.drew.alloc _;have hlt:∀ b o,w.heap[b]?=some o->(w.drew.alloc (cells ((kflat (ks.take i)).toArray++Z) 150)).heap[b]?=some o:=fun b o hb=>(Below.heap_alloc w.drew _ _ (Zby.1 hb).1).trans hb;have hX:(kflat (ks.take i)).length=i*4:=by rw [Zbm,ZN];omega
 obtain ⟨w1,hr1,hs1,s1⟩:=s0.copy_run (P:=prog) (g:=w.heap.size) (o:=i*4) (dLen:=n+1 - i) (dCap:=c - i) (n:=1) (sLen:=1) (sCap:=1) (size:=4) (a:=⟨gv,0,none⟩) (dT:=165) (sT:=165) (ty:=3) (cs:=[int i64 k0,int i64 k1,int i64 k2,int i64 k3]) underlying165 (by kernel_rfl) (by show min _ _=_;omega) rfl
  (by
    intro j v hj;rw [add_plain,Zar];have:=Zc (hlt _ _ h.heap) j;rw [this]
    simpa using hj) (by simp [hZs,hX];omega) (by simp [Value.oneCell'])
 have hrow:=s1.pull 2 _ rfl;rw [<-hnn] at hrow;obtain ⟨w2,hr2,hs2,s2⟩:=s1.drew.copy_run (P:=prog) (g:=w.heap.size) (o:=(i+1)*4) (dLen:=n - i) (dCap:=c - (i+1)) (n:=n - i) (sLen:=n - i) (sCap:=n - i) (size:=4) (a:=⟨g,i*4,none⟩) (dT:=165) (sT:=165) (ty:=3) (cs:=kflat (ks.drop i)) underlying165 (by kernel_rfl) (by show min _ _=_;omega) (by rw [Zbm,Zas,<-hnn])
  (by
    intro j v hj;rw [add_plain];rw [<-Zg0,Zb9] at hj;have:=hrow.drew.row_owns.cells (g:=g) rfl _ _ hj
    rwa [add_plain,Zar] at this) (by simp [hZs,hX,Zbm];omega) (fun u hu=>Zhz _ u hu)
 have h3:St W I w2 (Z6 (slice (some ⟨w.heap.size,0,none⟩) (n+1) c) (insK i ⟨k0,k1,k2,k3⟩ ks)::l):=by
  have h4:St W I w2 (pt w.heap.size _::l):=((s2.pull 1 _ rfl).drop.pull 1 _ rfl).drop;have e:(insK i ⟨k0,k1,k2,k3⟩ ks).length=n+1:=by simp [insK];omega
  unfold Z6;rw [e];refine h4.row_shut (xs:=kflat (insK i ⟨k0,k1,k2,k3⟩ ks)) (by rw [Zbm,e]) (by omega) hcm ?_ ?_
  ·simp [hZs,hX,Zbm];omega
  ·have e3:=Zoh (X:=kflat (ks.take i)) (v:=[int i64 k0,int i64 k1,int i64 k2,int i64 k3]) (ys:=kflat (ks.drop i)) (Z:=Z.toList) (a:=i*4) rfl hX (by simp [hZs,Zbm];omega);rw [Zi3];rw [Zbm,Zas,<-hnn] at e3 |-;rw [show (n+1)*4=i*4+4+(n - i)*4 by omega,show (i+1)*4=i*4+4 by omega];have e4:((kflat (ks.take i)).toArray++Z).toList=kflat (ks.take i)++Z.toList:=by simp
   rw [<-e4] at e3;exact e3
 rw [show ((n+1 - i:Nat):Int)=(n:Int)+1 - (i:Int) by omega] at hr;have H3:=Zh h3;have HR:=Zh hr;have HR1:=Zh hr1;have HR2:=Zh hr2;generalize w.drew.alloc (cells ((kflat (ks.take i)).toArray++Z) 150)=w0 at *;clear h3 hr hr1 hr2 hs1 hs2 s1 s2 hX hrow hlt s0 hZs hZ hold hown h hi0 hz0 hz1 hz2 hnn;have h1:((i:Int)==(n:Int))=false:=by simp;omega
 have h2:((n:Int)+1)<=(c:Int):=by omega
 have h4:¬ (i=n):=by omega
 have h6:i<=n:=by omega
 have h7:¬ (c=i):=by omega
 have h8:¬ (c=i+1):=by omega
 have h7':¬ (n=i):=by omega
 have h9:((i:Int)+1)<=(n:Int)+1:=by omega
 have h10:((i:Int))<=(n:Int)+1:=by omega
 have h11:((i:Int))<=(n:Int):=by omega
 go_enter func200,ntmps200;go_wp2_with (at_builtin;refine Zax _ rfl (.tmp 34) (.tmp 39) 165 3 rfl _ _ rfl rfl _ _ HR.o ?_;have hr1:=HR1.o);have z1:IntKind.i64.wrap ((i:Int)+1)=(i:Int)+1:=by rw [Z2];omega
 have z2:(0:Int)<=(i:Int)+1:=by omega
 have z3:((i:Int)+1).toNat=i+1:=by omega
 clear hr1
 go_still_tail 8,(by kernel_rfl)
 change wpList _ _ _ _ _ w1.drew;have e5:n+1 - (i+1)=n - i:=by omega
 first
  | refine Zgz rfl (.tmp 50) (.tmp 53) 165 165 rfl _ _ rfl rfl _ _ HR2.o ?_
  |(rw [<-e5] at HR2;refine Zgz rfl (.tmp 50) (.tmp 53) 165 165 rfl _ _ rfl rfl _ _ HR2.o ?_)
 clear z1 z2 z3;go_wp2;go_ret;exact ⟨_,rfl,H3.o⟩
theorem Zmo {v:Value} {ks:List K4} {i gv:Nat} (k:K4) (h:St W I w (pt gv (cells #[int i64 k.kind,int i64 k.img,int i64 k.num,int i64 k.snap] 150)::Z6 v ks::l)) (hn:ks.length<=1000000) (hi:i<=ks.length) :
  Calls prog 200 #[v,int i64 i,slice (some ⟨gv,0,none⟩) 1 1] w fun e w'=>∃ v',e=.returned v'∧St W I w' (Z6 v' (insK i k ks)::l):=by
 obtain ⟨k0,k1,k2,k3⟩:=k;by_cases hin:i=ks.length
 ·subst hin;have e:insK ks.length ⟨k0,k1,k2,k3⟩ ks=ks++[⟨k0,k1,k2,k3⟩]:=by simp [insK]
  rw [e];exact Zm6 h hn
 ·rcases (h.pull 1 _ rfl).row_owns.2 with ⟨e1,e2⟩|⟨g,cap,cur,e1,_,_,h1,_⟩
  ·omega
  ·by_cases hc:cap=ks.length
   ·subst hc;exact Zmn h hn (by omega) e1
   ·exact Zmm h hn (by omega) e1 (by omega)
end
section
variable {v : Value}
def optHP (v:Value):Option TS->HP
 | none=>HP.pure (v=pointer none)
 | some t=>Zv v t
def TS.small (t:TS):Prop:=t.b.length<=20480∧∀ x ∈ t.attr,x.2.length<=4096
def Dd.good (d:Dd):Prop:=0<=d.n∧d.n+d.p.length<=20480∧d.p.length<=20480∧(d.kind=4->d.p.length<=4096)
theorem Zkv {d:Dd} (h:d.good):∃ n:Nat,d.n=n∧n+d.p.length<=20480:=by
 obtain ⟨h1,h2,_⟩:=h;exact ⟨d.n.toNat,by omega,by omega⟩
theorem Zqk (vt pv:Value) (d:Dd) (hk:d.kind=0) (h:St W I w l) :
  Calls prog 197 #[vt,.agg #[int i64 d.kind,int i64 d.n,pv,.string d.name]] w fun e w'=>∃ v',e=.returned v'∧St W I w' (Zv v' ⟨[],[]⟩::l):=by
 rw [hk];have H:=Zh h;have hmm:=@run_makeMap prog;clear h;go_enter func197,ntmps197;go_wp2;go_ret;refine ⟨_,rfl,?_⟩;have h1:=((H.o.alloc (cells #[int i64 0,int i64 d.n,pv,.string d.name] 244)).drop.alloc (.map #[] 0)).alloc (cells #[slice none 0 0,.map (some (w.alloc (cells #[int i64 0,int i64 d.n,pv,.string d.name] 244)).heap.size)] 218);have e1:(w.alloc (cells #[int i64 0,int i64 d.n,pv,.string d.name] 244)).heap.size=w.heap.size+1:=by simp
 have e2:((w.alloc (cells #[int i64 0,int i64 d.n,pv,.string d.name] 244)).alloc (.map #[] 0)).heap.size=w.heap.size+1+1:=by simp
 rw [e1,e2] at h1;have h2:=(h1.pull 1 _ rfl).mapOf_made (T:=Zaf) (own:=ZaL);have h3:St _ _ _ (ZaZ (slice none 0 0) []::_):=h2.row_nil 5 1;exact (h3.perm (m:=pt (w.heap.size+1+1) (cells #[slice none 0 0,.map (some (w.heap.size+1))] 218)::ZaZ (slice none 0 0) []::mapOf Zaf ZaL (w.heap.size+1) []::l) (by ((try simp only [Zx,Zy,ZZ,ZP]);repeat (first|with_reducible exact Zad _|(apply Zaq;(· repeat (first|with_reducible exact Zap|with_reducible apply Zao))))))).thing_shut (t:=⟨[],[]⟩)
theorem Zql (vt pv:Value) (d:Dd) (hk:d.kind=3) (w:World) :
  Calls prog 197 #[vt,.agg #[int i64 d.kind,int i64 d.n,pv,.string d.name]] w fun e w'=>e=.returned (pointer none)∧Below w.heap.size w w':=by
 rw [hk];go_enter func197,ntmps197;go_wp2;go_ret;exact ⟨rfl,ZM _ _⟩
theorem ZqT (pv:Value) (d:Dd) (h0:(d.kind==0)=false) (h3:(d.kind==3)=false) (w:World) :
  Calls prog 197 #[pointer none,.agg #[int i64 d.kind,int i64 d.n,pv,.string d.name]] w fun e w'=>e=.returned (pointer none)∧Below w.heap.size w w':=by
 go_enter func197,ntmps197;go_wp2;go_ret;exact ⟨rfl,ZM _ _⟩
theorem ZpC {t:TS} (pv:Value) (d:Dd) (hd:d.good) (ht:t.small) (hk:d.kind=1) (h:St W I w (Zv v t::l)) (hp:Zw I pv d.p) :
  Calls prog 197 #[v,.agg #[int i64 d.kind,int i64 d.n,pv,.string d.name]] w fun e w'=>e=.returned v∧St W I w' (Zv v { t with b:=layB t.b d.n.toNat d.p }::l):=by
 rw [hk];obtain ⟨n,hn,hn2⟩:=Zkv hd;rw [hn];have hv:∃ b,v=pointer (some ⟨b,0,none⟩):=by
  obtain ⟨b,m,vb,e,_⟩:=h.thing_open;exact ⟨b,e⟩
 obtain ⟨b,rfl⟩:=hv;have h':=h.keep (ZM w (cells #[int i64 1,int i64 n,pv,.string d.name] 244));have H:=Zh h';have HB:=Zh hp;clear h h' hp;go_enter func197,ntmps197;go_wp2_with fail;refine (ZpB H.o HB.o (by omega) (by have:=ht.1;omega)).mono ?_;rintro e w1 ⟨rfl,h1⟩;have H1:=Zh h1;clear h1;go_wp2;go_ret;exact ⟨rfl,by simpa using H1.o⟩
theorem Ze9 {t:TS} {b m q:Nat} {A0 A4:Option Addr} {k0 k4:Nat} (h:St W I w (pt b (cells #[slice A0 t.b.length k0,.map (some m)] 218) ::
   ((HP.row 5 1 (slice A4 q k4) q ((t.b.take q).map byteV)::pt b (cells #[slice A0 t.b.length k0,.map (some m)] 218)::ZaZ (slice A0 t.b.length k0) t.b::mapOf Zaf ZaL m t.attr::l).eraseIdx 1))) (hq:q<=t.b.length) :
  St W I (w.setCell ⟨b,0,none⟩ (slice A4 q k4)) (Zv (pointer (some ⟨b,0,none⟩)) { t with b:=t.b.take q }::l):=by
 have h8:St W I (w.setCell ⟨b,0,none⟩ (slice A4 q k4)) (pt b (cells #[slice A4 q k4,.map (some m)] 218)::HP.row 5 1 (slice A4 q k4) q ((t.b.take q).map byteV)::ZaZ (slice A0 t.b.length k0) t.b::mapOf Zaf ZaL m t.attr::l):=h.setCell 0 _;have e:HP.row 5 1 (slice A4 q k4) q ((t.b.take q).map byteV)=ZaZ (slice A4 q k4) (t.b.take q):=by
  unfold ZaZ;rw [show (t.b.take q).length=q by rw [ZN];omega]
 rw [e] at h8;exact ((h8.perm (m:=ZaZ (slice A0 t.b.length k0) t.b::pt b (cells #[slice A4 q k4,.map (some m)] 218)::ZaZ (slice A4 q k4) (t.b.take q)::mapOf Zaf ZaL m t.attr::l) (by ((try simp only [Zx,Zy,ZZ,ZP]);repeat (first|with_reducible exact Zad _|(apply Zaq;(· repeat (first|with_reducible exact Zap|with_reducible apply Zao))))))).drop).thing_shut (t:={ t with b:=t.b.take q })
theorem ZqU {t:TS} (pv:Value) (d:Dd) (hd:d.good) (ht:t.small) (hk:d.kind=2) (h:St W I w (Zv v t::l)) :
  Calls prog 197 #[v,.agg #[int i64 d.kind,int i64 d.n,pv,.string d.name]] w fun e w'=>e=.returned v∧St W I w' (Zv v { t with b:=t.b.take (min d.n.toNat t.b.length) }::l):=by
 rw [hk];obtain ⟨n,hn,hn2⟩:=Zkv hd;rw [hn,ZcT];have htl:t.b.length<=20480:=ht.1;clear hd ht hk;obtain ⟨b,m,vb,rfl,hs⟩:=h.thing_open;clear h;have h:=hs.keep (ZM w (cells #[int i64 2,int i64 n,pv,.string d.name] 244));have hlt:=hs.lt;have c0:=Zc hs.heap 0;have c0':World.cell? (w.alloc (cells #[int i64 2,int i64 n,pv,.string d.name] 244)) ⟨b,0,none⟩=some vb:=Zc h.heap 0;have f0:=frozen_of_row h.heap 0;have d1:World.cell? (w.alloc (cells #[int i64 2,int i64 n,pv,.string d.name] 244)) ⟨w.heap.size,1,none⟩=some (int i64 n):=Zc (Zbh w _) 1;simp at c0;have hown:=(h.pull 1 _ rfl).row_owns;obtain ⟨A0,k0,rfl⟩:=ZD hown;have hkn:t.b.length<=k0:=by
  rcases hown.2 with ⟨e1,e2⟩|⟨g,cap,cur,e1,_,_,h1,_⟩
  ·omega
  ·cases e1;exact h1
 obtain ⟨q,hq⟩:∃ q:Nat,q=min n t.b.length:=⟨_,rfl⟩;have hmin:min (n:Int) (t.b.length:Int)=(q:Int):=by omega
 rw [<-hq];have hqn:q<=t.b.length:=by omega
 have hsrc:SliceSrc (w.alloc (cells #[int i64 2,int i64 n,pv,.string d.name] 244)) 1 (slice A0 q k0) q ((t.b.take q).map byteV):=by
  obtain ⟨A,c,e1,h1,h2⟩:=SliceSrc.of_owns hown (Zac _);cases e1;refine ⟨_,_,rfl,⟨by simp;omega,fun hp=>?_,Zac _⟩,h2⟩;obtain ⟨ad,e2,h3⟩:=h1.cells (by omega);refine ⟨ad,e2,fun j u hu=>h3 j u ?_⟩;rw [ZcR,Zci] at hu;split at hu
  ·exact hu
  ·cases hu
 have hA:(A0=none∧k0=0∧q=0∧t.b.length=0)∨(∃ g,A0=some ⟨g,0,none⟩∧k0=0∧q=0∧t.b.length=0)∨∃ g,A0=some ⟨g,0,none⟩∧0<k0:=by
  rcases hown.2 with ⟨e1,e2⟩|⟨g,cap,cur,e1,_⟩
  ·simp only [ZF] at e1;exact .inl ⟨e1.1,e1.2.2,by omega,e2⟩
  ·cases e1;by_cases hz:k0=0
   ·exact .inr (.inl ⟨g,rfl,hz,by omega,by omega⟩)
   ·exact .inr (.inr ⟨g,rfl,by omega⟩)
 have H:=Zh h;have HX:=Zh hsrc;have HQ:=Zh hq;clear h hs hsrc hown hq;have hq20:q<=1000000:=by omega
 have hqk:q<=k0:=by omega
 have hqk2:((q:Nat):Int)<=((k0:Nat):Int):=by omega
 clear hqn hkn;have hsplit:(t.b.length<n∧q=t.b.length)∨(¬ t.b.length<n∧n=q):=by omega
 rcases hA with ⟨rfl,rfl,rfl,htz⟩|⟨g,rfl,rfl,rfl,htz⟩|⟨g,rfl,hk0⟩
 ·by_cases hn0:n=0
  ·subst hn0;simp only [Int.natCast_zero] at *;clear hmin hqk2;go_enter func197,ntmps197;go_wp2_with fail;clear c0 f0;refine ZaD [0] [1,2,3,4,5,6,7,8,9,10,11,12,13] [14,15,16,17] (by kernel_rfl) (by kernel_rfl) ?_;simp only [pickL,Zg,Zi];repeat (refine ZaA _ (Or.inl ⟨by rfl,by intro w;go_simp;try with_reducible rfl⟩) ?_;(try go_frame))
   refine ZaB ?_;repeat still_step
   refine ZaI ?_;go_wp2_with fail;refine (Za4 _ _ _ _ (HX.o.below (ZR _ _).drew) hq20).mono ?_;rintro e w4 ⟨v4,rfl,ho4,hb4⟩;obtain ⟨A4,k4,rfl⟩:=ZD ho4;have h5:=H.o.drew.row_fresh hb4 ho4;have h6:=h5.pull 1 _ rfl;have c6:=Zc h6.heap 0;have f6:=frozen_of_row h6.heap 0;have l6:=h6.lt;simp at c6;have H6:=Zh h6;clear h5 h6 hb4 ho4 HX d1 c0' hqk;go_wp2;refine Zu ?_;go_wp2;go_ret;refine ⟨rfl,?_⟩;exact Ze9 H6.o (by omega)
  ·have hs1:0<n:=by omega
   clear hn0;clear hmin hqk2;go_enter func197,ntmps197;go_wp2_with fail;clear c0 f0;refine ZaD [0] [1,2,3,4,5,6,7,8,9,10,11,12,13] [14,15,16,17] (by kernel_rfl) (by kernel_rfl) ?_;simp only [pickL,Zg,Zi];repeat (refine ZaA _ (Or.inl ⟨by rfl,by intro w;go_simp;try with_reducible rfl⟩) ?_;(try go_frame))
   refine ZaB ?_;repeat still_step
   refine ZaI ?_;go_wp2_with fail;refine (Za4 _ _ _ _ (HX.o.below (ZR _ _).drew) hq20).mono ?_;rintro e w4 ⟨v4,rfl,ho4,hb4⟩;obtain ⟨A4,k4,rfl⟩:=ZD ho4;have h5:=H.o.drew.row_fresh hb4 ho4;have h6:=h5.pull 1 _ rfl;have c6:=Zc h6.heap 0;have f6:=frozen_of_row h6.heap 0;have l6:=h6.lt;simp at c6;have H6:=Zh h6;clear h5 h6 hb4 ho4 HX d1 c0' hqk;go_wp2;refine Zu ?_;go_wp2;go_ret;refine ⟨rfl,?_⟩;exact Ze9 H6.o (by omega)
 ·by_cases hn0:n=0
  ·subst hn0;simp only [Int.natCast_zero] at *;clear hmin hqk2;go_enter func197,ntmps197;go_wp2_with fail;clear c0 f0;refine ZaD [0] [1,2,3,4,5,6,7,8,9,10,11,12,13] [14,15,16,17] (by kernel_rfl) (by kernel_rfl) ?_;simp only [pickL,Zg,Zi];repeat (refine ZaA _ (Or.inl ⟨by rfl,by intro w;go_simp;try with_reducible rfl⟩) ?_;(try go_frame))
   refine ZaB ?_;repeat still_step
   refine ZaI ?_;go_wp2_with fail;refine (Za4 _ _ _ _ (HX.o.below (ZR _ _).drew) hq20).mono ?_;rintro e w4 ⟨v4,rfl,ho4,hb4⟩;obtain ⟨A4,k4,rfl⟩:=ZD ho4;have h5:=H.o.drew.row_fresh hb4 ho4;have h6:=h5.pull 1 _ rfl;have c6:=Zc h6.heap 0;have f6:=frozen_of_row h6.heap 0;have l6:=h6.lt;simp at c6;have H6:=Zh h6;clear h5 h6 hb4 ho4 HX d1 c0' hqk;go_wp2;refine Zu ?_;go_wp2;go_ret;refine ⟨rfl,?_⟩;exact Ze9 H6.o (by omega)
  ·have hs1:0<n:=by omega
   clear hn0;clear hmin hqk2;go_enter func197,ntmps197;go_wp2_with fail;clear c0 f0;refine ZaD [0] [1,2,3,4,5,6,7,8,9,10,11,12,13] [14,15,16,17] (by kernel_rfl) (by kernel_rfl) ?_;simp only [pickL,Zg,Zi];repeat (refine ZaA _ (Or.inl ⟨by rfl,by intro w;go_simp;try with_reducible rfl⟩) ?_;(try go_frame))
   refine ZaB ?_;repeat still_step
   refine ZaI ?_;go_wp2_with fail;refine (Za4 _ _ _ _ (HX.o.below (ZR _ _).drew) hq20).mono ?_;rintro e w4 ⟨v4,rfl,ho4,hb4⟩;obtain ⟨A4,k4,rfl⟩:=ZD ho4;have h5:=H.o.drew.row_fresh hb4 ho4;have h6:=h5.pull 1 _ rfl;have c6:=Zc h6.heap 0;have f6:=frozen_of_row h6.heap 0;have l6:=h6.lt;simp at c6;have H6:=Zh h6;clear h5 h6 hb4 ho4 HX d1 c0' hqk;go_wp2;refine Zu ?_;go_wp2;go_ret;refine ⟨rfl,?_⟩;exact Ze9 H6.o (by omega)
 ·have hkz:¬ k0=0:=by omega
  clear hk0;rcases hsplit with ⟨hs1,rfl⟩|⟨hs1,rfl⟩;all_goals
   clear hmin hqk2;go_enter func197,ntmps197;go_wp2_with fail;clear c0 f0;generalize w.alloc (cells #[int i64 2,int i64 n,pv,.string d.name] 244)=w0 at *;refine ZaD [0] [1,2,3,4,5,6,7,8,9,10,11,12,13] [14,15,16,17] (by kernel_rfl) (by kernel_rfl) ?_;simp only [pickL,Zg,Zi];repeat (refine ZaA _ (Or.inl ⟨by rfl,by intro w;go_simp;try with_reducible rfl⟩) ?_;(try go_frame))
   refine ZaB ?_;repeat still_step
   refine ZaI ?_;go_wp2_with fail;refine (Za4 _ _ _ _ (HX.o.below (ZR _ _).drew) hq20).mono ?_;rintro e w4 ⟨v4,rfl,ho4,hb4⟩;obtain ⟨A4,k4,rfl⟩:=ZD ho4;have h5:=H.o.drew.row_fresh hb4 ho4;have h6:=h5.pull 1 _ rfl;have c6:=Zc h6.heap 0;have f6:=frozen_of_row h6.heap 0;have l6:=h6.lt;simp at c6;have H6:=Zh h6;clear h5 h6 hb4 ho4 HX d1 c0' hqk;go_wp2;refine Zu ?_;go_wp2;go_ret;refine ⟨rfl,?_⟩;exact Ze9 H6.o (by omega)
end
section
variable {v : Value}
theorem Zm7 {t:TS} (pv:Value) (d:Dd) (hk:d.kind=4) (hp0:d.p=[]) (h:St W I w (Zv v t::l)) (hp:Zw I pv d.p) :
  Calls prog 197 #[v,.agg #[int i64 d.kind,int i64 d.n,pv,.string d.name]] w fun e w'=>e=.returned v∧St W I w' (Zv v { t with attr:=Zb7 t.attr d.name d.p }::l):=by
 rw [hk];obtain ⟨b,m,vb,rfl,hs⟩:=h.thing_open;clear h;have hlen:∃ A c,pv=slice A 0 c:=by
  obtain ⟨A,c,e,_⟩:=hp;rw [hp0] at e;exact ⟨A,c,e⟩
 obtain ⟨A,c,rfl⟩:=hlen;have hlt:=hs.lt;have h:=hs.keep (ZM w (cells #[int i64 4,int i64 d.n,slice A 0 c,.string d.name] 244));have c1:=Zc h.heap 1;have hd:=Zbh w (cells #[int i64 4,int i64 d.n,slice A 0 c,.string d.name] 244);have d3:World.cell? (w.alloc (cells #[int i64 4,int i64 d.n,slice A 0 c,.string d.name] 244)) ⟨w.heap.size,3,none⟩=some (.string d.name):=Zc hd 3;simp at c1;obtain ⟨w5,hr5,hs5,h5⟩:=(h.drew.pull 2 _ rfl).mapOf_del (P:=prog) (ty:=0) underlying216 d.name;have H5:=Zh h5;simp only [Zaf] at hr5;have HR5:=Zh hr5;rw [hp0];clear hp0 hp h hd h5 hs hr5;go_enter func197,ntmps197;go_wp2_with fail;generalize w.alloc (cells #[int i64 4,int i64 d.n,slice A 0 c,.string d.name] 244)=w0 at *
 go_still_tail 6,(by kernel_rfl)
 change wpList _ _ _ _ _ w0.drew;have hr5:=HR5.o;go_wp2;go_ret;refine ⟨rfl,?_⟩;have h7:St W I w5 (pt b (cells #[vb,.map (some m)] 218)::ZaZ vb t.b::mapOf Zaf ZaL m (del d.name t.attr)::l):=H5.o.perm (by ((try simp only [Zx,Zy,ZZ,ZP]);repeat (first|with_reducible exact Zad _|(apply Zaq;(· repeat (first|with_reducible exact Zap|with_reducible apply Zao))))));have e:Zb7 t.attr d.name []=del d.name t.attr:=by simp [Zb7]
 rw [e];exact h7.thing_shut (t:={ t with attr:=del d.name t.attr })
theorem Zm8 {t:TS} (pv:Value) (d:Dd) (hk:d.kind=4) (hp0:d.p≠[]) (hpl:d.p.length<=4096) (h:St W I w (Zv v t::l)) (hp:Zw I pv d.p) :
  Calls prog 197 #[v,.agg #[int i64 d.kind,int i64 d.n,pv,.string d.name]] w fun e w'=>∃ I',I.sub I'∧e=.returned v∧St W I' w' (Zv v { t with attr:=Zb7 t.attr d.name d.p }::l):=by
 rw [hk];obtain ⟨b,m,vb,rfl,hs⟩:=h.thing_open;clear h;have hsv:=ZbT hs hp;obtain ⟨q,hq⟩:∃ q,d.p.length=q+1:=⟨d.p.length - 1,by have:d.p.length≠0:=fun e=>hp0 (ZbZ e);omega⟩;obtain ⟨A,c,hA⟩:∃ A c,pv=slice A (q+1) c:=by
  obtain ⟨A,c,e,_⟩:=hp;rw [hq] at e;exact ⟨A,c,e⟩
 subst hA;have hlt:=hs.lt;have h:=hs.keep (ZM w (cells #[int i64 4,int i64 d.n,slice A (q+1) c,.string d.name] 244));have hsv2:=hsv.below (ZM w (cells #[int i64 4,int i64 d.n,slice A (q+1) c,.string d.name] 244));have c1:=Zc h.heap 1;have hd:=Zbh w (cells #[int i64 4,int i64 d.n,slice A (q+1) c,.string d.name] 244);have d2:World.cell? (w.alloc (cells #[int i64 4,int i64 d.n,slice A (q+1) c,.string d.name] 244)) ⟨w.heap.size,2,none⟩=some (slice A (q+1) c):=Zc hd 2;have d3:World.cell? (w.alloc (cells #[int i64 4,int i64 d.n,slice A (q+1) c,.string d.name] 244)) ⟨w.heap.size,3,none⟩=some (.string d.name):=Zc hd 3;have hsz:(w.alloc (cells #[int i64 4,int i64 d.n,slice A (q+1) c,.string d.name] 244)).heap.size=w.heap.size+1:=by simp
 simp at c1;have H:=Zh h;have HX:=Zh hsv2;have HQ:=Zh hq;have HP0:=Zh hp0;have HSZ:=Zh hsz;clear hp0 hp h hd hs hsv hsv2 hq hsz;go_enter func197,ntmps197;go_wp2_with fail;generalize w.alloc (cells #[int i64 4,int i64 d.n,slice A (q+1) c,.string d.name] 244)=w0 at *;refine Z3 (fun w'=>w'.cell? ⟨b,1,none⟩=some (.map (some m))∧w'.cell? ⟨w.heap.size,3,none⟩=some (.string d.name)∧w'.cell? ⟨w.heap.size,2,none⟩=some (slice A (q+1) c)) [0,1,2,3,4,5,6,7] [8] [9] (by kernel_rfl) (by kernel_rfl) (by (exact ⟨c1,d3,d2⟩)) ?_;simp only [pickL,Zg,Zi];repeat (refine Zs _ (Or.inl ⟨by rfl,by (intro w hSw;(try dsimp only at hSw);go_simp;try with_reducible rfl)⟩) ?_;(try go_frame))
 refine ZC ?_;unfold Zp;go_wp2_with fail;have hpl6:d.p.length<=1000000:=by omega
 refine (Za4 _ _ _ _ (HX.o.below (ZR _ _).drew) hpl6).mono ?_;rintro e w4 ⟨v4,rfl,ho4,hb4⟩;obtain ⟨A4,k4,rfl⟩:=ZD ho4;obtain ⟨I2,hI2,hB2,h5⟩:=ZcA H.o.drew hb4 ho4;obtain ⟨w5,hrun5,hsz5,h6⟩:=Zks hB2 (h5.pull 2 _ rfl) underlying216 d.name;have e1:=(hb4.cell (p:=⟨b,1,none⟩) (by have:=HSZ.o;simp;omega)).trans c1;have e2:=(hb4.cell (p:=⟨w.heap.size,2,none⟩) (by have:=HSZ.o;simp;omega)).trans d2;have e3:=(hb4.cell (p:=⟨w.heap.size,3,none⟩) (by have:=HSZ.o;simp;omega)).trans d3;have H6:=Zh h6;have HI:=Zh hI2;have HR5:=Zh hrun5;clear h5 h6 hb4 ho4 hB2 c1 d2 d3 hI2 HX hrun5;go_wp2;refine Zt ⟨e1,e3,e2⟩ ?_;have hr5:=HR5.o;unfold Zp;go_wp2;refine Zu ?_;go_wp2;go_ret;have h7:St W I2 w5 (pt b (cells #[vb,.map (some m)] 218)::ZaZ vb t.b::mapOf Zaf ZaL m (put d.name d.p t.attr)::l):=H6.o.perm (by ((try simp only [Zx,Zy,ZZ,ZP]);repeat (first|with_reducible exact Zad _|(apply Zaq;(· repeat (first|with_reducible exact Zap|with_reducible apply Zao))))));have e:Zb7 t.attr d.name d.p=put d.name d.p t.attr:=by simp [Zb7,HP0.o]
 rw [e];exact ⟨I2,HI.o,rfl,h7.thing_shut (t:={ t with attr:=put d.name d.p t.attr })⟩
def Dd.fits (d:Dd):Prop:=d.good∧0<=d.kind∧d.kind<=4
def ZcM:Option TS->Prop
 | none=>True
 | some t=>t.small
theorem Zqm {o:Option TS} (pv:Value) (d:Dd) (hd:d.fits) (ht:ZcM o) (h:St W I w (optHP v o::l)) (hp:Zw I pv d.p) :
  Calls prog 197 #[v,.agg #[int i64 d.kind,int i64 d.n,pv,.string d.name]] w fun e w'=>∃ I' v',I.sub I'∧e=.returned v'∧St W I' w' (optHP v' (stepD o d)::l):=by
 obtain ⟨hg,h0,h4⟩:=hd;by_cases k0:d.kind=0
 ·refine (Zqk v pv d k0 h.drop).mono ?_;rintro e w' ⟨v',rfl,h1⟩;exact ⟨I,v',Hp.sub.refl _,rfl,by simpa [stepD,k0,optHP] using h1⟩
 by_cases k3:d.kind=3
 ·refine (Zql v pv d k3 w).mono ?_;rintro e w' ⟨rfl,hb⟩;refine ⟨I,_,Hp.sub.refl _,rfl,?_⟩;rw [show stepD o d=none by simp [stepD,k3]];exact St.pure_shut (by rfl) (h.drop.keep hb)
 cases o with
 | none =>
  obtain ⟨rfl,h1⟩:=h.pure_open;refine (ZqT pv d (by simpa using k0) (by simpa using k3) w).mono ?_;rintro e w' ⟨rfl,hb⟩;refine ⟨I,_,Hp.sub.refl _,rfl,?_⟩;rw [show stepD none d=none by simp [stepD,k0,k3]];exact St.pure_shut (by rfl) (h1.keep hb)
 | some t =>
  by_cases k1:d.kind=1
  ·refine (ZpC pv d hg ht k1 h hp).mono ?_;rintro e w' ⟨rfl,h1⟩;exact ⟨I,_,Hp.sub.refl _,rfl,by simpa [stepD,k1,optHP] using h1⟩
  by_cases k2:d.kind=2
  ·refine (ZqU pv d hg ht k2 h).mono ?_;rintro e w' ⟨rfl,h1⟩;exact ⟨I,_,Hp.sub.refl _,rfl,by simpa [stepD,k2,optHP] using h1⟩
  have k4:d.kind=4:=by omega
  by_cases hp0:d.p=[]
  ·refine (Zm7 pv d k4 hp0 h hp).mono ?_;rintro e w' ⟨rfl,h1⟩;exact ⟨I,_,Hp.sub.refl _,rfl,by simpa [stepD,k4,optHP] using h1⟩
  ·refine (Zm8 pv d k4 hp0 (hg.2.2.2 k4) h hp).mono ?_;rintro e w' ⟨I',hI,rfl,h1⟩;exact ⟨I',_,hI,rfl,by simpa [stepD,k4,optHP] using h1⟩
end
end Go.Proofs.YtcbdghojlbpomaaGreat
