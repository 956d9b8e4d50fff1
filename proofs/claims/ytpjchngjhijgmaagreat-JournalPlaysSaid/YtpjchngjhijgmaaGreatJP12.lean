import Derived.Test.YtpjchngjhijgmaaGreatJP11
set_option linter.all false
set_option maxRecDepth 4000
set_option maxHeartbeats 8000000
open Go.RowKit
open Go.IntKind (i64 u64)
open Go.Value (int pointer slice)
open Go.Obj (cells)
namespace Go.Proofs.YtpjchngjhijgmaaGreat
open Tryz
open HP (pt mapOf)
variable {W w w':World} {I:Hp} {l:List HP}
def Rc.nums (r:Rc):List Int:=[r.shape.splay,r.shape.sets,r.shape.size,r.first,r.set]
def clZ:Cl:=⟨0,0,false⟩
def Cl.nums (c:Cl):List Int:=[c.id,c.pos,if c.off then 1 else 0]
def clB (c:Cl) (j:Nat):List Int:=(c.nums.take j).flatMap fun n=>putB n 8
def recP1 (r:Rc) (i:Nat):List Int:=(r.nums.take i).flatMap fun n=>putB n 8
def clAt (r:Rc) (i:Nat):Cl:=(r.cls[i]?).getD clZ
def recP2 (r:Rc) (i:Nat):List Int:=recP1 r 5++(List.range i).flatMap fun k=>clB (clAt r k) 3
def recB (r:Rc):List Int:=recP2 r 4++chainB r.tags
structure Rc.Ok (r:Rc):Prop where
 shape:r.shape.okB=true
 first:1<=r.first∧r.first<=2199023255552
 set:0<=r.set∧r.set<=2147483648
 tags:Z3 r.tags=true
 cls:Zae r.cls=true
def recI (I:Hp) (r:Rc) (vt vc:Value):Prop:=RowI I 4 vt r.tags.length (flat r.tags)∧RowI I 3 vc r.cls.length (r.cls.flatMap Cl.vals)
theorem recI.mono {I I':Hp} {r:Rc} {vt vc:Value} (s:I.sub I') (h:recI I r vt vc):recI I' r vt vc:=⟨h.1.mono s,h.2.mono s⟩
def Rc.cells (r:Rc) (vt vc:Value):Array Value:=#[int i64 r.shape.splay,int i64 r.shape.sets,int i64 r.shape.size,int i64 r.first,int i64 r.set,vt,vc]
theorem Zc1 (c:Cl):∀ j,j<=3->(clB c j).length=8*j:=by
 intro j hj;rcases (show j=0∨j=1∨j=2∨j=3 by omega) with rfl|rfl|rfl|rfl <;> simp [clB,Cl.nums,Zb1]
theorem Zef (r:Rc):∀ j,j<=5->(recP1 r j).length=8*j:=by
 intro j hj;rcases (show j=0∨j=1∨j=2∨j=3∨j=4∨j=5 by omega) with rfl|rfl|rfl|rfl|rfl|rfl <;> simp [recP1,Rc.nums,Zb1]
theorem Zdx (r:Rc) (i:Nat):recP2 r (i+1)=recP2 r i++clB (clAt r i) 3:=by
 unfold recP2;rw [List.range_succ,Zcu,ZV];simp
theorem Zfe (r:Rc):∀ i,(recP2 r i).length=40+24*i:=by
 intro i;induction i with
 | zero=>simp [recP2,Zef]
 | succ i ih=>rw [Zdx,Zs,ih,Zc1 _ _ (ZC _)];omega
theorem Zmb:∀ (l:List Cl) (last:Int),clsGo l last=true->∀ c ∈ l,mayC c.id c.pos=true
 | [],_,_,c,hc=>by cases hc
 | x::l,last,h,c,hc=>by
  simp only [clsGo,ZR] at h;rcases Z4.1 hc with rfl|hc
  ·exact h.1.1
  ·exact Zmb l _ h.2 c hc
theorem Zdu {l:List Cl} (h:Zae l=true):l.length<=4∧∀ c ∈ l,(1<=c.id∧c.id<=1073741824)∧0<=c.pos∧c.pos<=1099511627776:=by
 unfold Zae at h;simp only [ZR,Zk] at h;refine ⟨h.2,fun c hc=>?_⟩;have h1:=Zmb l 0 h.1 c hc;unfold mayC at h1;rw [Zk] at h1;omega
theorem ZmB {r:Rc} (h:Zae r.cls=true) (i:Nat):(0<=(clAt r i).id∧(clAt r i).id<=1073741824)∧0<=(clAt r i).pos∧(clAt r i).pos<=1099511627776:=by
 unfold clAt;cases hi:r.cls[i]? with
 | none=>simp [clZ]
 | some c =>
  have:=(Zdu h).2 c (ZaG hi);simp only [ZgM];omega
theorem Rc.nums_ok {r:Rc} (h:r.Ok):∀ x ∈ r.nums,0<=x∧x<=2199023255552:=by
 have h1:=h.shape;unfold Rg.okB at h1;rw [Zk] at h1;have h2:=h.first;have h3:=h.set;intro x hx;simp only [Rc.nums,Z4,Zbv,Zbi] at hx;rcases hx with rfl|rfl|rfl|rfl|rfl <;> omega
section
theorem ZbM {v:Value} {ts:List Tag} (h:St W I w l) (hv:RowI I 4 v ts.length (flat ts)):∃ A c,v=slice A ts.length c∧ts.length<=c∧TagsAt w A ts.length ts:=by
 obtain ⟨A,c,rfl,h2,h3,h4,h5,h6⟩:=hv;refine ⟨A,c,rfl,h3,rfl,fun hn=>?_⟩;obtain ⟨b,off,cs,t,f,rfl,hb,hc⟩:=h6 hn;refine ⟨b,off,rfl,(Za9.1 (h.imm_heap hb)).1,fun i t hi=>?_⟩;have hw:=Zc (h.imm_heap hb);have g:∀ j u,j<4->t.vals[j]?=some u->w.cell? ⟨b,off+(i*4+j),none⟩=some u:=fun j u hj hu=>by
  rw [hw];exact hc (i*4+j) u ((Zde (mk:=Tag.vals) (fun _=>rfl) ts i j t hi hj).trans hu)
 exact ⟨g 0 _ (by decide) rfl,g 1 _ (by decide) rfl,g 2 _ (by decide) rfl,g 3 _ (by decide) rfl⟩
theorem ZaC {b:Nat} {c0 c1 c2 c3 c4 c5 c6:Value} {t:TypeId} {f:Nat × Nat} (h:St W I w (pt b (cells #[c0,c1,c2,c3,c4,c5,c6] t f)::l)):w.cell? ⟨b,0,none⟩=some c0∧w.cell? ⟨b,1,none⟩=some c1∧w.cell? ⟨b,2,none⟩=some c2∧w.cell? ⟨b,3,none⟩=some c3∧w.cell? ⟨b,4,none⟩=some c4∧w.cell? ⟨b,5,none⟩=some c5∧w.cell? ⟨b,6,none⟩=some c6:=by
 have y:=Zc h.heap;have y0:=y 0;have y1:=y 1;have y2:=y 2;have y3:=y 3;have y4:=y 4;have y5:=y 5;have y6:=y 6;simp at y0 y1 y2 y3 y4 y5 y6;exact ⟨y0,y1,y2,y3,y4,y5,y6⟩
theorem Zs1 (r:Rc) (vt vc:Value) (h:St W I w l) (hr:r.Ok) (hI:recI I r vt vc) :
  Calls prog 149 #[.agg (r.cells vt vc)] w fun e w'=>∃ A' c' q,e=.returned (slice A' q.length c')∧q=recB r∧Below w.heap.size w w'∧w'.ownsRow w.heap.size 5 1 (slice A' q.length c') q.length (q.map byteV):=by
 have hn:=Rc.nums_ok hr;have hca:=fun i=>ZmB hr.cls i;have hcl:=(Zdu hr.cls).1;have hsm:=ZeD hr.tags;obtain ⟨At,ct,rfl,hct,_⟩:=ZbM h hI.1;have HT:=Zh hI.1;have HC:=Zh hI.2;obtain ⟨Ac,cc,rfl,_⟩:=hI.2;have h0:=(St.init w).alloc (cells (r.cells (slice At r.tags.length ct) (slice Ac r.cls.length cc)) 105);have h1:=h0.row_nil 5 1;have H0:=Zh h;have HR:=Zh hr;obtain ⟨R,hR⟩:∃ R,r=R:=⟨_,rfl⟩;have e1:=Rc.cells;obtain ⟨⟨a,b,sz⟩,fi,st,tags,cls⟩:=r;simp only [Rc.cells] at h0 h1 |-;simp only at hR hcl hsm hct;have H1:=Zh h1;have HN:=Zh hn;have HCA:=Zh hca;have HRR:=Zh hR;clear h h0 h1 hr hI hn hca e1 hR;have i0:∀ w:World,(Instr.index 245 (.agg #[int i64 a,int i64 b,int i64 sz,int i64 fi,int i64 st]) (int i64 0)).run prog w=.ok (int i64 a) w:=fun _=>by kernel_rfl
 have i1:∀ w:World,(Instr.index 245 (.agg #[int i64 a,int i64 b,int i64 sz,int i64 fi,int i64 st]) (int i64 1)).run prog w=.ok (int i64 b) w:=fun _=>by kernel_rfl
 have i2:∀ w:World,(Instr.index 245 (.agg #[int i64 a,int i64 b,int i64 sz,int i64 fi,int i64 st]) (int i64 2)).run prog w=.ok (int i64 sz) w:=fun _=>by kernel_rfl
 have i3:∀ w:World,(Instr.index 245 (.agg #[int i64 a,int i64 b,int i64 sz,int i64 fi,int i64 st]) (int i64 3)).run prog w=.ok (int i64 fi) w:=fun _=>by kernel_rfl
 have i4:∀ w:World,(Instr.index 245 (.agg #[int i64 a,int i64 b,int i64 sz,int i64 fi,int i64 st]) (int i64 4)).run prog w=.ok (int i64 st) w:=fun _=>by kernel_rfl
 go_enter func149,ntmps149;go_wp2;go_loopw [3,27] (fun a3 a27 wr=>∃ (i:Nat) (A':Option Addr) (c':Nat) (q:List Int),a27=int i64 i∧i<=5∧a3=slice A' q.length c'∧q=recP1 (⟨⟨a,b,sz⟩,fi,st,tags,cls⟩:Rc) i∧St w w.hp wr [HP.row 5 1 (slice A' q.length c') q.length (q.map byteV),pt w.heap.size (cells #[int i64 a,int i64 b,int i64 sz,int i64 fi,int i64 st,slice At tags.length ct,slice Ac cls.length cc] 105)]) (fun _ a27 _=>5 - (intOf a27).toNat);case atStart=>exact ⟨0,none,0,[],rfl,by omega,rfl,by simp [recP1],H1.o⟩
 case round =>
  obtain ⟨i,A',c',q,rfl,hi,rfl,hq,hst⟩:=hrel;clear H1;rcases (show i=0∨i=1∨i=2∨i=3∨i=4∨i=5 by omega) with rfl|rfl|rfl|rfl|rfl|rfl
  ·have hb:=HN.o a (by simp [Rc.nums]);have hl:=Zef (⟨⟨a,b,sz⟩,fi,st,tags,cls⟩:Rc) 0 (by decide);rw [<-hq] at hl;have hpu:=St.put_call a 8 hst (by omega) (by omega) (by decide) (by decide) (by omega);have hw:IntKind.u64.wrap a=a:=by rw [IntKind.wrap_u64];omega
   have HPU:=Zh hpu;have HQ:=Zh hq;clear hpu hst hb hl hq;go_wp2_with fail;refine HPU.o.mono ?_;rintro e w3 ⟨A3,c3,q3,rfl,hq3,h3⟩;have H3:=Zh h3;have HQ3:=Zh (show q3=recP1 (⟨⟨a,b,sz⟩,fi,st,tags,cls⟩:Rc) 1 by rw [hq3,HQ.o];simp [recP1,Rc.nums]);clear h3 hq3 HPU;go_wp2;go_roundw;case rel=>exact ⟨1,A3,c3,q3,rfl,by omega,rfl,HQ3.o,H3.o⟩
   case measure=>simp [intOf]
  ·have hb:=HN.o b (by simp [Rc.nums]);have hl:=Zef (⟨⟨a,b,sz⟩,fi,st,tags,cls⟩:Rc) 1 (by decide);rw [<-hq] at hl;have hpu:=St.put_call b 8 hst (by omega) (by omega) (by decide) (by decide) (by omega);have hw:IntKind.u64.wrap b=b:=by rw [IntKind.wrap_u64];omega
   have HPU:=Zh hpu;have HQ:=Zh hq;clear hpu hst hb hl hq;go_wp2_with fail;refine HPU.o.mono ?_;rintro e w3 ⟨A3,c3,q3,rfl,hq3,h3⟩;have H3:=Zh h3;have HQ3:=Zh (show q3=recP1 (⟨⟨a,b,sz⟩,fi,st,tags,cls⟩:Rc) 2 by rw [hq3,HQ.o];simp [recP1,Rc.nums]);clear h3 hq3 HPU;go_wp2;go_roundw;case rel=>exact ⟨2,A3,c3,q3,rfl,by omega,rfl,HQ3.o,H3.o⟩
   case measure=>simp [intOf]
  ·have hb:=HN.o sz (by simp [Rc.nums]);have hl:=Zef (⟨⟨a,b,sz⟩,fi,st,tags,cls⟩:Rc) 2 (by decide);rw [<-hq] at hl;have hpu:=St.put_call sz 8 hst (by omega) (by omega) (by decide) (by decide) (by omega);have hw:IntKind.u64.wrap sz=sz:=by rw [IntKind.wrap_u64];omega
   have HPU:=Zh hpu;have HQ:=Zh hq;clear hpu hst hb hl hq;go_wp2_with fail;refine HPU.o.mono ?_;rintro e w3 ⟨A3,c3,q3,rfl,hq3,h3⟩;have H3:=Zh h3;have HQ3:=Zh (show q3=recP1 (⟨⟨a,b,sz⟩,fi,st,tags,cls⟩:Rc) 3 by rw [hq3,HQ.o];simp [recP1,Rc.nums]);clear h3 hq3 HPU;go_wp2;go_roundw;case rel=>exact ⟨3,A3,c3,q3,rfl,by omega,rfl,HQ3.o,H3.o⟩
   case measure=>simp [intOf]
  ·have hb:=HN.o fi (by simp [Rc.nums]);have hl:=Zef (⟨⟨a,b,sz⟩,fi,st,tags,cls⟩:Rc) 3 (by decide);rw [<-hq] at hl;have hpu:=St.put_call fi 8 hst (by omega) (by omega) (by decide) (by decide) (by omega);have hw:IntKind.u64.wrap fi=fi:=by rw [IntKind.wrap_u64];omega
   have HPU:=Zh hpu;have HQ:=Zh hq;clear hpu hst hb hl hq;go_wp2_with fail;refine HPU.o.mono ?_;rintro e w3 ⟨A3,c3,q3,rfl,hq3,h3⟩;have H3:=Zh h3;have HQ3:=Zh (show q3=recP1 (⟨⟨a,b,sz⟩,fi,st,tags,cls⟩:Rc) 4 by rw [hq3,HQ.o];simp [recP1,Rc.nums]);clear h3 hq3 HPU;go_wp2;go_roundw;case rel=>exact ⟨4,A3,c3,q3,rfl,by omega,rfl,HQ3.o,H3.o⟩
   case measure=>simp [intOf]
  ·have hb:=HN.o st (by simp [Rc.nums]);have hl:=Zef (⟨⟨a,b,sz⟩,fi,st,tags,cls⟩:Rc) 4 (by decide);rw [<-hq] at hl;have hpu:=St.put_call st 8 hst (by omega) (by omega) (by decide) (by decide) (by omega);have hw:IntKind.u64.wrap st=st:=by rw [IntKind.wrap_u64];omega
   have HPU:=Zh hpu;have HQ:=Zh hq;clear hpu hst hb hl hq;go_wp2_with fail;refine HPU.o.mono ?_;rintro e w3 ⟨A3,c3,q3,rfl,hq3,h3⟩;have H3:=Zh h3;have HQ3:=Zh (show q3=recP1 (⟨⟨a,b,sz⟩,fi,st,tags,cls⟩:Rc) 5 by rw [hq3,HQ.o];simp [recP1,Rc.nums]);clear h3 hq3 HPU;go_wp2;go_roundw;case rel=>exact ⟨5,A3,c3,q3,rfl,by omega,rfl,HQ3.o,H3.o⟩
   case measure=>simp [intOf]
  ·have HQ:=Zh (show q=recP2 (⟨⟨a,b,sz⟩,fi,st,tags,cls⟩:Rc) 0 by rw [hq];simp [recP2]);have H2:=Zh hst;clear hst hq i0 i1 i2 i3 i4;rw [show ((5:Nat):Int)=5 from rfl];go_wp2;go_loopw [3,35] (fun a3 a35 wr=>∃ (i:Nat) (A':Option Addr) (c':Nat) (q:List Int),a35=int i64 i∧i<=4∧a3=slice A' q.length c'∧q=recP2 (⟨⟨a,b,sz⟩,fi,st,tags,cls⟩:Rc) i∧St w w.hp wr [HP.row 5 1 (slice A' q.length c') q.length (q.map byteV),pt w.heap.size (cells #[int i64 a,int i64 b,int i64 sz,int i64 fi,int i64 st,slice At tags.length ct,slice Ac cls.length cc] 105)]) (fun _ a35 _=>4 - (intOf a35).toNat);case atStart=>exact ⟨0,A',c',q,rfl,by omega,rfl,HQ.o,H2.o⟩
   case round =>
    obtain ⟨i,A',c',q,rfl,hi,rfl,hq,hst⟩:=hrel;clear H2 HQ;by_cases h4:i<4
    ·have d4:decide ((i:Int)<4)=true:=by rw [Zk];omega
     obtain ⟨⟨cid,cpos,coff⟩,hcc⟩:∃ c,clAt (⟨⟨a,b,sz⟩,fi,st,tags,cls⟩:Rc) i=c:=⟨_,rfl⟩;have hco:=HCA.o i;rw [hcc] at hco;simp only at hco;have HS:=Zh (Zdx (⟨⟨a,b,sz⟩,fi,st,tags,cls⟩:Rc) i);rw [hcc] at HS;obtain ⟨x0,x1,x2,x3,x4,x5,x6⟩:=ZaC (hst.pull 1 _ rfl);have hlt0:=(hst.pull 1 _ rfl).lt;have hst2:=hst.keep (ZS wr (cells #[int i64 cid,int i64 cpos,.bool coff] 212));have HST:=Zh hst2;have HQ:=Zh hq;have HCO:=Zh hco;have HL2:=Zh (Zfe (⟨⟨a,b,sz⟩,fi,st,tags,cls⟩:Rc) i);have hw1:IntKind.u64.wrap cid=cid:=by rw [IntKind.wrap_u64];omega
     have hw2:IntKind.u64.wrap cpos=cpos:=by rw [IntKind.wrap_u64];omega
     by_cases hin:i<cls.length
     ·have d5:decide ((i:Int)<(cls.length:Int))=true:=by rw [Zk];omega
      have hget:cls[i]?=some ⟨cid,cpos,coff⟩:=by
       unfold clAt at hcc;rw [Zy hin] at hcc |-;rw [<-hcc];rfl
      obtain ⟨b0,off,e1,hcell⟩:=ZbL (i:=i) HC.o (Hp.sub.refl I) (H0.o.keep hst.below) (fun _=>rfl) hget;simp only [Zz,Zap] at e1;subst e1;have y0:=hcell 0 (by omega);have y1:=hcell 1 (by omega);have y2:=hcell 2 (by omega);simp only [Cl.vals,Zg,Zi,ZaP] at y0 y1 y2;have hin2:(i:Int)<(cls.length:Int):=by omega
      have hb0:b0<wr.heap.size:=ZfF wr _ y0;clear hcell hget hcc hst hst2 hq hco;cases coff with
      | true =>
       have i0:∀ w:World,(Instr.index 246 (.agg #[int i64 cid,int i64 cpos,int i64 1]) (int i64 0)).run prog w=.ok (int i64 cid) w:=fun _=>by kernel_rfl
       have i1:∀ w:World,(Instr.index 246 (.agg #[int i64 cid,int i64 cpos,int i64 1]) (int i64 1)).run prog w=.ok (int i64 cpos) w:=fun _=>by kernel_rfl
       have i2:∀ w:World,(Instr.index 246 (.agg #[int i64 cid,int i64 cpos,int i64 1]) (int i64 2)).run prog w=.ok (int i64 1) w:=fun _=>by kernel_rfl
       go_wp2;go_loopw [3,56] (fun a3 a56 wr=>∃ (j:Nat) (A':Option Addr) (c':Nat) (q:List Int),a56=int i64 j∧j<=3∧a3=slice A' q.length c'∧q=recP2 (⟨⟨a,b,sz⟩,fi,st,tags,cls⟩:Rc) i++clB (⟨cid,cpos,true⟩:Cl) j∧St w w.hp wr [HP.row 5 1 (slice A' q.length c') q.length (q.map byteV),pt w.heap.size (cells #[int i64 a,int i64 b,int i64 sz,int i64 fi,int i64 st,slice At tags.length ct,slice (some ⟨b0,off,none⟩) cls.length cc] 105)]) (fun _ a56 _=>3 - (intOf a56).toNat);case atStart=>exact ⟨0,A',c',q,rfl,by omega,rfl,by rw [HQ.o];simp [clB],HST.o⟩
       case round =>
        obtain ⟨j,A',c',q,rfl,hj,rfl,hq,hst⟩:=hrel;clear HQ HST;rcases (show j=0∨j=1∨j=2∨j=3 by omega) with rfl|rfl|rfl|rfl
        ·have hl:=congrArg List.length hq;rw [Zs,HL2.o,Zc1 _ 0 (by decide)] at hl;have hpu:=St.put_call cid 8 hst (by have:=HCO.o;omega) (by have:=HCO.o;omega) (by decide) (by decide) (by omega);have HPU:=Zh hpu;have HQ:=Zh hq;clear hpu hst hl hq;go_wp2_with fail;refine HPU.o.mono ?_;rintro e w3 ⟨A3,c3,q3,rfl,hq3,h3⟩;have H3:=Zh h3;have HQ3:=Zh (show q3=recP2 (⟨⟨a,b,sz⟩,fi,st,tags,cls⟩:Rc) i++clB (⟨cid,cpos,true⟩:Cl) 1 by rw [hq3,HQ.o,ZV];simp [clB,Cl.nums]);clear h3 hq3 HPU;go_wp2;go_roundw;case rel=>exact ⟨1,A3,c3,q3,rfl,by omega,rfl,HQ3.o,H3.o⟩
         case measure=>simp [intOf]
        ·have hl:=congrArg List.length hq;rw [Zs,HL2.o,Zc1 _ 1 (by decide)] at hl;have hpu:=St.put_call cpos 8 hst (by have:=HCO.o;omega) (by have:=HCO.o;omega) (by decide) (by decide) (by omega);have HPU:=Zh hpu;have HQ:=Zh hq;clear hpu hst hl hq;go_wp2_with fail;refine HPU.o.mono ?_;rintro e w3 ⟨A3,c3,q3,rfl,hq3,h3⟩;have H3:=Zh h3;have HQ3:=Zh (show q3=recP2 (⟨⟨a,b,sz⟩,fi,st,tags,cls⟩:Rc) i++clB (⟨cid,cpos,true⟩:Cl) 2 by rw [hq3,HQ.o,ZV];simp [clB,Cl.nums]);clear h3 hq3 HPU;go_wp2;go_roundw;case rel=>exact ⟨2,A3,c3,q3,rfl,by omega,rfl,HQ3.o,H3.o⟩
         case measure=>simp [intOf]
        ·have hl:=congrArg List.length hq;rw [Zs,HL2.o,Zc1 _ 2 (by decide)] at hl;have hpu:=St.put_call 1 8 hst (by have:=HCO.o;omega) (by have:=HCO.o;omega) (by decide) (by decide) (by omega);have HPU:=Zh hpu;have HQ:=Zh hq;clear hpu hst hl hq;go_wp2_with fail;refine HPU.o.mono ?_;rintro e w3 ⟨A3,c3,q3,rfl,hq3,h3⟩;have H3:=Zh h3;have HQ3:=Zh (show q3=recP2 (⟨⟨a,b,sz⟩,fi,st,tags,cls⟩:Rc) i++clB (⟨cid,cpos,true⟩:Cl) 3 by rw [hq3,HQ.o,ZV];simp [clB,Cl.nums]);clear h3 hq3 HPU;go_wp2;go_roundw;case rel=>exact ⟨3,A3,c3,q3,rfl,by omega,rfl,HQ3.o,H3.o⟩
         case measure=>simp [intOf]
        ·have HQ:=Zh (hq.trans HS.o.symm);have H9:=Zh hst;clear hst hq;go_wp2;go_roundw;case rel=>exact ⟨i+1,A',c',q,by go_num,by omega,rfl,HQ.o,H9.o⟩
         case measure=>simp [intOf]<;>omega
      | false =>
       have i0:∀ w:World,(Instr.index 246 (.agg #[int i64 cid,int i64 cpos,int i64 0]) (int i64 0)).run prog w=.ok (int i64 cid) w:=fun _=>by kernel_rfl
       have i1:∀ w:World,(Instr.index 246 (.agg #[int i64 cid,int i64 cpos,int i64 0]) (int i64 1)).run prog w=.ok (int i64 cpos) w:=fun _=>by kernel_rfl
       have i2:∀ w:World,(Instr.index 246 (.agg #[int i64 cid,int i64 cpos,int i64 0]) (int i64 2)).run prog w=.ok (int i64 0) w:=fun _=>by kernel_rfl
       go_wp2;go_loopw [3,56] (fun a3 a56 wr=>∃ (j:Nat) (A':Option Addr) (c':Nat) (q:List Int),a56=int i64 j∧j<=3∧a3=slice A' q.length c'∧q=recP2 (⟨⟨a,b,sz⟩,fi,st,tags,cls⟩:Rc) i++clB (⟨cid,cpos,false⟩:Cl) j∧St w w.hp wr [HP.row 5 1 (slice A' q.length c') q.length (q.map byteV),pt w.heap.size (cells #[int i64 a,int i64 b,int i64 sz,int i64 fi,int i64 st,slice At tags.length ct,slice (some ⟨b0,off,none⟩) cls.length cc] 105)]) (fun _ a56 _=>3 - (intOf a56).toNat);case atStart=>exact ⟨0,A',c',q,rfl,by omega,rfl,by rw [HQ.o];simp [clB],HST.o⟩
       case round =>
        obtain ⟨j,A',c',q,rfl,hj,rfl,hq,hst⟩:=hrel;clear HQ HST;rcases (show j=0∨j=1∨j=2∨j=3 by omega) with rfl|rfl|rfl|rfl
        ·have hl:=congrArg List.length hq;rw [Zs,HL2.o,Zc1 _ 0 (by decide)] at hl;have hpu:=St.put_call cid 8 hst (by have:=HCO.o;omega) (by have:=HCO.o;omega) (by decide) (by decide) (by omega);have HPU:=Zh hpu;have HQ:=Zh hq;clear hpu hst hl hq;go_wp2_with fail;refine HPU.o.mono ?_;rintro e w3 ⟨A3,c3,q3,rfl,hq3,h3⟩;have H3:=Zh h3;have HQ3:=Zh (show q3=recP2 (⟨⟨a,b,sz⟩,fi,st,tags,cls⟩:Rc) i++clB (⟨cid,cpos,false⟩:Cl) 1 by rw [hq3,HQ.o,ZV];simp [clB,Cl.nums]);clear h3 hq3 HPU;go_wp2;go_roundw;case rel=>exact ⟨1,A3,c3,q3,rfl,by omega,rfl,HQ3.o,H3.o⟩
         case measure=>simp [intOf]
        ·have hl:=congrArg List.length hq;rw [Zs,HL2.o,Zc1 _ 1 (by decide)] at hl;have hpu:=St.put_call cpos 8 hst (by have:=HCO.o;omega) (by have:=HCO.o;omega) (by decide) (by decide) (by omega);have HPU:=Zh hpu;have HQ:=Zh hq;clear hpu hst hl hq;go_wp2_with fail;refine HPU.o.mono ?_;rintro e w3 ⟨A3,c3,q3,rfl,hq3,h3⟩;have H3:=Zh h3;have HQ3:=Zh (show q3=recP2 (⟨⟨a,b,sz⟩,fi,st,tags,cls⟩:Rc) i++clB (⟨cid,cpos,false⟩:Cl) 2 by rw [hq3,HQ.o,ZV];simp [clB,Cl.nums]);clear h3 hq3 HPU;go_wp2;go_roundw;case rel=>exact ⟨2,A3,c3,q3,rfl,by omega,rfl,HQ3.o,H3.o⟩
         case measure=>simp [intOf]
        ·have hl:=congrArg List.length hq;rw [Zs,HL2.o,Zc1 _ 2 (by decide)] at hl;have hpu:=St.put_call 0 8 hst (by have:=HCO.o;omega) (by have:=HCO.o;omega) (by decide) (by decide) (by omega);have HPU:=Zh hpu;have HQ:=Zh hq;clear hpu hst hl hq;go_wp2_with fail;refine HPU.o.mono ?_;rintro e w3 ⟨A3,c3,q3,rfl,hq3,h3⟩;have H3:=Zh h3;have HQ3:=Zh (show q3=recP2 (⟨⟨a,b,sz⟩,fi,st,tags,cls⟩:Rc) i++clB (⟨cid,cpos,false⟩:Cl) 3 by rw [hq3,HQ.o,ZV];simp [clB,Cl.nums]);clear h3 hq3 HPU;go_wp2;go_roundw;case rel=>exact ⟨3,A3,c3,q3,rfl,by omega,rfl,HQ3.o,H3.o⟩
         case measure=>simp [intOf]
        ·have HQ:=Zh (hq.trans HS.o.symm);have H9:=Zh hst;clear hst hq;go_wp2;go_roundw;case rel=>exact ⟨i+1,A',c',q,by go_num,by omega,rfl,HQ.o,H9.o⟩
         case measure=>simp [intOf]<;>omega
     ·have d5:decide ((i:Int)<(cls.length:Int))=false:=by rw [ZT];omega
      have hget:cls[i]?=none:=ZeX (by omega);unfold clAt at hcc;simp only [hget,Option.getD_none,clZ,Cl.mk.injEq] at hcc;obtain ⟨rfl,rfl,rfl⟩:=hcc;clear hget hst hst2 hq hco;have i0:∀ w:World,(Instr.index 246 (.agg #[int i64 0,int i64 0,int i64 0]) (int i64 0)).run prog w=.ok (int i64 0) w:=fun _=>by kernel_rfl
      have i1:∀ w:World,(Instr.index 246 (.agg #[int i64 0,int i64 0,int i64 0]) (int i64 1)).run prog w=.ok (int i64 0) w:=fun _=>by kernel_rfl
      have i2:∀ w:World,(Instr.index 246 (.agg #[int i64 0,int i64 0,int i64 0]) (int i64 2)).run prog w=.ok (int i64 0) w:=fun _=>by kernel_rfl
      go_wp2;go_loopw [3,56] (fun a3 a56 wr=>∃ (j:Nat) (A':Option Addr) (c':Nat) (q:List Int),a56=int i64 j∧j<=3∧a3=slice A' q.length c'∧q=recP2 (⟨⟨a,b,sz⟩,fi,st,tags,cls⟩:Rc) i++clB (⟨0,0,false⟩:Cl) j∧St w w.hp wr [HP.row 5 1 (slice A' q.length c') q.length (q.map byteV),pt w.heap.size (cells #[int i64 a,int i64 b,int i64 sz,int i64 fi,int i64 st,slice At tags.length ct,slice Ac cls.length cc] 105)]) (fun _ a56 _=>3 - (intOf a56).toNat);case atStart=>exact ⟨0,A',c',q,rfl,by omega,rfl,by rw [HQ.o];simp [clB],HST.o⟩
      case round =>
       obtain ⟨j,A',c',q,rfl,hj,rfl,hq,hst⟩:=hrel;clear HQ HST;rcases (show j=0∨j=1∨j=2∨j=3 by omega) with rfl|rfl|rfl|rfl
       ·have hl:=congrArg List.length hq;rw [Zs,HL2.o,Zc1 _ 0 (by decide)] at hl;have hpu:=St.put_call 0 8 hst (by have:=HCO.o;omega) (by have:=HCO.o;omega) (by decide) (by decide) (by omega);have HPU:=Zh hpu;have HQ:=Zh hq;clear hpu hst hl hq;go_wp2_with fail;refine HPU.o.mono ?_;rintro e w3 ⟨A3,c3,q3,rfl,hq3,h3⟩;have H3:=Zh h3;have HQ3:=Zh (show q3=recP2 (⟨⟨a,b,sz⟩,fi,st,tags,cls⟩:Rc) i++clB (⟨0,0,false⟩:Cl) 1 by rw [hq3,HQ.o,ZV];simp [clB,Cl.nums]);clear h3 hq3 HPU;go_wp2;go_roundw;case rel=>exact ⟨1,A3,c3,q3,rfl,by omega,rfl,HQ3.o,H3.o⟩
        case measure=>simp [intOf]
       ·have hl:=congrArg List.length hq;rw [Zs,HL2.o,Zc1 _ 1 (by decide)] at hl;have hpu:=St.put_call 0 8 hst (by have:=HCO.o;omega) (by have:=HCO.o;omega) (by decide) (by decide) (by omega);have HPU:=Zh hpu;have HQ:=Zh hq;clear hpu hst hl hq;go_wp2_with fail;refine HPU.o.mono ?_;rintro e w3 ⟨A3,c3,q3,rfl,hq3,h3⟩;have H3:=Zh h3;have HQ3:=Zh (show q3=recP2 (⟨⟨a,b,sz⟩,fi,st,tags,cls⟩:Rc) i++clB (⟨0,0,false⟩:Cl) 2 by rw [hq3,HQ.o,ZV];simp [clB,Cl.nums]);clear h3 hq3 HPU;go_wp2;go_roundw;case rel=>exact ⟨2,A3,c3,q3,rfl,by omega,rfl,HQ3.o,H3.o⟩
        case measure=>simp [intOf]
       ·have hl:=congrArg List.length hq;rw [Zs,HL2.o,Zc1 _ 2 (by decide)] at hl;have hpu:=St.put_call 0 8 hst (by have:=HCO.o;omega) (by have:=HCO.o;omega) (by decide) (by decide) (by omega);have HPU:=Zh hpu;have HQ:=Zh hq;clear hpu hst hl hq;go_wp2_with fail;refine HPU.o.mono ?_;rintro e w3 ⟨A3,c3,q3,rfl,hq3,h3⟩;have H3:=Zh h3;have HQ3:=Zh (show q3=recP2 (⟨⟨a,b,sz⟩,fi,st,tags,cls⟩:Rc) i++clB (⟨0,0,false⟩:Cl) 3 by rw [hq3,HQ.o,ZV];simp [clB,Cl.nums]);clear h3 hq3 HPU;go_wp2;go_roundw;case rel=>exact ⟨3,A3,c3,q3,rfl,by omega,rfl,HQ3.o,H3.o⟩
        case measure=>simp [intOf]
       ·have HQ:=Zh (hq.trans HS.o.symm);have H9:=Zh hst;clear hst hq;go_wp2;go_roundw;case rel=>exact ⟨i+1,A',c',q,by go_num,by omega,rfl,HQ.o,H9.o⟩
        case measure=>simp [intOf]<;>omega
    ·obtain rfl:i=4:=by omega
     have d4:decide (((4:Nat):Int)<4)=false:=by decide
     obtain ⟨x0,x1,x2,x3,x4,x5,x6⟩:=ZaC (hst.pull 1 _ rfl);obtain ⟨At',ct',e1,hct',hta⟩:=ZbM (H0.o.keep hst.below) HT.o;simp only [Zz,ZaR] at e1;obtain ⟨rfl,rfl⟩:=e1;have hcp:=Zlo At ct tags wr hta (by omega) hct;obtain ⟨cb,hcb⟩:∃ cb,chainB tags=cb:=⟨_,rfl⟩;rw [hcb] at hcp;have HCP:=Zh hcp;have HCB:=Zh hcb;have HQ:=Zh hq;have HST:=Zh hst;have HRT:=Zh HR.o.tags
     have HCL:=Zh (show cb.length<=2000 by
      rw [<-hcb];unfold chainB;split
      ·have:=Zea tags tags.length;show (Zax tags tags.length).length<=2000;omega
      ·simp)
     have hql:q.length=136:=by rw [hq,Zfe]
     have HQL:=Zh hql;clear hcp hcb hq hst hql hta;go_wp2_with fail;refine HCP.o.mono ?_;rintro e w5 ⟨A5,c5,rfl,h5⟩;have h6:=HST.o.keep h5.below;have hsrc:=SliceSrc.of_owns h5.row_owns (Zcb cb);obtain ⟨v7,w7,hr7,h7⟩:=St.bytes_append 46 h6 hsrc (by have:=HQL.o;have:=HCL.o;omega);obtain ⟨A7,c7,rfl⟩:=ZA h7.row_owns;have e7:q.length+cb.length=(q++cb).length:=by rw [Zs]
     obtain ⟨q7,hq7⟩:∃ q7,q++cb=q7:=⟨_,rfl⟩;rw [<-Zbo] at h7;rw [e7,hq7] at h7 hr7;have HR7:=Zh hr7;have H7:=Zh h7;have HQ7:=Zh hq7;clear h5 h6 hsrc hr7 h7 hq7 e7 x0 x1 x2 x3 x4 x5 x6;go_wp2_with (at_builtin;refine ZZ _ rfl (.tmp 71) (.tmp 72) 46 46 rfl _ _ rfl rfl _ _ HR7.o ?_);go_ret;exact ⟨A7,c7,q7,rfl,by rw [<-HQ7.o,HQ.o,<-HCB.o];rfl,H7.o.below,H7.o.row_new⟩
end
def Zd0:List Int:=[72,71,74,69]
def tagR (r:List Int):Int:=getB ((r.drop 4).take 4)
def seqR (r:List Int):Int:=getB ((r.drop 8).take 8)
def lenR (r:List Int):Int:=getB ((r.drop 16).take 2)
def enZ:En:=⟨0,0,[]⟩
def takeR (r:List Int):En × Nat × Int :=
 if r=[] then (enZ,0,4)
 else if r.length<22∨r.take 4≠Zd0 then (enZ,0,2)
 else if mayF (tagR r) (seqR r) (lenR r)=false∨r.length<22+(lenR r).toNat then (enZ,0,2)
 else if getB ((r.drop (18+(lenR r).toNat)).take 4)≠crcOf (r.take (18+(lenR r).toNat)) then (enZ,0,13)
 else (⟨tagR r,seqR r,(r.drop 18).take (lenR r).toNat⟩,22+(lenR r).toNat,0)
theorem Zim {w:World} {s:Nat} {g o n c m:Nat} {xs:List Value} (h:SliceSrc w s (slice (some ⟨g,o,none⟩) n c) n xs) (hm:m<=n):SliceSrc w s (slice (some ⟨g,o+m*s,none⟩) (n - m) (c - m)) (n - m) (xs.drop (m*s)):=by
 obtain ⟨A1,c1,e,hsrc,hA⟩:=h;simp only [Zz,ZaR] at e;obtain ⟨rfl,rfl⟩:=e;have hms:=Zdb s hm;refine ⟨_,_,rfl,⟨by rw [ZW,hsrc.len,ZfM],fun hp=>?_,fun u hu=>hsrc.one u (Zda hu)⟩,fun e=>by cases e⟩;obtain ⟨ad,e,hc⟩:=hsrc.cells (by omega);cases e;refine ⟨_,rfl,fun j u hu=>?_⟩;rw [Zbw] at hu;have:=hc _ u hu;rw [add_plain] at this |-;rw [Zbb];exact this
section
theorem St.set3 {b:Nat} {c0 c1 c2:Value} {t:TypeId} {f:Nat × Nat} (h:St W I w (pt b (cells #[c0,c1,c2] t f)::l)) (v0 v1 v2:Value) :
  St W I (((w.setCell ⟨b,0,none⟩ v0).setCell ⟨b,1,none⟩ v1).setCell ⟨b,2,none⟩ v2) (pt b (cells #[v0,v1,v2] t f)::l):=by
 have h5:=((h.setCell 0 v0).setCell 1 v1).setCell 2 v2;simp only [Zf,Zd,Ze] at h5;exact h5
def ZiH (at':Nat) (t:En × Nat × Int):Int:=if t.2.2=0 then ((at'+t.2.1:Nat):Int) else 0
theorem Zpz (A:Option Addr) (c:Nat) (b:List Int) (at':Nat) (w:World) (hs:SliceSrc w 1 (slice A b.length c) b.length (b.map byteV)) (hc:b.length<=c) (hb:∀ x ∈ b,isByte x) (hat:at'<=b.length) (hbl:b.length<=1000000) :
  Calls prog 184 #[slice A b.length c,int i64 at'] w fun e w'=>∃ A' c',e=.returned (.tuple #[.agg #[int i64 (takeR (b.drop at')).1.tag,int i64 (takeR (b.drop at')).1.seq,slice A' (takeR (b.drop at')).1.data.length c'],int i64 (ZiH at' (takeR (b.drop at'))),int i64 (takeR (b.drop at')).2.2])∧St w w.hp w' [HP.row 5 1 (slice A' (takeR (b.drop at')).1.data.length c') (takeR (b.drop at')).1.data.length ((takeR (b.drop at')).1.data.map byteV)]:=by
 obtain ⟨t,ht⟩:∃ t,takeR (b.drop at')=t:=⟨_,rfl⟩;rw [ht];have h1:=(St.init w).alloc (cells #[int i64 0,int i64 0,slice none 0 0] 50);have d0:decide ((at':Int)<0)=false:=by rw [ZT];omega
 have d1:decide ((b.length:Int)<(at':Int))=false:=by rw [ZT];omega
 by_cases h0:at'=b.length
 ·subst h0;have ht2:t=(enZ,0,4):=by
   rw [<-ht];unfold takeR;rw [Zb (by simp)]
  subst ht2;obtain ⟨x0,x1,x2⟩:=Zak h1;have f0:=frozen_of_row h1.heap;have H1:=Zh h1;clear ht h1;go_enter func184,ntmps184;go_wp2_with fail;all_goals
   refine Zaj (v:=.tuple #[.agg #[int i64 0,int i64 0,slice none 0 0],int i64 0,int i64 4]) (by simp [results,results184,go_sem,x0,x1,x2]) rfl ?_;exact ⟨none,0,rfl,H1.o.drop.row_nil _ _⟩
 ·have hlt:at'<b.length:=by omega
  obtain ⟨r,hr⟩:∃ r,b.drop at'=r:=⟨_,rfl⟩;have hrl:r.length=b.length - at':=by rw [<-hr,ZW]
  obtain ⟨g,o,rfl,hg⟩:∃ g o,A=some ⟨g,o,none⟩∧g<w.heap.size:=by
   obtain ⟨A1,c1,e1,hsrc,_⟩:=hs;simp only [Zz,ZaR] at e1;obtain ⟨rfl,rfl⟩:=e1;obtain ⟨g,o,e,hg,_⟩:=ZgA hsrc (by omega);exact ⟨g,o,e,hg⟩
  have hsr:=Zim hs hat;rw [Zcj,<-ZeY,hr,<-hrl] at hsr;rw [hr] at ht;have hrb:∀ x ∈ r,isByte x:=by rw [<-hr];exact fun x hx=>hb x (Zda hx)
  have HRB:=Zh hrb;obtain ⟨m,hm⟩:∃ m,r.length=m:=⟨_,rfl⟩;obtain ⟨N,hN⟩:∃ N,b.length=N:=⟨_,rfl⟩;rw [hN] at hc hlt hrl hat hbl d1 h0 |-;rw [hm] at hrl hsr;obtain rfl:N=at'+m:=by omega
  have hs1:SliceSrc (w.alloc (cells #[int i64 0,int i64 0,slice none 0 0] 50)) 1 (slice (some ⟨g,o+at',none⟩) m (c - at')) m (r.map byteV):=hsr.below (ZS _ _);have hne:¬ c=at':=by omega
  have hm0:¬ m=0:=by omega
  have hrn:¬ r=[]:=by rintro rfl;simp at hm;omega
  have HS:=Zh hs1;have HM:=Zh hm;clear hs hb hr hsr hs1 hrb hm hN hrl;obtain ⟨x0,x1,x2⟩:=Zak h1;have f0:=frozen_of_row h1.heap;have hlt1:=h1.lt;have H1:=Zh h1;obtain ⟨w1,hw1⟩:=Zn (w.alloc (cells #[int i64 0,int i64 0,slice none 0 0] 50));have HW1:=Zh hw1;rw [<-hw1] at x0 x1 x2 f0 hlt1 HS H1;clear h1 hw1;by_cases h22:m<22
  ·have ht2:t=(enZ,0,2):=by rw [<-ht];unfold takeR;rw [Za hrn,Zb (.inl (by rw [HM.o];exact h22))]
   subst ht2;have d2:decide ((m:Int)<22)=true:=by rw [Zk];omega
   clear ht;go_enter func184,ntmps184;go_upto_region 1 with fail;rw [<-HW1.o];go_wp2;refine Zaj (v:=.tuple #[.agg #[int i64 0,int i64 0,slice none 0 0],int i64 0,int i64 2]) (by simp [results,results184,go_sem,x0,x1,x2]) rfl ?_;exact ⟨none,0,rfl,(H1.o.set3 (int i64 0) (int i64 0) (slice none 0 0)).drop.row_nil _ _⟩
  have d2:decide ((m:Int)<22)=false:=by rw [ZT];omega
  obtain ⟨C,hC⟩:∃ C,c - at'=C:=⟨_,rfl⟩;have hmC:m<=C:=by omega
  rw [hC] at HS;have h4:=Zgq HS.o (show 4<=m by omega);rw [Zcj,<-Zd8] at h4;have hcv:(convert 46 9 (slice (some ⟨g,o+at',none⟩) 4 C)).run prog w1=.ok (.string (strOfNums (r.take 4))) w1:=Ze7 h4;have hsb:((strOfNums (r.take 4)).toList==[72,71,74,69])=decide (r.take 4=Zd0):=by
   have h:=Zlt (a:=r.take 4) (b:=Zd0) (fun x hx=>HRB.o x (ZbI hx)) (by unfold Zd0 isByte;simp);rwa [show (strOfNums Zd0).toList=[72,71,74,69] by rw [Lib.strOfNums_toList];rfl] at h
  by_cases hmg:r.take 4=Zd0
  ·rw [Zt hmg] at hsb;have hnb:¬ (r.length<22∨r.take 4≠Zd0):=by rw [HM.o];exact fun q=>q.elim h22 (fun q=>q hmg)
   have hg1:Calls prog 202 #[(slice (some ⟨g,o+at',none⟩) m C),int i64 4,int i64 4] w1 fun e w'=>e=.returned (.tuple #[int u64 (tagR r),.bool true])∧w1=w':=Zfv _ r 4 4 w1 (by rw [HM.o];exact HS.o) HRB.o (by decide) (by decide) (by rw [HM.o];omega) (by rw [HM.o];omega);have hg2:Calls prog 202 #[(slice (some ⟨g,o+at',none⟩) m C),int i64 8,int i64 8] w1 fun e w'=>e=.returned (.tuple #[int u64 (seqR r),.bool true])∧w1=w':=Zfv _ r 8 8 w1 (by rw [HM.o];exact HS.o) HRB.o (by decide) (by decide) (by rw [HM.o];omega) (by rw [HM.o];omega);have hg3:Calls prog 202 #[(slice (some ⟨g,o+at',none⟩) m C),int i64 16,int i64 2] w1 fun e w'=>e=.returned (.tuple #[int u64 (lenR r),.bool true])∧w1=w':=Zfv _ r 16 2 w1 (by rw [HM.o];exact HS.o) HRB.o (by decide) (by decide) (by rw [HM.o];omega) (by rw [HM.o];omega);have ht':(if mayF (tagR r) (seqR r) (lenR r)=false∨r.length<22+(lenR r).toNat then (enZ,0,2) else if getB ((r.drop (18+(lenR r).toNat)).take 4)≠crcOf (r.take (18+(lenR r).toNat)) then (enZ,0,13) else (⟨tagR r,seqR r,(r.drop 18).take (lenR r).toNat⟩,22+(lenR r).toNat,0))=t:=by
    rw [<-ht];unfold takeR;rw [Za hrn,Za hnb]
   obtain ⟨tg,htg⟩:∃ x,tagR r=x:=⟨_,rfl⟩;obtain ⟨sq,hsq⟩:∃ x,seqR r=x:=⟨_,rfl⟩;obtain ⟨ln,hln⟩:∃ x,lenR r=x:=⟨_,rfl⟩;rw [htg] at hg1 ht';rw [hsq] at hg2 ht';rw [hln] at hg3 ht';have HG1:=Zh hg1;have HG2:=Zh hg2;have HG3:=Zh hg3;have hmay:=Zlq tg sq ln;clear hg1 hg2 hg3 ht hnb htg hsq hln hmg hrn;cases hmf:mayF tg sq ln with
   | false =>
    rw [hmf] at hmay ht';rw [Zb (.inl rfl)] at ht';subst ht';have HMAY:=Zh hmay;clear hmay hmf;go_enter func184,ntmps184;go_upto_region 1 with fail;rw [<-HW1.o];go_wp2_with fail;refine HG1.o.mono ?_;rintro e w2 ⟨rfl,rfl⟩;go_wp2_with fail;refine HG2.o.mono ?_;rintro e w2 ⟨rfl,rfl⟩;go_wp2_with fail;refine HG3.o.mono ?_;rintro e w2 ⟨rfl,rfl⟩;go_wp2_with fail;refine (HMAY.o _).mono ?_;rintro e w2 ⟨rfl,rfl⟩;go_wp2;refine Zaj (v:=.tuple #[.agg #[int i64 0,int i64 0,slice none 0 0],int i64 0,int i64 2]) (by simp [results,results184,go_sem,x0,x1,x2]) rfl ?_;exact ⟨none,0,rfl,(H1.o.set3 (int i64 0) (int i64 0) (slice none 0 0)).drop.row_nil _ _⟩
   | true =>
    rw [hmf] at hmay ht';have HMAY:=Zh hmay;have hmf':=hmf;unfold mayF at hmf';rw [Zk] at hmf';obtain ⟨k,rfl⟩:∃ k:Nat,ln=k:=⟨ln.toNat,by omega⟩;simp only [Zi4,false_or,Zeu,HM.o] at ht';have hk90:k<=90:=by omega
    have hwk:IntKind.i64.wrap (k:Int)=k:=by rw [Zx];omega
    have hfs:=Zkt (k:Int);rw [show Zcg (k:Int)=22+k by unfold Zcg;omega] at hfs;have HFS:=Zh hfs;have HMF:=Zh hmf';clear hmay hfs hmf hmf';by_cases hsh:m<22+k
    ·rw [Zb hsh] at ht';subst ht';have d3:decide ((m:Int)<22+(k:Int))=true:=by rw [Zk];omega
     go_enter func184,ntmps184;go_upto_region 1 with fail;rw [<-HW1.o];go_wp2_with fail;refine HG1.o.mono ?_;rintro e w2 ⟨rfl,rfl⟩;go_wp2_with fail;refine HG2.o.mono ?_;rintro e w2 ⟨rfl,rfl⟩;go_wp2_with fail;refine HG3.o.mono ?_;rintro e w2 ⟨rfl,rfl⟩;go_wp2_with fail;refine (HMAY.o _).mono ?_;rintro e w2 ⟨rfl,rfl⟩;go_wp2_with fail;refine (HFS.o _).mono ?_;rintro e w2 ⟨rfl,rfl⟩;go_wp2;refine Zaj (v:=.tuple #[.agg #[int i64 0,int i64 0,slice none 0 0],int i64 0,int i64 2]) (by simp [results,results184,go_sem,x0,x1,x2]) rfl ?_;exact ⟨none,0,rfl,(H1.o.set3 (int i64 0) (int i64 0) (slice none 0 0)).drop.row_nil _ _⟩
    ·rw [Za hsh] at ht';have d3:decide ((m:Int)<22+(k:Int))=false:=by rw [ZT];omega
     have hkm:18+k+4<=m:=by omega
     have hkC:18+k<=C:=by omega
     have hkC2:18+(k:Int)<=(C:Int):=by omega
     have hg4:Calls prog 202 #[(slice (some ⟨g,o+at',none⟩) m C),int i64 (18+(k:Int)),int i64 4] w1 fun e w'=>e=.returned (.tuple #[int u64 (getB ((r.drop (18+k)).take 4)),.bool true])∧w1=w':=Zfv _ r (18+k) 4 w1 (by rw [HM.o];exact HS.o) HRB.o (by decide) (by decide) (by rw [HM.o];omega) (by rw [HM.o];omega);have h18:=Zgq HS.o (show 18+k<=m by omega);rw [Zcj,<-Zd8] at h18;have hl18:(r.take (18+k)).length=18+k:=by rw [ZJ,HM.o];omega
     have hcr:=ZmT (slice (some ⟨g,o+at',none⟩) (18+k) C) (r.take (18+k)) w1 (by rw [hl18];exact h18) (fun x hx=>HRB.o x (ZbI hx)) (by rw [hl18];omega);have hcu:isU32 (crcOf (r.take (18+k))):=u32_xor _ _;unfold isU32 at hcu;obtain ⟨cr,hcr0⟩:∃ x,crcOf (r.take (18+k))=x:=⟨_,rfl⟩;obtain ⟨gt,hgt⟩:∃ x,getB ((r.drop (18+k)).take 4)=x:=⟨_,rfl⟩;rw [hcr0] at hcr hcu ht';rw [hgt] at hg4 ht';have hwc:IntKind.u64.wrap cr=cr:=by rw [IntKind.wrap_u64];omega
     have HG4:=Zh hg4;have HCR:=Zh hcr;have H18:=Zh h18;clear hg4 hcr h18 hl18 hcu hcr0 hgt hsh h4;by_cases hce:gt=cr
     ·subst hce;rw [Za (fun q=>q rfl)] at ht';have hcp:=Zim (Zgq HS.o (show 18+k<=m by omega)) (show 18<=18+k by omega);rw [Zcj,Zcj,Nat.add_sub_cancel_left,<-Zd8,<-ZeY,List.drop_take,Nat.add_sub_cancel_left] at hcp;have HCP:=Zh hcp;have hwt:IntKind.i64.wrap tg=tg:=by have:=HMF.o;rw [Zx];omega
      have hws:IntKind.i64.wrap sq=sq:=by have:=HMF.o;rw [Zx];omega
      have hn18:¬ C=18:=by omega
      clear hcp;obtain ⟨d,hd⟩:∃ d,(r.drop 18).take k=d:=⟨_,rfl⟩;have hdl:d.length=k:=by rw [<-hd,ZJ,ZW,HM.o];omega
      rw [hd] at ht' HCP;have HDL:=Zh hdl;subst ht';clear hd hdl;go_enter func184,ntmps184;go_upto_region 1 with fail;rw [<-HW1.o];go_wp2_with fail;refine HG1.o.mono ?_;rintro e w2 ⟨rfl,rfl⟩;go_wp2_with fail;refine HG2.o.mono ?_;rintro e w2 ⟨rfl,rfl⟩;go_wp2_with fail;refine HG3.o.mono ?_;rintro e w2 ⟨rfl,rfl⟩;go_wp2_with fail;refine (HMAY.o _).mono ?_;rintro e w2 ⟨rfl,rfl⟩;go_wp2_with fail;refine (HFS.o _).mono ?_;rintro e w2 ⟨rfl,rfl⟩;go_wp2_with fail;refine HG4.o.mono ?_;rintro e w2 ⟨rfl,rfl⟩;go_wp2_with fail;refine HCR.o.mono ?_;rintro e w2 ⟨rfl,rfl⟩;go_wp2_with fail;refine (Zbk _ k (d.map byteV) w1 HCP.o (by omega)).mono ?_;rintro e w3 ⟨v3,rfl,ho3,hb3⟩;obtain ⟨A3,c3,rfl⟩:=ZA ho3;have h3:=H1.o.row_fresh hb3 ho3;clear x0 x1 x2 f0;obtain ⟨x0,x1,x2⟩:=Zak (h3.pull 1 _ rfl);have f0:=frozen_of_row (h3.pull 1 _ rfl).heap;have h4:=(((h3.pull 1 _ rfl).set3 (int i64 tg) (int i64 sq) (slice A3 k c3)));have H4:=Zh h4;clear h3 h4 ho3 hb3;go_wp2_with fail;have h4:=H4.o;generalize (World.setCell _ _ _:World)=w5 at h4 |-;clear x0 x1 x2;obtain ⟨x0,x1,x2⟩:=Zak h4;refine Zaj (v:=.tuple #[.agg #[int i64 tg,int i64 sq,slice A3 k c3],int i64 ((at'+(22+k):Nat):Int),int i64 0]) (by simp [results,results184,go_sem,x0,x1,x2];omega) rfl ?_;refine ⟨A3,c3,by rw [HDL.o];rfl,?_⟩;rw [HDL.o];exact h4.drop
     ·rw [Zb hce] at ht';subst ht';have hne2:(gt != cr)=true:=by simpa using hce
      go_enter func184,ntmps184;go_upto_region 1 with fail;rw [<-HW1.o];go_wp2_with fail;refine HG1.o.mono ?_;rintro e w2 ⟨rfl,rfl⟩;go_wp2_with fail;refine HG2.o.mono ?_;rintro e w2 ⟨rfl,rfl⟩;go_wp2_with fail;refine HG3.o.mono ?_;rintro e w2 ⟨rfl,rfl⟩;go_wp2_with fail;refine (HMAY.o _).mono ?_;rintro e w2 ⟨rfl,rfl⟩;go_wp2_with fail;refine (HFS.o _).mono ?_;rintro e w2 ⟨rfl,rfl⟩;go_wp2_with fail;refine HG4.o.mono ?_;rintro e w2 ⟨rfl,rfl⟩;go_wp2_with fail;refine HCR.o.mono ?_;rintro e w2 ⟨rfl,rfl⟩;go_wp2;refine Zaj (v:=.tuple #[.agg #[int i64 0,int i64 0,slice none 0 0],int i64 0,int i64 13]) (by simp [results,results184,go_sem,x0,x1,x2]) rfl ?_;exact ⟨none,0,rfl,(H1.o.set3 (int i64 0) (int i64 0) (slice none 0 0)).drop.row_nil _ _⟩
  ·have ht2:t=(enZ,0,2):=by rw [<-ht];unfold takeR;rw [Za hrn,Zb (.inr hmg)]
   subst ht2;rw [Zq hmg] at hsb;clear ht;go_enter func184,ntmps184;go_upto_region 1 with fail;rw [<-HW1.o];go_wp2;refine Zaj (v:=.tuple #[.agg #[int i64 0,int i64 0,slice none 0 0],int i64 0,int i64 2]) (by simp [results,results184,go_sem,x0,x1,x2]) rfl ?_;exact ⟨none,0,rfl,(H1.o.set3 (int i64 0) (int i64 0) (slice none 0 0)).drop.row_nil _ _⟩
end
end Go.Proofs.YtpjchngjhijgmaaGreat
