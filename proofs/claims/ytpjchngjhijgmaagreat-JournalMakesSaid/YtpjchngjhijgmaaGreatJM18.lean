import Derived.Test.YtpjchngjhijgmaaGreatJM17
set_option linter.all false
namespace Go.Proofs.YtpjchngjhijgmaaGreat
open Go.RowKit
def Rc.nums (r:Rc):List Int:=[r.shape.splay,r.shape.sets,r.shape.size,r.first,r.set]
def clZ:Cl:=⟨0,0,false⟩
def Cl.nums (c:Cl):List Int:=[c.id,c.pos,if c.off then 1 else 0]
def clB (c:Cl) (j:Nat):List Int:=(c.nums.take j).flatMap fun n=>putB n 8
def recP1 (r:Rc) (i:Nat):List Int:=(r.nums.take i).flatMap fun n=>putB n 8
def clAt (r:Rc) (i:Nat):Cl:=(r.cls[i]?).getD clZ
def recP2 (r:Rc) (i:Nat):List Int:=recP1 r 5++(List.range i).flatMap fun k=>clB (clAt r k) 3
def recB (r:Rc):List Int:=recP2 r 4++chainB r.tags
structure Rc.Ok (r:Rc):Prop where
 shape:r.shape.okB=true
 first:1≤r.first∧r.first≤2199023255552
 set:0≤r.set∧r.set≤2147483648
 tags:Zq43 r.tags=true
 cls:Zq68 r.cls=true
def recI (I:Hp) (r:Rc) (vt vc:Value):Prop:=RowI I 4 vt r.tags.length (flat r.tags)∧RowI I 3 vc r.cls.length (r.cls.flatMap Cl.vals)
theorem recI.mono {I I':Hp} {r:Rc} {vt vc:Value} (s:I.sub I') (h:recI I r vt vc):recI I' r vt vc:=⟨h.1.mono s,h.2.mono s⟩
def Rc.cells (r:Rc) (vt vc:Value):Array Value:=#[.int .i64 r.shape.splay,.int .i64 r.shape.sets,.int .i64 r.shape.size,.int .i64 r.first,.int .i64 r.set,vt,vc]
theorem Zq159 (c:Cl):∀ j,j≤3→(clB c j).length=8*j:=by
 intro j hj
 rcases (show j=0∨j=1∨j=2∨j=3 by omega) with rfl|rfl|rfl|rfl <;> simp [clB,Cl.nums,Zq33]
theorem Zq145 (r:Rc):∀ j,j≤5→(recP1 r j).length=8*j:=by
 intro j hj
 rcases (show j=0∨j=1∨j=2∨j=3∨j=4∨j=5 by omega) with rfl|rfl|rfl|rfl|rfl|rfl <;> simp [recP1,Rc.nums,Zq33]
theorem Zq78 (r:Rc) (i:Nat):recP2 r (i+1)=recP2 r i++clB (clAt r i) 3:=by
 unfold recP2
 rw [List.range_succ,List.flatMap_append,List.append_assoc]
 simp
theorem Zq206 (r:Rc):∀ i,(recP2 r i).length=40+24*i:=by
 intro i
 induction i with
 | zero=>simp [recP2,Zq145]
 | succ i ih=>rw [Zq78,List.length_append,ih,Zq159 _ _ (Nat.le_refl _)];omega
theorem Zq633:∀ (l:List Cl) (last:Int),clsGo l last=true→∀ c ∈ l,mayC c.id c.pos=true
 | [],_,_,c,hc=>by cases hc
 | x::l,last,h,c,hc=>by
  simp only [clsGo,Bool.and_eq_true] at h
  rcases List.mem_cons.1 hc with rfl|hc
  ·exact h.1.1
  ·exact Zq633 l _ h.2 c hc
theorem Zq171 {l:List Cl} (h:Zq68 l=true):l.length≤4∧∀ c ∈ l,(1≤c.id∧c.id≤1073741824)∧0≤c.pos∧c.pos≤1099511627776:=by
 unfold Zq68 at h
 simp only [Bool.and_eq_true,decide_eq_true_eq] at h
 refine ⟨h.2,fun c hc=>?_⟩
 have h1:=Zq633 l 0 h.1 c hc
 unfold mayC at h1
 rw [decide_eq_true_eq] at h1
 omega
theorem Zq777 {r:Rc} (h:Zq68 r.cls=true) (i:Nat):(0≤(clAt r i).id∧(clAt r i).id≤1073741824)∧0≤(clAt r i).pos∧(clAt r i).pos≤1099511627776:=by
 unfold clAt
 cases hi:r.cls[i]? with
 | none=>simp [clZ]
 | some c =>
  have:=(Zq171 h).2 c (List.mem_of_getElem? hi)
  simp only [Option.getD_some]
  omega
theorem Rc.nums_ok {r:Rc} (h:r.Ok):∀ x ∈ r.nums,0≤x∧x≤2199023255552:=by
 have h1:=h.shape
 unfold Rg.okB at h1
 rw [decide_eq_true_eq] at h1
 have h2:=h.first
 have h3:=h.set
 intro x hx
 simp only [Rc.nums,List.mem_cons,List.not_mem_nil,or_false] at hx
 rcases hx with rfl|rfl|rfl|rfl|rfl <;> omega
section
variable {W w : World} {I : Hp} {l : List HP}
theorem Zq152 {v:Value} {ts:List Tag} (h:St W I w l) (hv:RowI I 4 v ts.length (flat ts)):∃ A c,v=.slice A ts.length c∧ts.length≤c∧TagsAt w A ts.length ts:=by
 obtain ⟨A,c,rfl,h2,h3,h4,h5,h6⟩:=hv
 refine ⟨A,c,rfl,h3,rfl,fun hn=>?_⟩
 obtain ⟨b,off,cs,t,f,rfl,hb,hc⟩:=h6 hn
 refine ⟨b,off,rfl,(Array.getElem?_eq_some_iff.1 (h.imm_heap hb)).1,fun i t hi=>?_⟩
 have hw:=Zq1 (h.imm_heap hb)
 have g:∀ j u,j<4→t.vals[j]?=some u→w.cell? ⟨b,off+(i*4+j),none⟩=some u:=fun j u hj hu=>by
  rw [hw]
  exact hc (i*4+j) u ((Zq93 (mk:=Tag.vals) (fun _=>rfl) ts i j t hi hj).trans hu)
 exact ⟨g 0 _ (by decide) rfl,g 1 _ (by decide) rfl,g 2 _ (by decide) rfl,g 3 _ (by decide) rfl⟩
set_option maxRecDepth 4000
set_option maxHeartbeats 8000000
theorem Zq105 {b:Nat} {c0 c1 c2 c3 c4 c5 c6:Value} {t:TypeId} {f:Nat × Nat} (h:St W I w (HP.pt b (.cells #[c0,c1,c2,c3,c4,c5,c6] t f)::l)):w.cell? ⟨b,0,none⟩=some c0∧w.cell? ⟨b,1,none⟩=some c1∧w.cell? ⟨b,2,none⟩=some c2∧w.cell? ⟨b,3,none⟩=some c3∧w.cell? ⟨b,4,none⟩=some c4∧w.cell? ⟨b,5,none⟩=some c5∧w.cell? ⟨b,6,none⟩=some c6:=by
 have y:=Zq1 h.heap
 have y0:=y 0
 have y1:=y 1
 have y2:=y 2
 have y3:=y 3
 have y4:=y 4
 have y5:=y 5
 have y6:=y 6
 simp at y0 y1 y2 y3 y4 y5 y6
 exact ⟨y0,y1,y2,y3,y4,y5,y6⟩
theorem Zq863 (r:Rc) (vt vc:Value) (h:St W I w l) (hr:r.Ok) (hI:recI I r vt vc) :
  Calls Tryz.prog 149 #[.agg (r.cells vt vc)] w fun e w'=>∃ A' c' q,e=.returned (.slice A' q.length c')∧q=recB r∧Below w.heap.size w w'∧w'.ownsRow w.heap.size 5 1 (.slice A' q.length c') q.length (q.map byteV):=by
 have hn:=Rc.nums_ok hr
 have hca:=fun i=>Zq777 hr.cls i
 have hcl:=(Zq171 hr.cls).1
 have hsm:=Zq87 hr.tags
 obtain ⟨At,ct,rfl,hct,_⟩:=Zq152 h hI.1
 have HT:=Zh hI.1
 have HC:=Zh hI.2
 obtain ⟨Ac,cc,rfl,_⟩:=hI.2
 have h0:=(St.init w).alloc (.cells (r.cells (.slice At r.tags.length ct) (.slice Ac r.cls.length cc)) 105)
 have h1:=h0.row_nil 5 1
 have H0:=Zh h
 have HR:=Zh hr
 obtain ⟨R,hR⟩:∃ R,r=R:=⟨_,rfl⟩
 have e1:=Rc.cells
 obtain ⟨⟨a,b,sz⟩,fi,st,tags,cls⟩:=r
 simp only [Rc.cells] at h0 h1 ⊢
 simp only at hR hcl hsm hct
 have H1:=Zh h1
 have HN:=Zh hn
 have HCA:=Zh hca
 have HRR:=Zh hR
 clear h h0 h1 hr hI hn hca e1 hR
 have i0:∀ w:World,(Instr.index 245 (.agg #[.int .i64 a,.int .i64 b,.int .i64 sz,.int .i64 fi,.int .i64 st]) (.int .i64 0)).run Tryz.prog w=.ok (.int .i64 a) w:=fun _=>by kernel_rfl
 have i1:∀ w:World,(Instr.index 245 (.agg #[.int .i64 a,.int .i64 b,.int .i64 sz,.int .i64 fi,.int .i64 st]) (.int .i64 1)).run Tryz.prog w=.ok (.int .i64 b) w:=fun _=>by kernel_rfl
 have i2:∀ w:World,(Instr.index 245 (.agg #[.int .i64 a,.int .i64 b,.int .i64 sz,.int .i64 fi,.int .i64 st]) (.int .i64 2)).run Tryz.prog w=.ok (.int .i64 sz) w:=fun _=>by kernel_rfl
 have i3:∀ w:World,(Instr.index 245 (.agg #[.int .i64 a,.int .i64 b,.int .i64 sz,.int .i64 fi,.int .i64 st]) (.int .i64 3)).run Tryz.prog w=.ok (.int .i64 fi) w:=fun _=>by kernel_rfl
 have i4:∀ w:World,(Instr.index 245 (.agg #[.int .i64 a,.int .i64 b,.int .i64 sz,.int .i64 fi,.int .i64 st]) (.int .i64 4)).run Tryz.prog w=.ok (.int .i64 st) w:=fun _=>by kernel_rfl
 go_enter Tryz.func149,Tryz.ntmps149
 go_wp2_with fail
 go_loopw [3,27] (fun a3 a27 wr=>∃ (i:Nat) (A':Option Addr) (c':Nat) (q:List Int),a27=.int .i64 i∧i≤5∧a3=.slice A' q.length c'∧q=recP1 (⟨⟨a,b,sz⟩,fi,st,tags,cls⟩:Rc) i∧St w w.hp wr [HP.row 5 1 (.slice A' q.length c') q.length (q.map byteV),HP.pt w.heap.size (.cells #[.int .i64 a,.int .i64 b,.int .i64 sz,.int .i64 fi,.int .i64 st,.slice At tags.length ct,.slice Ac cls.length cc] 105)]) (fun _ a27 _=>5 - (intOf a27).toNat)
 case atStart=>exact ⟨0,none,0,[],rfl,by omega,rfl,by simp [recP1],H1.out⟩
 case round =>
  obtain ⟨i,A',c',q,rfl,hi,rfl,hq,hst⟩:=hrel
  clear H1
  rcases (show i=0∨i=1∨i=2∨i=3∨i=4∨i=5 by omega) with rfl|rfl|rfl|rfl|rfl|rfl
  ·have hb:=HN.out a (by simp [Rc.nums])
   have hl:=Zq145 (⟨⟨a,b,sz⟩,fi,st,tags,cls⟩:Rc) 0 (by decide)
   rw [←hq] at hl
   have hpu:=St.put_call a 8 hst (by omega) (by omega) (by decide) (by decide) (by omega)
   have hw:IntKind.u64.wrap a=a:=by rw [IntKind.wrap_u64];omega
   have HPU:=Zh hpu
   have HQ:=Zh hq
   clear hpu hst hb hl hq
   go_wp2_with fail
   refine HPU.out.mono ?_
   rintro e w3 ⟨A3,c3,q3,rfl,hq3,h3⟩
   have H3:=Zh h3
   have HQ3:=Zh (show q3=recP1 (⟨⟨a,b,sz⟩,fi,st,tags,cls⟩:Rc) 1 by rw [hq3,HQ.out];simp [recP1,Rc.nums])
   clear h3 hq3 HPU
   go_wp2_with fail
   go_roundw
   case rel=>exact ⟨1,A3,c3,q3,rfl,by omega,rfl,HQ3.out,H3.out⟩
   case measure=>simp [intOf]
  ·have hb:=HN.out b (by simp [Rc.nums])
   have hl:=Zq145 (⟨⟨a,b,sz⟩,fi,st,tags,cls⟩:Rc) 1 (by decide)
   rw [←hq] at hl
   have hpu:=St.put_call b 8 hst (by omega) (by omega) (by decide) (by decide) (by omega)
   have hw:IntKind.u64.wrap b=b:=by rw [IntKind.wrap_u64];omega
   have HPU:=Zh hpu
   have HQ:=Zh hq
   clear hpu hst hb hl hq
   go_wp2_with fail
   refine HPU.out.mono ?_
   rintro e w3 ⟨A3,c3,q3,rfl,hq3,h3⟩
   have H3:=Zh h3
   have HQ3:=Zh (show q3=recP1 (⟨⟨a,b,sz⟩,fi,st,tags,cls⟩:Rc) 2 by rw [hq3,HQ.out];simp [recP1,Rc.nums])
   clear h3 hq3 HPU
   go_wp2_with fail
   go_roundw
   case rel=>exact ⟨2,A3,c3,q3,rfl,by omega,rfl,HQ3.out,H3.out⟩
   case measure=>simp [intOf]
  ·have hb:=HN.out sz (by simp [Rc.nums])
   have hl:=Zq145 (⟨⟨a,b,sz⟩,fi,st,tags,cls⟩:Rc) 2 (by decide)
   rw [←hq] at hl
   have hpu:=St.put_call sz 8 hst (by omega) (by omega) (by decide) (by decide) (by omega)
   have hw:IntKind.u64.wrap sz=sz:=by rw [IntKind.wrap_u64];omega
   have HPU:=Zh hpu
   have HQ:=Zh hq
   clear hpu hst hb hl hq
   go_wp2_with fail
   refine HPU.out.mono ?_
   rintro e w3 ⟨A3,c3,q3,rfl,hq3,h3⟩
   have H3:=Zh h3
   have HQ3:=Zh (show q3=recP1 (⟨⟨a,b,sz⟩,fi,st,tags,cls⟩:Rc) 3 by rw [hq3,HQ.out];simp [recP1,Rc.nums])
   clear h3 hq3 HPU
   go_wp2_with fail
   go_roundw
   case rel=>exact ⟨3,A3,c3,q3,rfl,by omega,rfl,HQ3.out,H3.out⟩
   case measure=>simp [intOf]
  ·have hb:=HN.out fi (by simp [Rc.nums])
   have hl:=Zq145 (⟨⟨a,b,sz⟩,fi,st,tags,cls⟩:Rc) 3 (by decide)
   rw [←hq] at hl
   have hpu:=St.put_call fi 8 hst (by omega) (by omega) (by decide) (by decide) (by omega)
   have hw:IntKind.u64.wrap fi=fi:=by rw [IntKind.wrap_u64];omega
   have HPU:=Zh hpu
   have HQ:=Zh hq
   clear hpu hst hb hl hq
   go_wp2_with fail
   refine HPU.out.mono ?_
   rintro e w3 ⟨A3,c3,q3,rfl,hq3,h3⟩
   have H3:=Zh h3
   have HQ3:=Zh (show q3=recP1 (⟨⟨a,b,sz⟩,fi,st,tags,cls⟩:Rc) 4 by rw [hq3,HQ.out];simp [recP1,Rc.nums])
   clear h3 hq3 HPU
   go_wp2_with fail
   go_roundw
   case rel=>exact ⟨4,A3,c3,q3,rfl,by omega,rfl,HQ3.out,H3.out⟩
   case measure=>simp [intOf]
  ·have hb:=HN.out st (by simp [Rc.nums])
   have hl:=Zq145 (⟨⟨a,b,sz⟩,fi,st,tags,cls⟩:Rc) 4 (by decide)
   rw [←hq] at hl
   have hpu:=St.put_call st 8 hst (by omega) (by omega) (by decide) (by decide) (by omega)
   have hw:IntKind.u64.wrap st=st:=by rw [IntKind.wrap_u64];omega
   have HPU:=Zh hpu
   have HQ:=Zh hq
   clear hpu hst hb hl hq
   go_wp2_with fail
   refine HPU.out.mono ?_
   rintro e w3 ⟨A3,c3,q3,rfl,hq3,h3⟩
   have H3:=Zh h3
   have HQ3:=Zh (show q3=recP1 (⟨⟨a,b,sz⟩,fi,st,tags,cls⟩:Rc) 5 by rw [hq3,HQ.out];simp [recP1,Rc.nums])
   clear h3 hq3 HPU
   go_wp2_with fail
   go_roundw
   case rel=>exact ⟨5,A3,c3,q3,rfl,by omega,rfl,HQ3.out,H3.out⟩
   case measure=>simp [intOf]
  ·have HQ:=Zh (show q=recP2 (⟨⟨a,b,sz⟩,fi,st,tags,cls⟩:Rc) 0 by rw [hq];simp [recP2])
   have H2:=Zh hst
   clear hst hq i0 i1 i2 i3 i4
   rw [show ((5:Nat):Int)=5 from rfl]
   go_wp2_with fail
   go_loopw [3,35] (fun a3 a35 wr=>∃ (i:Nat) (A':Option Addr) (c':Nat) (q:List Int),a35=.int .i64 i∧i≤4∧a3=.slice A' q.length c'∧q=recP2 (⟨⟨a,b,sz⟩,fi,st,tags,cls⟩:Rc) i∧St w w.hp wr [HP.row 5 1 (.slice A' q.length c') q.length (q.map byteV),HP.pt w.heap.size (.cells #[.int .i64 a,.int .i64 b,.int .i64 sz,.int .i64 fi,.int .i64 st,.slice At tags.length ct,.slice Ac cls.length cc] 105)]) (fun _ a35 _=>4 - (intOf a35).toNat)
   case atStart=>exact ⟨0,A',c',q,rfl,by omega,rfl,HQ.out,H2.out⟩
   case round =>
    obtain ⟨i,A',c',q,rfl,hi,rfl,hq,hst⟩:=hrel
    clear H2 HQ
    by_cases h4:i<4
    ·have d4:decide ((i:Int)<4)=true:=by rw [decide_eq_true_eq];omega
     obtain ⟨⟨cid,cpos,coff⟩,hcc⟩:∃ c,clAt (⟨⟨a,b,sz⟩,fi,st,tags,cls⟩:Rc) i=c:=⟨_,rfl⟩
     have hco:=HCA.out i
     rw [hcc] at hco
     simp only at hco
     have HS:=Zh (Zq78 (⟨⟨a,b,sz⟩,fi,st,tags,cls⟩:Rc) i)
     rw [hcc] at HS
     obtain ⟨x0,x1,x2,x3,x4,x5,x6⟩:=Zq105 (hst.pull 1 _ rfl)
     have hlt0:=(hst.pull 1 _ rfl).lt
     have hst2:=hst.keep (Zq7 wr (.cells #[.int .i64 cid,.int .i64 cpos,.bool coff] 212))
     have HST:=Zh hst2
     have HQ:=Zh hq
     have HCO:=Zh hco
     have HL2:=Zh (Zq206 (⟨⟨a,b,sz⟩,fi,st,tags,cls⟩:Rc) i)
     have hw1:IntKind.u64.wrap cid=cid:=by rw [IntKind.wrap_u64];omega
     have hw2:IntKind.u64.wrap cpos=cpos:=by rw [IntKind.wrap_u64];omega
     by_cases hin:i<cls.length
     ·have d5:decide ((i:Int)<(cls.length:Int))=true:=by rw [decide_eq_true_eq];omega
      have hget:cls[i]?=some ⟨cid,cpos,coff⟩:=by
       unfold clAt at hcc
       rw [List.getElem?_eq_getElem hin] at hcc ⊢
       rw [←hcc]
       rfl
      obtain ⟨b0,off,e1,hcell⟩:=Zq115 (i:=i) HC.out (Hp.sub.refl I) (H0.out.keep hst.below) (fun _=>rfl) hget
      simp only [Value.slice.injEq,and_true] at e1
      subst e1
      have y0:=hcell 0 (by omega)
      have y1:=hcell 1 (by omega)
      have y2:=hcell 2 (by omega)
      simp only [Cl.vals,Zl6,Zl7,Nat.add_zero] at y0 y1 y2
      have hin2:(i:Int)<(cls.length:Int):=by omega
      have hb0:b0<wr.heap.size:=World.block_lt_of_cell? wr _ y0
      clear hcell hget hcc hst hst2 hq hco
      cases coff with
      | true =>
       have i0:∀ w:World,(Instr.index 246 (.agg #[.int .i64 cid,.int .i64 cpos,.int .i64 1]) (.int .i64 0)).run Tryz.prog w=.ok (.int .i64 cid) w:=fun _=>by kernel_rfl
       have i1:∀ w:World,(Instr.index 246 (.agg #[.int .i64 cid,.int .i64 cpos,.int .i64 1]) (.int .i64 1)).run Tryz.prog w=.ok (.int .i64 cpos) w:=fun _=>by kernel_rfl
       have i2:∀ w:World,(Instr.index 246 (.agg #[.int .i64 cid,.int .i64 cpos,.int .i64 1]) (.int .i64 2)).run Tryz.prog w=.ok (.int .i64 1) w:=fun _=>by kernel_rfl
       go_wp2_with fail
       go_loopw [3,56] (fun a3 a56 wr=>∃ (j:Nat) (A':Option Addr) (c':Nat) (q:List Int),a56=.int .i64 j∧j≤3∧a3=.slice A' q.length c'∧q=recP2 (⟨⟨a,b,sz⟩,fi,st,tags,cls⟩:Rc) i++clB (⟨cid,cpos,true⟩:Cl) j∧St w w.hp wr [HP.row 5 1 (.slice A' q.length c') q.length (q.map byteV),HP.pt w.heap.size (.cells #[.int .i64 a,.int .i64 b,.int .i64 sz,.int .i64 fi,.int .i64 st,.slice At tags.length ct,.slice (some ⟨b0,off,none⟩) cls.length cc] 105)]) (fun _ a56 _=>3 - (intOf a56).toNat)
       case atStart=>exact ⟨0,A',c',q,rfl,by omega,rfl,by rw [HQ.out];simp [clB],HST.out⟩
       case round =>
        obtain ⟨j,A',c',q,rfl,hj,rfl,hq,hst⟩:=hrel
        clear HQ HST
        rcases (show j=0∨j=1∨j=2∨j=3 by omega) with rfl|rfl|rfl|rfl
        ·have hl:=congrArg List.length hq
         rw [List.length_append,HL2.out,Zq159 _ 0 (by decide)] at hl
         have hpu:=St.put_call cid 8 hst (by have:=HCO.out;omega) (by have:=HCO.out;omega) (by decide) (by decide) (by omega)
         have HPU:=Zh hpu
         have HQ:=Zh hq
         clear hpu hst hl hq
         go_wp2_with fail
         refine HPU.out.mono ?_
         rintro e w3 ⟨A3,c3,q3,rfl,hq3,h3⟩
         have H3:=Zh h3
         have HQ3:=Zh (show q3=recP2 (⟨⟨a,b,sz⟩,fi,st,tags,cls⟩:Rc) i++clB (⟨cid,cpos,true⟩:Cl) 1 by rw [hq3,HQ.out,List.append_assoc];simp [clB,Cl.nums])
         clear h3 hq3 HPU
         go_wp2_with fail
         go_roundw
         case rel=>exact ⟨1,A3,c3,q3,rfl,by omega,rfl,HQ3.out,H3.out⟩
         case measure=>simp [intOf]
        ·have hl:=congrArg List.length hq
         rw [List.length_append,HL2.out,Zq159 _ 1 (by decide)] at hl
         have hpu:=St.put_call cpos 8 hst (by have:=HCO.out;omega) (by have:=HCO.out;omega) (by decide) (by decide) (by omega)
         have HPU:=Zh hpu
         have HQ:=Zh hq
         clear hpu hst hl hq
         go_wp2_with fail
         refine HPU.out.mono ?_
         rintro e w3 ⟨A3,c3,q3,rfl,hq3,h3⟩
         have H3:=Zh h3
         have HQ3:=Zh (show q3=recP2 (⟨⟨a,b,sz⟩,fi,st,tags,cls⟩:Rc) i++clB (⟨cid,cpos,true⟩:Cl) 2 by rw [hq3,HQ.out,List.append_assoc];simp [clB,Cl.nums])
         clear h3 hq3 HPU
         go_wp2_with fail
         go_roundw
         case rel=>exact ⟨2,A3,c3,q3,rfl,by omega,rfl,HQ3.out,H3.out⟩
         case measure=>simp [intOf]
        ·have hl:=congrArg List.length hq
         rw [List.length_append,HL2.out,Zq159 _ 2 (by decide)] at hl
         have hpu:=St.put_call 1 8 hst (by have:=HCO.out;omega) (by have:=HCO.out;omega) (by decide) (by decide) (by omega)
         have HPU:=Zh hpu
         have HQ:=Zh hq
         clear hpu hst hl hq
         go_wp2_with fail
         refine HPU.out.mono ?_
         rintro e w3 ⟨A3,c3,q3,rfl,hq3,h3⟩
         have H3:=Zh h3
         have HQ3:=Zh (show q3=recP2 (⟨⟨a,b,sz⟩,fi,st,tags,cls⟩:Rc) i++clB (⟨cid,cpos,true⟩:Cl) 3 by rw [hq3,HQ.out,List.append_assoc];simp [clB,Cl.nums])
         clear h3 hq3 HPU
         go_wp2_with fail
         go_roundw
         case rel=>exact ⟨3,A3,c3,q3,rfl,by omega,rfl,HQ3.out,H3.out⟩
         case measure=>simp [intOf]
        ·have HQ:=Zh (hq.trans HS.out.symm)
         have H9:=Zh hst
         clear hst hq
         go_wp2_with fail
         go_roundw
         case rel=>exact ⟨i+1,A',c',q,by go_num,by omega,rfl,HQ.out,H9.out⟩
         case measure=>first|(simp [intOf];done)|(simp [intOf];omega)|fail
      | false =>
       have i0:∀ w:World,(Instr.index 246 (.agg #[.int .i64 cid,.int .i64 cpos,.int .i64 0]) (.int .i64 0)).run Tryz.prog w=.ok (.int .i64 cid) w:=fun _=>by kernel_rfl
       have i1:∀ w:World,(Instr.index 246 (.agg #[.int .i64 cid,.int .i64 cpos,.int .i64 0]) (.int .i64 1)).run Tryz.prog w=.ok (.int .i64 cpos) w:=fun _=>by kernel_rfl
       have i2:∀ w:World,(Instr.index 246 (.agg #[.int .i64 cid,.int .i64 cpos,.int .i64 0]) (.int .i64 2)).run Tryz.prog w=.ok (.int .i64 0) w:=fun _=>by kernel_rfl
       go_wp2_with fail
       go_loopw [3,56] (fun a3 a56 wr=>∃ (j:Nat) (A':Option Addr) (c':Nat) (q:List Int),a56=.int .i64 j∧j≤3∧a3=.slice A' q.length c'∧q=recP2 (⟨⟨a,b,sz⟩,fi,st,tags,cls⟩:Rc) i++clB (⟨cid,cpos,false⟩:Cl) j∧St w w.hp wr [HP.row 5 1 (.slice A' q.length c') q.length (q.map byteV),HP.pt w.heap.size (.cells #[.int .i64 a,.int .i64 b,.int .i64 sz,.int .i64 fi,.int .i64 st,.slice At tags.length ct,.slice (some ⟨b0,off,none⟩) cls.length cc] 105)]) (fun _ a56 _=>3 - (intOf a56).toNat)
       case atStart=>exact ⟨0,A',c',q,rfl,by omega,rfl,by rw [HQ.out];simp [clB],HST.out⟩
       case round =>
        obtain ⟨j,A',c',q,rfl,hj,rfl,hq,hst⟩:=hrel
        clear HQ HST
        rcases (show j=0∨j=1∨j=2∨j=3 by omega) with rfl|rfl|rfl|rfl
        ·have hl:=congrArg List.length hq
         rw [List.length_append,HL2.out,Zq159 _ 0 (by decide)] at hl
         have hpu:=St.put_call cid 8 hst (by have:=HCO.out;omega) (by have:=HCO.out;omega) (by decide) (by decide) (by omega)
         have HPU:=Zh hpu
         have HQ:=Zh hq
         clear hpu hst hl hq
         go_wp2_with fail
         refine HPU.out.mono ?_
         rintro e w3 ⟨A3,c3,q3,rfl,hq3,h3⟩
         have H3:=Zh h3
         have HQ3:=Zh (show q3=recP2 (⟨⟨a,b,sz⟩,fi,st,tags,cls⟩:Rc) i++clB (⟨cid,cpos,false⟩:Cl) 1 by rw [hq3,HQ.out,List.append_assoc];simp [clB,Cl.nums])
         clear h3 hq3 HPU
         go_wp2_with fail
         go_roundw
         case rel=>exact ⟨1,A3,c3,q3,rfl,by omega,rfl,HQ3.out,H3.out⟩
         case measure=>simp [intOf]
        ·have hl:=congrArg List.length hq
         rw [List.length_append,HL2.out,Zq159 _ 1 (by decide)] at hl
         have hpu:=St.put_call cpos 8 hst (by have:=HCO.out;omega) (by have:=HCO.out;omega) (by decide) (by decide) (by omega)
         have HPU:=Zh hpu
         have HQ:=Zh hq
         clear hpu hst hl hq
         go_wp2_with fail
         refine HPU.out.mono ?_
         rintro e w3 ⟨A3,c3,q3,rfl,hq3,h3⟩
         have H3:=Zh h3
         have HQ3:=Zh (show q3=recP2 (⟨⟨a,b,sz⟩,fi,st,tags,cls⟩:Rc) i++clB (⟨cid,cpos,false⟩:Cl) 2 by rw [hq3,HQ.out,List.append_assoc];simp [clB,Cl.nums])
         clear h3 hq3 HPU
         go_wp2_with fail
         go_roundw
         case rel=>exact ⟨2,A3,c3,q3,rfl,by omega,rfl,HQ3.out,H3.out⟩
         case measure=>simp [intOf]
        ·have hl:=congrArg List.length hq
         rw [List.length_append,HL2.out,Zq159 _ 2 (by decide)] at hl
         have hpu:=St.put_call 0 8 hst (by have:=HCO.out;omega) (by have:=HCO.out;omega) (by decide) (by decide) (by omega)
         have HPU:=Zh hpu
         have HQ:=Zh hq
         clear hpu hst hl hq
         go_wp2_with fail
         refine HPU.out.mono ?_
         rintro e w3 ⟨A3,c3,q3,rfl,hq3,h3⟩
         have H3:=Zh h3
         have HQ3:=Zh (show q3=recP2 (⟨⟨a,b,sz⟩,fi,st,tags,cls⟩:Rc) i++clB (⟨cid,cpos,false⟩:Cl) 3 by rw [hq3,HQ.out,List.append_assoc];simp [clB,Cl.nums])
         clear h3 hq3 HPU
         go_wp2_with fail
         go_roundw
         case rel=>exact ⟨3,A3,c3,q3,rfl,by omega,rfl,HQ3.out,H3.out⟩
         case measure=>simp [intOf]
        ·have HQ:=Zh (hq.trans HS.out.symm)
         have H9:=Zh hst
         clear hst hq
         go_wp2_with fail
         go_roundw
         case rel=>exact ⟨i+1,A',c',q,by go_num,by omega,rfl,HQ.out,H9.out⟩
         case measure=>first|(simp [intOf];done)|(simp [intOf];omega)|fail
     ·have d5:decide ((i:Int)<(cls.length:Int))=false:=by rw [decide_eq_false_iff_not];omega
      have hget:cls[i]?=none:=List.getElem?_eq_none (by omega)
      unfold clAt at hcc
      simp only [hget,Option.getD_none,clZ,Cl.mk.injEq] at hcc
      obtain ⟨rfl,rfl,rfl⟩:=hcc
      clear hget hst hst2 hq hco
      have i0:∀ w:World,(Instr.index 246 (.agg #[.int .i64 0,.int .i64 0,.int .i64 0]) (.int .i64 0)).run Tryz.prog w=.ok (.int .i64 0) w:=fun _=>by kernel_rfl
      have i1:∀ w:World,(Instr.index 246 (.agg #[.int .i64 0,.int .i64 0,.int .i64 0]) (.int .i64 1)).run Tryz.prog w=.ok (.int .i64 0) w:=fun _=>by kernel_rfl
      have i2:∀ w:World,(Instr.index 246 (.agg #[.int .i64 0,.int .i64 0,.int .i64 0]) (.int .i64 2)).run Tryz.prog w=.ok (.int .i64 0) w:=fun _=>by kernel_rfl
      go_wp2_with fail
      go_loopw [3,56] (fun a3 a56 wr=>∃ (j:Nat) (A':Option Addr) (c':Nat) (q:List Int),a56=.int .i64 j∧j≤3∧a3=.slice A' q.length c'∧q=recP2 (⟨⟨a,b,sz⟩,fi,st,tags,cls⟩:Rc) i++clB (⟨0,0,false⟩:Cl) j∧St w w.hp wr [HP.row 5 1 (.slice A' q.length c') q.length (q.map byteV),HP.pt w.heap.size (.cells #[.int .i64 a,.int .i64 b,.int .i64 sz,.int .i64 fi,.int .i64 st,.slice At tags.length ct,.slice Ac cls.length cc] 105)]) (fun _ a56 _=>3 - (intOf a56).toNat)
      case atStart=>exact ⟨0,A',c',q,rfl,by omega,rfl,by rw [HQ.out];simp [clB],HST.out⟩
      case round =>
       obtain ⟨j,A',c',q,rfl,hj,rfl,hq,hst⟩:=hrel
       clear HQ HST
       rcases (show j=0∨j=1∨j=2∨j=3 by omega) with rfl|rfl|rfl|rfl
       ·have hl:=congrArg List.length hq
        rw [List.length_append,HL2.out,Zq159 _ 0 (by decide)] at hl
        have hpu:=St.put_call 0 8 hst (by have:=HCO.out;omega) (by have:=HCO.out;omega) (by decide) (by decide) (by omega)
        have HPU:=Zh hpu
        have HQ:=Zh hq
        clear hpu hst hl hq
        go_wp2_with fail
        refine HPU.out.mono ?_
        rintro e w3 ⟨A3,c3,q3,rfl,hq3,h3⟩
        have H3:=Zh h3
        have HQ3:=Zh (show q3=recP2 (⟨⟨a,b,sz⟩,fi,st,tags,cls⟩:Rc) i++clB (⟨0,0,false⟩:Cl) 1 by rw [hq3,HQ.out,List.append_assoc];simp [clB,Cl.nums])
        clear h3 hq3 HPU
        go_wp2_with fail
        go_roundw
        case rel=>exact ⟨1,A3,c3,q3,rfl,by omega,rfl,HQ3.out,H3.out⟩
        case measure=>simp [intOf]
       ·have hl:=congrArg List.length hq
        rw [List.length_append,HL2.out,Zq159 _ 1 (by decide)] at hl
        have hpu:=St.put_call 0 8 hst (by have:=HCO.out;omega) (by have:=HCO.out;omega) (by decide) (by decide) (by omega)
        have HPU:=Zh hpu
        have HQ:=Zh hq
        clear hpu hst hl hq
        go_wp2_with fail
        refine HPU.out.mono ?_
        rintro e w3 ⟨A3,c3,q3,rfl,hq3,h3⟩
        have H3:=Zh h3
        have HQ3:=Zh (show q3=recP2 (⟨⟨a,b,sz⟩,fi,st,tags,cls⟩:Rc) i++clB (⟨0,0,false⟩:Cl) 2 by rw [hq3,HQ.out,List.append_assoc];simp [clB,Cl.nums])
        clear h3 hq3 HPU
        go_wp2_with fail
        go_roundw
        case rel=>exact ⟨2,A3,c3,q3,rfl,by omega,rfl,HQ3.out,H3.out⟩
        case measure=>simp [intOf]
       ·have hl:=congrArg List.length hq
        rw [List.length_append,HL2.out,Zq159 _ 2 (by decide)] at hl
        have hpu:=St.put_call 0 8 hst (by have:=HCO.out;omega) (by have:=HCO.out;omega) (by decide) (by decide) (by omega)
        have HPU:=Zh hpu
        have HQ:=Zh hq
        clear hpu hst hl hq
        go_wp2_with fail
        refine HPU.out.mono ?_
        rintro e w3 ⟨A3,c3,q3,rfl,hq3,h3⟩
        have H3:=Zh h3
        have HQ3:=Zh (show q3=recP2 (⟨⟨a,b,sz⟩,fi,st,tags,cls⟩:Rc) i++clB (⟨0,0,false⟩:Cl) 3 by rw [hq3,HQ.out,List.append_assoc];simp [clB,Cl.nums])
        clear h3 hq3 HPU
        go_wp2_with fail
        go_roundw
        case rel=>exact ⟨3,A3,c3,q3,rfl,by omega,rfl,HQ3.out,H3.out⟩
        case measure=>simp [intOf]
       ·have HQ:=Zh (hq.trans HS.out.symm)
        have H9:=Zh hst
        clear hst hq
        go_wp2_with fail
        go_roundw
        case rel=>exact ⟨i+1,A',c',q,by go_num,by omega,rfl,HQ.out,H9.out⟩
        case measure=>first|(simp [intOf];done)|(simp [intOf];omega)|fail
    ·obtain rfl:i=4:=by omega
     have d4:decide (((4:Nat):Int)<4)=false:=by decide
     obtain ⟨x0,x1,x2,x3,x4,x5,x6⟩:=Zq105 (hst.pull 1 _ rfl)
     obtain ⟨At',ct',e1,hct',hta⟩:=Zq152 (H0.out.keep hst.below) HT.out
     simp only [Value.slice.injEq,true_and] at e1
     obtain ⟨rfl,rfl⟩:=e1
     have hcp:=Zq493 At ct tags wr hta (by omega) hct
     obtain ⟨cb,hcb⟩:∃ cb,chainB tags=cb:=⟨_,rfl⟩
     rw [hcb] at hcp
     have HCP:=Zh hcp
     have HCB:=Zh hcb
     have HQ:=Zh hq
     have HST:=Zh hst
     have HRT:=Zh HR.out.tags
     have HCL:=Zh (show cb.length≤2000 by
      rw [←hcb]
      unfold chainB
      split
      ·have:=Zq48 tags tags.length
       show (Zq28 tags tags.length).length≤2000
       omega
      ·simp)
     have hql:q.length=136:=by rw [hq,Zq206]
     have HQL:=Zh hql
     clear hcp hcb hq hst hql hta
     go_wp2_with fail
     refine HCP.out.mono ?_
     rintro e w5 ⟨A5,c5,rfl,h5⟩
     have h6:=HST.out.keep h5.below
     have hsrc:=SliceSrc.of_owns h5.row_owns (Zq64 cb)
     obtain ⟨v7,w7,hr7,h7⟩:=St.bytes_append 46 h6 hsrc (by have:=HQL.out;have:=HCL.out;omega)
     obtain ⟨A7,c7,rfl⟩:=Zq17 h7.row_owns
     have e7:q.length+cb.length=(q++cb).length:=by rw [List.length_append]
     obtain ⟨q7,hq7⟩:∃ q7,q++cb=q7:=⟨_,rfl⟩
     rw [←List.map_append] at h7
     rw [e7,hq7] at h7 hr7
     have HR7:=Zh hr7
     have H7:=Zh h7
     have HQ7:=Zh hq7
     clear h5 h6 hsrc hr7 h7 hq7 e7 x0 x1 x2 x3 x4 x5 x6
     go_wp2_with (at_builtin;refine Lib.wpList_append_run _ rfl (.tmp 71) (.tmp 72) 46 46 rfl _ _ rfl rfl _ _ HR7.out ?_)
     go_ret
     exact ⟨A7,c7,q7,rfl,by rw [←HQ7.out,HQ.out,←HCB.out];rfl,H7.out.below,H7.out.row_new⟩
end
end Go.Proofs.YtpjchngjhijgmaaGreat
