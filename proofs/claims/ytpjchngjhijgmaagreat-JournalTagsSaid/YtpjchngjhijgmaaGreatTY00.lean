import Derived.Test.YtpjchngjhijgmaaGreatJZ00
import Derived.Test.YtpjchngjhijgmaaGreatJZ01
import Derived.Test.YtpjchngjhijgmaaGreatJZ02
import Derived.Test.YtpjchngjhijgmaaGreatJZ03
import Derived.Test.YtpjchngjhijgmaaGreatJZ04
import Derived.Test.YtpjchngjhijgmaaGreatJZ05
import Derived.Test.YtpjchngjhijgmaaGreatJZ06
import Derived.Test.YtpjchngjhijgmaaGreatJZ07
import Derived.Test.YtpjchngjhijgmaaGreatJZ08
import Derived.Test.YtpjchngjhijgmaaGreatJZ09
import Derived.Test.YtpjchngjhijgmaaGreatJZ10
import Derived.Test.YtpjchngjhijgmaaGreatJZ11
import Derived.Test.YtpjchngjhijgmaaGreatJZ12
import Derived.Test.YtpjchngjhijgmaaGreatJZ13
import Derived.Test.YtpjchngjhijgmaaGreatJZ14
import Derived.Test.YtpjchngjhijgmaaGreatJZ15
import Derived.Test.YtpjchngjhijgmaaGreatJZ16
import Derived.Test.YtpjchngjhijgmaaGreatJZ17
import Derived.Test.YtpjchngjhijgmaaGreatJZ18
import Derived.Test.YtpjchngjhijgmaaGreatJZ19
import Derived.Test.YtpjchngjhijgmaaGreatJZ20
import Derived.Test.YtpjchngjhijgmaaGreatJZ21
import Derived.Test.YtpjchngjhijgmaaGreatJZ22
import Derived.Test.YtpjchngjhijgmaaGreatJZ23
import Derived.Test.YtpjchngjhijgmaaGreatJZ24
import Derived.Test.YtpjchngjhijgmaaGreatJZ25
import Derived.Test.YtpjchngjhijgmaaGreatJZ26
import Derived.Test.YtpjchngjhijgmaaGreatJZ27
import Derived.Test.YtpjchngjhijgmaaGreatJZ28
import Derived.Test.YtpjchngjhijgmaaGreatJZ29
import Derived.Test.YtpjchngjhijgmaaGreatJZ30
import Derived.Test.YtpjchngjhijgmaaGreatJZ31
import Derived.Test.YtpjchngjhijgmaaGreatJZ32
import Derived.Test.YtpjchngjhijgmaaGreatJZ33
import Derived.Test.YtpjchngjhijgmaaGreatJZ34
import Derived.Test.YtpjchngjhijgmaaGreatJZ35
import Derived.Test.YtpjchngjhijgmaaGreatJZ36
import Derived.Test.YtpjchngjhijgmaaGreatJZ37
import Derived.Test.YtpjchngjhijgmaaGreatJZ38
import Derived.Test.YtpjchngjhijgmaaGreatJZ39
import Derived.Test.YtpjchngjhijgmaaGreatJZ40
import Derived.Test.YtpjchngjhijgmaaGreatJZ42
import Derived.Test.YtpjchngjhijgmaaGreatJZ47
import Derived.Test.YtpjchngjhijgmaaGreatJZ49
set_option linter.all false
namespace Go.Proofs.YtpjchngjhijgmaaGreat
theorem i64_and1 (n:Int):bits .and .i64 n 1=n % 2:=by
 show IntKind.i64.wrap ((BitVec.ofInt 64 n &&& BitVec.ofInt 64 ((1:Nat):Int)).toNat:Nat)=n % 2
 rw [Zq192 n 1 1 (by decide),IntKind.wrap_i64];omega
end Go.Proofs.YtpjchngjhijgmaaGreat
namespace Go.Proofs.YtpjchngjhijgmaaGreat
open Go.RowKit
section
variable {P : Program} (w : World)
end
end Go.Proofs.YtpjchngjhijgmaaGreat
namespace Go.Proofs.YtpjchngjhijgmaaGreat
open Go.RowKit
section
variable {P : Program} (w : World)
end
end Go.Proofs.YtpjchngjhijgmaaGreat
namespace Go.Proofs.YtpjchngjhijgmaaGreat
open Go.RowKit
section
variable {P : Program} {ops : Array Oper} {md : Region.Mode} {w : World}
section
variable {Q : Exit → Act → World → Prop} {S : World → Prop} {N : Nat → Bool}
end
end
end Go.Proofs.YtpjchngjhijgmaaGreat
namespace Go.Proofs.YtpjchngjhijgmaaGreat
open Go.RowKit
section
variable {P : Program} {ops : Array Oper} {md : Region.Mode} {w : World}
variable {Q : Exit → Act → World → Prop} {S : World → Prop} {N : Nat → Bool}
end
end Go.Proofs.YtpjchngjhijgmaaGreat
namespace Go.Proofs.YtpjchngjhijgmaaGreat
open Go.RowKit
section
variable {P : Program} {ops : Array Oper} {md : Region.Mode} {w : World}
variable {Q : Exit → Act → World → Prop} {S : World → Prop} {N : Nat → Bool}
end
end Go.Proofs.YtpjchngjhijgmaaGreat
namespace Go.Proofs.YtpjchngjhijgmaaGreat
end Go.Proofs.YtpjchngjhijgmaaGreat
namespace Go.Proofs.YtpjchngjhijgmaaGreat
end Go.Proofs.YtpjchngjhijgmaaGreat
namespace Go.Proofs.YtpjchngjhijgmaaGreat
open Go.RowKit
end Go.Proofs.YtpjchngjhijgmaaGreat
namespace Go.Proofs.YtpjchngjhijgmaaGreat
theorem maxIds_snoc (l:List Tag) (t:Tag):Zq925 (l++[t])=max (Zq925 l) t.id:=by simp [Zq925]
theorem highId_snoc (l:List Tag) (t:Tag):Zq926 (l++[t])=(Zq926 l||decide (1073741824<t.id)):=by simp [Zq926]
theorem maxIds_more {l:List Tag} {k:Nat} {t:Tag} (h:l[k]?=some t):Zq925 (l.take (k+1))=if Zq925 (l.take k)<t.id then t.id else Zq925 (l.take k):=by
 rw [Zq359 h,maxIds_snoc];omega
theorem highId_more {l:List Tag} {k:Nat} {t:Tag} (h:l[k]?=some t) (hf:Zq926 (l.take k)=false):Zq926 (l.take (k+1))=decide (1073741824<t.id):=by
 rw [Zq359 h,highId_snoc,hf,Bool.false_or]
theorem highId_at {l:List Tag} {k:Nat} {t:Tag} (h:l[k]?=some t) (hf:1073741824<t.id):Zq926 l=true:=by
 rw [Zq926,List.any_eq_true]
 exact ⟨t,List.mem_of_getElem? h,by simpa using hf⟩
theorem nextId_high {l:List Tag} {k:Nat} {t:Tag} (h:l[k]?=some t) (hf:1073741824<t.id) (s:Int):0=nextId l s:=by
 rw [nextId,highId_at h hf];rfl
theorem nextId_low {l:List Tag} {k n:Nat} (hl:l.length=n) (hk:k≤n) (hn:¬ k<n) (hf:Zq926 (l.take k)=false) {m r:Int} (hm:m=Zq925 (l.take k)) {s:Int} (hr:r=Zq907 (m+1) s):r=nextId l s:=by
 obtain rfl:k=n:=by omega
 rw [List.take_of_length_le (by omega)] at hf hm
 rw [nextId,hf,hr,hm];rfl
theorem nextOdd_step {n s:Int} (h:((n % 2==1)==(s==1))=false):n+1=Zq907 n s:=by
 rw [Zq907,if_neg]
 rw [beq_eq_false_iff_ne] at h;exact h
theorem nextOdd_stay {n s:Int} (h:((n % 2==1)==(s==1))=true):n=Zq907 n s:=by
 rw [Zq907,if_pos]
 rw [beq_iff_eq] at h;exact h
end Go.Proofs.YtpjchngjhijgmaaGreat
namespace Go.Proofs.YtpjchngjhijgmaaGreat
open Go.RowKit
end Go.Proofs.YtpjchngjhijgmaaGreat
namespace Go.Proofs.YtpjchngjhijgmaaGreat
open Go.RowKit
end Go.Proofs.YtpjchngjhijgmaaGreat
namespace Go.Proofs.YtpjchngjhijgmaaGreat
open Go.RowKit
end Go.Proofs.YtpjchngjhijgmaaGreat
namespace Go.Proofs.YtpjchngjhijgmaaGreat
open Go.RowKit
end Go.Proofs.YtpjchngjhijgmaaGreat
namespace Go.Proofs.YtpjchngjhijgmaaGreat
open Go.RowKit
end Go.Proofs.YtpjchngjhijgmaaGreat
namespace Go.Proofs.YtpjchngjhijgmaaGreat
open Go.RowKit
end Go.Proofs.YtpjchngjhijgmaaGreat
namespace Go.Proofs.YtpjchngjhijgmaaGreat
open Go.RowKit
end Go.Proofs.YtpjchngjhijgmaaGreat
namespace Go.Proofs.YtpjchngjhijgmaaGreat
open Go.RowKit
end Go.Proofs.YtpjchngjhijgmaaGreat
namespace Go.Proofs.YtpjchngjhijgmaaGreat
open Go.RowKit
end Go.Proofs.YtpjchngjhijgmaaGreat
namespace Go.Proofs.YtpjchngjhijgmaaGreat
open Go.RowKit
end Go.Proofs.YtpjchngjhijgmaaGreat
namespace Go.Proofs.YtpjchngjhijgmaaGreat
open Go.RowKit
section
variable {W w : World} {I : Hp} {l : List HP}
theorem int_src (w:World) (x:Int):SliceSrc (w.alloc (.cells #[.int .i64 x] 3)) 1 (.slice (some ⟨w.heap.size,0,none⟩) 1 1) 1 [.int .i64 x]:=by
 refine ⟨_,_,rfl,⟨rfl,fun _=>⟨_,rfl,fun j u hu=>?_⟩,fun u hu=>by (rw [List.mem_singleton.1 hu];rfl)⟩,fun e=>by cases e⟩
 rw [add_plain,Nat.zero_add,Zq0 (heap_alloc_new _ _) j,←hu]
 simp
end
end Go.Proofs.YtpjchngjhijgmaaGreat
namespace Go.Proofs.YtpjchngjhijgmaaGreat
open Go.RowKit
section
variable {W w w' : World} {I : Hp} {l : List HP} {p q : Nat} {S : Str} {J : Jn}
set_option maxRecDepth 4000
set_option maxHeartbeats 4000000
theorem clone_row {w2:World} {e:TypeId} {size n:Nat} {v:Value} {xs:List Value} (h:St W I w l) (ho:w2.ownsRow w.heap.size e size v n xs) (hb:Below w.heap.size w w2):∃ I',I.sub I'∧RowI I' size v n xs∧St W I' w2 l :=
 (h.row_fresh hb ho).freeze_row
theorem jchain_spec (h:St W I w (jnHP q p J::l)) (hn:J.r.tags.length≤1000000):Calls Tryz.prog 40 #[.pointer (some ⟨q,0,none⟩)] w fun e w'=>∃ I' v,I.sub I'∧e=.returned v∧RowI I' 4 v J.r.tags.length (flat J.r.tags)∧St W I' w' (jnHP q p J::l):=by
 obtain ⟨V,hr,h1⟩:=h.jn_open
 have x6:=jn_c6 h1
 obtain ⟨A,c,hv,_,hat⟩:=Zq253 h1 hr.1
 rw [hv] at x6
 have HC:=Zh (clone_any A J.r.tags.length c J.r.tags w hat hn)
 have H:=Zh h
 obtain ⟨n,hnn⟩:∃ n,n=J.r.tags.length:=⟨_,rfl⟩
 rw [←hnn] at x6 HC
 rw [←hnn]
 have HNN:=Zh hnn
 clear h h1 hr hv hat hnn
 go_enter Tryz.func40,Tryz.ntmps40
 go_wp2_with fail
 refine HC.out.mono ?_
 rintro e w2 ⟨v,rfl,ho,hb⟩
 obtain ⟨I2,s2,hR,h2⟩:=clone_row H.out ho hb
 have HR:=Zh hR
 have H2:=Zh h2
 clear ho hb hR h2 x6
 obtain ⟨A2,c2,rfl,_⟩:=HR.out
 go_wp2_with fail
 go_ret
 exact ⟨I2,_,s2,rfl,HR.out,H2.out⟩
end
end Go.Proofs.YtpjchngjhijgmaaGreat
namespace Go.Proofs.YtpjchngjhijgmaaGreat
open Go.RowKit
section
variable {W w w' : World} {I : Hp} {l : List HP} {p q : Nat} {S : Str} {J : Jn}
set_option maxRecDepth 4000
set_option maxHeartbeats 4000000
theorem jkeep_spec (r:Rc) (vt vc:Value) (o:Option Rc) {m:Nat} (h:St W I w (Zq11 p S::jnHP q p J::l)) (hk:Keeps S (m+2)) (hr:r.Ok) (hI:recI I r vt vc) (hj:JRec S o) :
  Calls Tryz.prog 102 #[.pointer (some ⟨q,0,none⟩),.agg (r.cells vt vc)] w fun e w'=>∃ I',I.sub I'∧e=.returned (.int .i64 (keepJ S J r).1)∧St W I' w' (Zq11 p (keepJ S J r).2.1::jnHP q p (keepJ S J r).2.2::l):=by
 obtain ⟨a,b,hx⟩:∃ a b,saveJ S r=(a,b):=⟨_,_,rfl⟩
 have HX:=Zh (show keepJ S J r=(a,b,endsJ (if a=0 then recJ J r else J) a) by unfold keepJ;rw [hx])
 obtain ⟨V,hrV,h1⟩:=(h.pull 1 _ rfl).jn_open
 have x0:=jn_c0 h1
 have ltq:=h1.lt
 clear hrV h1
 have h2:=h.alloc (.cells (r.cells vt vc) 105)
 have HS:=Zh (fun w2 l2 (h:St W I w2 (Zq11 p S::l2))=>by have:=Zq426 r vt vc o h hk hr hI hj;rw [hx] at this;exact this)
 obtain ⟨At,ct,rfl,_⟩:=hI.1
 obtain ⟨Ac,cc,rfl,_⟩:=hI.2
 simp only [Rc.cells] at h2 HS ⊢
 have HI:=Zh hI
 have H2:=Zh h2
 have HR:=Zh hr
 clear h hk hI hj h2 hr
 have x0':=x0
 go_enter Tryz.func102,Tryz.ntmps102
 go_upto_region 1 with fail
 have h2:=H2.out
 have b2:=(Below.refl w.heap.size w).alloc (Nat.le_refl _) (.cells #[.int .i64 r.shape.splay,.int .i64 r.shape.sets,.int .i64 r.shape.size,.int .i64 r.first,.int .i64 r.set,.slice At r.tags.length ct,.slice Ac r.cls.length cc] 105)
 generalize hw2:(World.alloc _ _:World)=w2 at h2 b2 ⊢
 have x0:w2.cell? ⟨q,0,none⟩=some (.pointer (some ⟨p,0,none⟩)):=(b2.cell ltq).trans x0'
 have h3:=h2.pull 1 _ rfl
 obtain ⟨z0,z1,z2,z3,z4,z5,z6⟩:=Zq117 h2
 have H3:=Zh h3
 clear h2 h3 H2 b2 hw2 x0'
 refine Zq9 [0,1,2] [3,4] [5,6] (by kernel_rfl) (by kernel_rfl) ?_
 simp only [pickL,Zl6,Zl7]
 repeat (refine Zq13 _ (Or.inl ⟨by rfl,by intro w;go_simp;try with_reducible rfl⟩) ?_;(try simp only [Act.put,List.setIfInBounds_toArray,Zl4,Zl5]))
 refine Zq15 ?_
 repeat still_step
 refine wpStill_nil ?_
 go_wp2_with fail
 refine (HS.out _ _ H3.out.drew).mono ?_
 rintro e w4 ⟨I4,s4,rfl,h4⟩
 clear x0 z0 z1 z2 z3 z4 z5 z6 HS H3
 obtain ⟨z0,z1,z2,z3,z4,z5,z6⟩:=Zq117 (h4.pull 1 _ rfl)
 obtain ⟨V4,_,h5⟩:=(h4.pull 2 _ rfl).jn_open
 have k:=Zq55 h5
 have k1:=k 1
 have k2:=k 2
 have k3:=k 3
 have k4:=k 4
 have k5:=k 5
 have k6:=k 6
 have k7:=k 7
 have f:=Zq57 h5
 have lq:=h5.lt
 simp [Zq144] at k1 k2 k3 k4 k5 k6 k7
 have H4:=Zh h4
 clear h4 h5 k
 go_wp2_with fail
 refine NoPanic.normal ?_
 by_cases ha:a=0
 ·subst ha
  rw [if_pos rfl] at HX
  go_wp2_with fail
  have h6:=(H4.out.pull 2 _ rfl).jn_rec (recI.mono s4 HI.out)
  generalize (World.setCell _ _ _:World)=w6 at h6 ⊢
  have HE:=Zh (Zq140 0 h6)
  clear h6 H4 k1 k2 k3 k4 k5 k6 k7 f lq z0 z1 z2 z3 z4 z5 z6
  go_wp2_with fail
  refine HE.out.mono ?_
  rintro e w7 ⟨rfl,h7⟩
  have H7:=Zh (h7.pull 1 _ rfl)
  clear h7
  go_wp2_with fail
  go_ret
  rw [HX.out]
  exact ⟨I4,s4,rfl,(H7.out.pull 2 _ rfl).drop⟩
 ·rw [if_neg ha] at HX
  have hne:(a==0)=false:=by simpa using ha
  have HE:=Zh (Zq140 a (H4.out.pull 2 _ rfl))
  clear H4 k1 k2 k3 k4 k5 k6 k7 f lq z0 z1 z2 z3 z4 z5 z6
  go_wp2_with fail
  refine HE.out.mono ?_
  rintro e w7 ⟨rfl,h7⟩
  have H7:=Zh (h7.pull 1 _ rfl)
  clear h7
  go_wp2_with fail
  go_ret
  rw [HX.out]
  exact ⟨I4,s4,rfl,(H7.out.pull 2 _ rfl).drop⟩
end
end Go.Proofs.YtpjchngjhijgmaaGreat
namespace Go.Proofs.YtpjchngjhijgmaaGreat
open Go.RowKit
section
variable {W w w' : World} {I : Hp} {l : List HP} {p q : Nat} {J : Jn} {S : Str}
set_option maxRecDepth 8000
set_option maxHeartbeats 8000000
theorem jlead_spec (At:Option Addr) (ct:Nat) (ts:List Tag) (o:Option Rc) {m:Nat} (h:St W I w (Zq11 p S::jnHP q p J::l)) (hk:Keeps S (m+2)) (hB:JB J) (ht:RowI I 4 (.slice At ts.length ct) ts.length (flat ts)) (htn:ts.length≤1000000) (hj:JRec S o) :
  Calls Tryz.prog 41 #[.pointer (some ⟨q,0,none⟩),.slice At ts.length ct] w fun e w'=>∃ I',I.sub I'∧e=.returned (.int .i64 (leadJ S J ts).1)∧St W I' w' (Zq11 p (leadJ S J ts).2.1::jnHP q p (leadJ S J ts).2.2::l):=by
 have HM:=Zh (Zq379 h)
 have HSM:=Zh (@Zq274 S J)
 have hnc:ts.length≤ct:=by
  obtain ⟨A,c,e,_,h3,_⟩:=ht
  simp only [Value.slice.injEq] at e
  omega
 obtain ⟨⟨why,RS,RJ⟩,hR⟩:∃ x,x=leadJ S J ts:=⟨_,rfl⟩
 rw [←hR]
 unfold leadJ at hR
 obtain ⟨my,hmy⟩:∃ x,x=mayJ S J:=⟨_,rfl⟩
 rw [←hmy] at HM HSM hR
 have HX:=Zh hR
 have HB:=Zh hB
 have HK:=Zh hk
 have HJ:=Zh hj
 have HT:=Zh ht
 obtain ⟨n,hnn⟩:∃ x,x=ts.length:=⟨_,rfl⟩
 have HTA:=Zh (show ∀ w' (I':Hp) L,I.sub I'→St W I' w' L→TagsAt w' At n ts from fun w' I' L hs h1=>by
  obtain ⟨A,c,e,_,h9⟩:=Zq253 h1 (ht.mono hs)
  simp only [Value.slice.injEq] at e
  obtain ⟨rfl,_,_⟩:=e
  rw [hnn]
  exact h9)
 rw [←hnn] at htn hnc ⊢
 have HNN:=Zh hnn
 clear h hB hmy hR hk hj ht hnn
 by_cases h0:my=0
 ·subst h0
  have HX2:=Zh (HX.out.trans (if_neg (by simp)))
  have hsame:=HSM.out rfl
  rw [hsame] at HM
  clear HSM HX hsame
  have HRT:=Zh (fun w1 L (h1:St W I w1 L)=>right_any At n ct ts w1 (HTA.out w1 I L (Hp.sub.refl _) h1) htn hnc)
  obtain ⟨rb,hrb⟩:∃ x,x=Zq70 ts:=⟨_,rfl⟩
  rw [←hrb] at HRT HX2
  have HRB:=Zh hrb
  clear hrb
  go_enter Tryz.func41,Tryz.ntmps41
  go_wp2_with fail
  refine HM.out.mono ?_
  rintro e w2 ⟨rfl,h2⟩
  have H2:=Zh h2
  clear h2 HM
  go_wp2_with fail
  refine (HRT.out _ _ H2.out).mono ?_
  rintro e w3 ⟨rfl,hb3⟩
  have H3:=Zh (H2.out.keep hb3)
  clear hb3 H2 HRT
  cases rb with
  | false =>
   have e1:=HX2.out.trans (if_pos rfl)
   simp only [Prod.mk.injEq] at e1
   obtain ⟨rfl,rfl,rfl⟩:=e1
   go_wp2_with fail
   go_ret
   exact ⟨I,Hp.sub.refl _,rfl,H3.out⟩
  | true =>
   have HX3:=Zh (HX2.out.trans (if_neg (by simp)))
   obtain ⟨⟨vt,vc,vl,va⟩,hrI,h4⟩:=(H3.out.pull 1 _ rfl).jn_open
   obtain ⟨Al,cl,e1,hncl,_,hnil⟩:=(h4.pull 1 _ rfl).ents_slice
   simp only at e1 hrI h4
   subst e1
   have k8:=jn_c8 h4
   simp only at k8
   have lq:=h4.lt
   obtain ⟨nl,hnl⟩:∃ x,x=J.l.length:=⟨_,rfl⟩
   have HNL:=Zh hnl
   rw [←hnl] at k8 h4
   have HRI:=Zh hrI
   have H4:=Zh h4
   have hn5:nl≤100000:=by rw [hnl];exact HB.out.len
   clear h4 hrI H3 hncl hnil hnl HX2
   go_wp2_with fail
   go_loopw [22] (fun a22 wr=>∃ i:Nat,a22=.int .i64 i∧i≤nl∧(∀ e ∈ J.l.take i,tagOf ts e.seq=e.tag)∧St W I wr (jnBlk q p J ⟨vt,vc,.slice Al nl cl,va⟩::Zq25 (.slice Al nl cl) J.l::Zq19 va J.at_::Zq11 p S::l)) (fun a22 _=>nl - (intOf a22).toNat)
   case atStart=>exact ⟨0,rfl,Nat.zero_le _,fun e he=>by simp at he,H4.out⟩
   case round =>
    obtain ⟨i,rfl,hi,hall,hst⟩:=hrel
    clear H4 k8 lq
    by_cases hlt:i<nl
    ·have hlt2:(i:Int)<(nl:Int):=by omega
     obtain ⟨e,he⟩:∃ e,J.l[i]?=some e:=⟨_,List.getElem?_eq_getElem (by rw [←HNL.out];exact hlt)⟩
     obtain ⟨g,qq,c3,vd,e2,hg,hbd,hbb,y0,y1,y2⟩:=(hst.pull 1 _ rfl).ents_cell he
     rw [←HNL.out] at e2
     simp only [Value.slice.injEq] at e2
     obtain ⟨rfl,hnn,rfl⟩:=e2
     clear hnn
     obtain ⟨Ad,cd,rfl⟩:=hbd.isSl
     have h5:=hst.alloc (.cells #[.int .i64 e.tag,.int .i64 e.seq,.slice Ad e.data.length cd] 50)
     have HALL:=Zh hall
     have HE:=Zh he
     obtain ⟨tg,sq,d⟩:=e
     simp only at y0 y1 y2 h5
     obtain ⟨tv,htv⟩:∃ x,x=tagOf ts sq:=⟨_,rfl⟩
     have HTV:=Zh htv
     obtain ⟨g7,hg7⟩:∃ x,x=wr.heap.size:=⟨_,rfl⟩
     rw [←hg7] at h5
     have H5:=Zh h5
     clear hst h5 hall he hbd hbb htv
     go_upto_region 9 with fail
     rw [←hg7]
     have h5:=H5.out
     generalize (World.alloc _ _:World)=w5 at h5 ⊢
     clear y0 y1 y2 hg H5 hg7
     have HMK:=Zh (show ∀ w' L,St W I w' (HP.pt g7 (.cells #[.int .i64 tg,.int .i64 sq,.slice Ad d.length cd] 50)::L)→(w'.cell? ⟨g7,0,none⟩=some (.int .i64 tg)∧w'.cell? ⟨g7,1,none⟩=some (.int .i64 sq)) from fun w' L h1=>by
      obtain ⟨a0,a1,a2⟩:=Zq41 h1
      exact ⟨a0,a1⟩)
     have H5:=Zh h5
     clear h5
     refine Zq37 (fun w'=>St W I w' (HP.pt g7 (.cells #[.int .i64 tg,.int .i64 sq,.slice Ad d.length cd] 50)::jnBlk q p J ⟨vt,vc,.slice (some ⟨g,qq,none⟩) nl cl,va⟩::Zq25 (.slice (some ⟨g,qq,none⟩) nl cl) J.l::Zq19 va J.at_::Zq11 p S::l)∧w'.cell? ⟨g7,0,none⟩=some (.int .i64 tg)∧w'.cell? ⟨g7,1,none⟩=some (.int .i64 sq)) [(0,false),(1,false),(2,false),(3,false),(4,false),(5,false),(6,false)] [] [] (by kernel_rfl) (by kernel_rfl) (by (intro w' hb;exact ⟨H5.out.drew.keep hb,HMK.out _ _ (H5.out.drew.keep hb)⟩)) ?_
     repeat (first|(refine Zq52 (by rfl) _ (by rfl) (by intro w;go_simp;try with_reducible rfl) ?_;(try simp only [Act.put,List.setIfInBounds_toArray,Zl4,Zl5]))|(refine Zq118 (by rfl) _ (by rfl) (by (intro w hSw;(try dsimp only at hSw);go_simp;try with_reducible rfl)) ?_;(try simp only [Act.put,List.setIfInBounds_toArray,Zl4,Zl5]))|(refine Zq71 (by rfl) (by rfl) ?_;(try simp only [Act.put,List.setIfInBounds_toArray,Zl4,Zl5]))|fail)
     refine Zq159 (by rfl) (.int .i64 tv) (67) (#[.slice At n ct,.int .i64 sq]) (by rfl) (by intro w;go_simp;try with_reducible rfl) (by (rintro w1 ⟨hS,_⟩;rw [HTV.out];exact (Zq674 At n ct ts sq w1 (HTA.out _ I _ (Hp.sub.refl _) hS) htn).mono (by rintro e w' ⟨h1,rfl⟩;exact ⟨h1,Below.refl _ _⟩))) ?_
     (try simp only [Act.put,List.setIfInBounds_toArray,Zl4,Zl5])
     repeat (first|(refine Zq52 (by rfl) _ (by rfl) (by intro w;go_simp;try with_reducible rfl) ?_;(try simp only [Act.put,List.setIfInBounds_toArray,Zl4,Zl5]))|(refine Zq118 (by rfl) _ (by rfl) (by (intro w hSw;(try dsimp only at hSw);go_simp;try with_reducible rfl)) ?_;(try simp only [Act.put,List.setIfInBounds_toArray,Zl4,Zl5]))|(refine Zq71 (by rfl) (by rfl) ?_;(try simp only [Act.put,List.setIfInBounds_toArray,Zl4,Zl5]))|fail)
     refine Zq264 ?_
     refine Zq421 ?_
     rintro w6 hz6
     have h6:=(H5.out.drew.keep hz6.below).drop
     have H6:=Zh h6
     clear h6 hz6 H5 HMK
     by_cases htq:tv=tg
     ·have hall2:∀ e ∈ J.l.take (i+1),tagOf ts e.seq=e.tag:=by
       rw [List.take_add_one,HE.out]
       intro x hx
       rcases List.mem_append.1 hx with hx|hx
       ·exact HALL.out x hx
       ·simp only [Option.toList_some,List.mem_singleton] at hx
        subst hx
        show tagOf ts sq=tg
        rw [←HTV.out];exact htq
      have HALL2:=Zh hall2
      subst htq
      clear hall2 HALL HE HTV
      go_wp2_with fail
      refine NoPanic.normal ?_
      go_wp2_with fail
      go_roundw
      case rel=>exact ⟨i+1,by go_num,by omega,HALL2.out,H6.out⟩
      case measure=>first|(simp [intOf];done)|(simp [intOf];omega)|fail
     ·have hno:Zq929 J ts=false:=by
       unfold Zq929
       rw [List.all_eq_false]
       exact ⟨⟨tg,sq,d⟩,List.mem_of_getElem? HE.out,by simp;rw [←HTV.out];exact htq⟩
      have e1:=HX3.out.trans (if_pos hno)
      simp only [Prod.mk.injEq] at e1
      obtain ⟨rfl,rfl,rfl⟩:=e1
      have hne:(tv != tg)=true:=by simpa using htq
      have h7:=St.jn_shut (J:=RJ) (V:=⟨vt,vc,.slice (some ⟨g,qq,none⟩) nl cl,va⟩) HRI.out H6.out
      have H7:=Zh (h7.pull 1 _ rfl)
      clear h7 H6 hno HALL HE HTV htq
      go_wp2_with fail
      refine NoPanic.normal ?_
      go_wp2_with fail
      go_ret
      exact ⟨I,Hp.sub.refl _,rfl,H7.out⟩
    ·obtain rfl:i=nl:=by omega
     have hlt2:¬ (i:Int)<(i:Int):=by omega
     have hyes:Zq929 J ts=true:=by
      unfold Zq929
      rw [List.all_eq_true]
      intro e he
      rw [List.take_of_length_le (by rw [←HNL.out];exact Nat.le_refl _)] at hall
      exact decide_eq_true (hall e he)
     have HX4:=Zh (HX3.out.trans (if_neg (by rw [hyes];simp)))
     obtain ⟨Av,cv,ev,_⟩:=HRI.out.1
     obtain ⟨Ac,cc,ec,_⟩:=HRI.out.2
     subst ev ec
     have hst2:St W I wr (jnBlk q p J ⟨.slice Av J.r.tags.length cv,.slice Ac J.r.cls.length cc,.slice Al J.l.length cl,va⟩::Zq25 (.slice Al J.l.length cl) J.l::Zq19 va J.at_::Zq11 p S::l):=by rw [←HNL.out];exact hst
     have hjn:=St.jn_shut (J:=J) (V:=⟨.slice Av J.r.tags.length cv,.slice Ac J.r.cls.length cc,.slice Al J.l.length cl,va⟩) HRI.out hst2
     obtain ⟨a1,a2,a3⟩:=Zq167 hst2
     have a4:=jn_c4 hst2
     have a5:=jn_c5 hst2
     have a6:=jn_c6 hst2
     have a7:=jn_c7 hst2
     have lq:=hst2.lt
     simp only at a6 a7
     have h5:=hjn.alloc (.cells #[.int .i64 J.r.shape.splay,.int .i64 J.r.shape.sets,.int .i64 J.r.shape.size,.int .i64 J.r.first,.int .i64 J.r.set,.slice Av J.r.tags.length cv,.slice Ac J.r.cls.length cc] 105)
     obtain ⟨g8,hg8⟩:∃ x,x=wr.heap.size:=⟨_,rfl⟩
     rw [←hg8] at h5
     have H5:=Zh h5
     have HOK:=Zh (show (tagsR J.r ts).Ok from ⟨HB.out.ok.shape,HB.out.ok.first,HB.out.ok.set,HRB.out.symm,HB.out.ok.cls⟩)
     clear hst hst2 hjn h5 hall hyes
     go_upto_region 13 with fail
     rw [←hg8]
     have h5:=H5.out
     generalize (World.alloc _ _:World)=w5 at h5 ⊢
     clear a1 a2 a3 a4 a5 a6 a7 lq H5 hg8
     obtain ⟨z0,z1,z2,z3,z4,z5,z6⟩:=Zq117 h5
     have lg:=h5.lt
     have fg:=frozen_of_row h5.heap
     have HCL:=Zh (clone_any At n ct ts w5 (HTA.out _ I _ (Hp.sub.refl _) h5) htn)
     have H5:=Zh h5
     clear h5
     go_wp2_with fail
     refine HCL.out.mono ?_
     rintro e w6 ⟨v6,rfl,ho6,hb6⟩
     obtain ⟨A6,c6,rfl⟩:=Zq17 ho6
     obtain ⟨I6,s6,hR6,h6⟩:=(H5.out.row_fresh hb6 ho6).freeze_row
     clear z0 z1 z2 z3 z4 z5 z6 lg fg ho6 hb6 H5 HCL
     obtain ⟨z0,z1,z2,z3,z4,z5,z6⟩:=Zq117 h6
     have lg:=h6.lt
     have fg:=frozen_of_row h6.heap
     have h7:=h6.setCell 5 (.slice A6 n c6)
     simp only [List.setIfInBounds_toArray,Zl4,Zl5] at h7
     have hkp:=fun w1 L (h:St W I6 w1 (Zq11 p S::jnHP q p J::L))=>jkeep_spec (tagsR J.r ts) (.slice A6 n c6) (.slice Ac J.r.cls.length cc) o h HK.out HOK.out ⟨by show RowI I6 4 (.slice A6 n c6) ts.length (flat ts);rw [←HNN.out];exact hR6,HRI.out.2.mono s6⟩ HJ.out
     simp only [Rc.cells,tagsR] at hkp
     have HKP:=Zh hkp
     have S6:=Zh s6
     have H7:=Zh ((h7.pull 2 _ rfl).pull 2 _ rfl)
     clear h6 h7 hkp s6 hR6
     go_upto_region 14 with fail
     have h8:=H7.out
     generalize (World.setCell _ _ _:World)=w8 at h8 ⊢
     clear z0 z1 z2 z3 z4 z5 z6 lg fg H7
     obtain ⟨z0,z1,z2,z3,z4,z5,z6⟩:=Zq117 (h8.pull 2 _ rfl)
     have lg:=(h8.pull 2 _ rfl).lt
     have H8:=Zh (h8.pull 1 _ rfl)
     clear h8
     have hx4:=HX4.out
     unfold tagsR at hx4
     obtain ⟨R9,hr9⟩:∃ x,x=keepJ S J ⟨J.r.shape,J.r.first,J.r.set,ts,J.r.cls⟩:=⟨_,rfl⟩
     rw [←hr9] at hx4 HKP
     subst hx4
     clear hr9
     go_wp2_with fail
     refine (HKP.out _ _ H8.out).mono ?_
     rintro e w9 ⟨I9,s9,rfl,h9⟩
     have H9:=Zh h9
     have S9:=Zh (S6.out.trans s9)
     clear h9 s9
     go_wp2_with fail
     go_ret
     exact ⟨I9,S9.out,rfl,((H9.out.pull 2 _ rfl).drop)⟩
 ·have e1:=HX.out.trans (if_pos h0)
  simp only [Prod.mk.injEq] at e1
  obtain ⟨rfl,rfl,rfl⟩:=e1
  have hne:(why != 0)=true:=by simpa using h0
  go_enter Tryz.func41,Tryz.ntmps41
  go_wp2_with fail
  refine HM.out.mono ?_
  rintro e w2 ⟨rfl,h2⟩
  have H2:=Zh h2
  clear h2
  go_wp2_with fail
  go_ret
  exact ⟨I,Hp.sub.refl _,rfl,H2.out⟩
end
end Go.Proofs.YtpjchngjhijgmaaGreat
namespace Go.Proofs.YtpjchngjhijgmaaGreat
open Go.RowKit
theorem JOK.keep {S:Str} {J:Jn} {r:Rc} (h:JOK S J) (ok:r.Ok):keepJ S J r=(if (saveJ S r).1=0 then (0,(saveJ S r).2,recJ J r) else (7,(saveJ S r).2,deadJ J)) ∧
  (r.shape=J.r.shape→r.first=J.r.first→r.set=J.r.set→(∀ e ∈ J.l,tagOf r.tags e.seq=tagOf J.r.tags e.seq)→(saveJ S r).1=0→JOK (saveJ S r).2 (recJ J r)):=by
 obtain ⟨t,ht,hat⟩:=h.rec_
 refine ⟨?_,fun e1 e2 e3 e4 h0=>?_⟩
 ·unfold keepJ
  rcases Zq550 h.live ht ok with e|e
  ·simp [e,endsJ]
  ·simp [e,endsJ]
 ·obtain ⟨a,b,c⟩:=Zq700 h.live ht ok h0
  exact h.recd (n:=J.safe) a b c ok e1 e2 e3 e4 h.safe
theorem JOK.lead {S:Str} {J:Jn} {ts:List Tag} (h:JOK S J) (hr:Zq70 ts=true) (hl:Zq929 J ts=true):(tagsR J.r ts).Ok∧leadJ S J ts=(if (saveJ S (tagsR J.r ts)).1=0 then (0,(saveJ S (tagsR J.r ts)).2,recJ J (tagsR J.r ts)) else (7,(saveJ S (tagsR J.r ts)).2,deadJ J)) ∧
  ((saveJ S (tagsR J.r ts)).1=0→JOK (saveJ S (tagsR J.r ts)).2 (recJ J (tagsR J.r ts))):=by
 have ok:(tagsR J.r ts).Ok:=⟨h.ok.shape,h.ok.first,h.ok.set,hr,h.ok.cls⟩
 obtain ⟨a,b⟩:=h.keep ok
 refine ⟨ok,?_,b rfl rfl rfl fun e he=>?_⟩
 ·unfold leadJ
  rw [if_neg (by simp [h.may]),if_neg (by simp [hr]),if_neg (by simp [hl]),a]
 ·unfold Zq929 at hl
  rw [List.all_eq_true] at hl
  have:=hl e he
  rw [decide_eq_true_eq] at this
  exact this.trans (h.ents e he).2.2
end Go.Proofs.YtpjchngjhijgmaaGreat
namespace Go.Proofs.YtpjchngjhijgmaaGreat
open Go.RowKit
section
variable {W w : World} {I : Hp} {l : List HP}
set_option maxRecDepth 4000
set_option maxHeartbeats 8000000
theorem IntsI.cells {A:Option Addr} {c:Nat} {ns:List Int} {i:Nat} {n:Int} (h:IntsI I (.slice A ns.length c) ns) (hi:ns[i]?=some n):∃ b off,A=some ⟨b,off,none⟩∧∀ {W' w':World} {I':Hp} {l':List HP},I.sub I'→St W' I' w' l'→w'.cell? ⟨b,off+i,none⟩=some (.int .i64 n):=by
 obtain ⟨A1,c1,e,h2,h3,h4,h5,h6⟩:=h
 have hil:=(List.getElem?_eq_some_iff.1 hi).1
 obtain ⟨b,off,cs,t,f,e3,e4,e5⟩:=h6 (by omega)
 simp only [Value.slice.injEq] at e
 obtain ⟨rfl,_,_⟩:=e
 refine ⟨b,off,e3,fun hs hst=>?_⟩
 have h9:=hst.imm _ _ (hs _ _ e4)
 rw [Zq0 h9,e5 i (intV n) (by rw [List.getElem?_map,hi];rfl)]
 rfl
end
end Go.Proofs.YtpjchngjhijgmaaGreat
