import Derived.Test.YtpjchngjhijgmaaGreatJQ21
set_option linter.all false
namespace Go.Proofs.YtpjchngjhijgmaaGreat
open Go.RowKit
section
variable {W w w' : World} {I : Hp} {l : List HP} {p q : Nat} {S : Str} {J : Jn}
def recJ (J:Jn) (r:Rc):Jn:={ J with r:=r }
def keepJ (S:Str) (J:Jn) (r:Rc):Int × Str × Jn:=((saveJ S r).1,(saveJ S r).2,endsJ (if (saveJ S r).1=0 then recJ J r else J) (saveJ S r).1)
set_option maxRecDepth 4000
set_option maxHeartbeats 4000000
theorem St.jn_rec {r:Rc} {vt vc:Value} (hI:recI I r vt vc) (h:St W I w (jnHP q p J::l)):St W I (((((((w.setCell ⟨q,1,none⟩ (.int .i64 r.shape.splay)).setCell ⟨q,2,none⟩ (.int .i64 r.shape.sets)).setCell ⟨q,3,none⟩ (.int .i64 r.shape.size)).setCell ⟨q,4,none⟩ (.int .i64 r.first)).setCell ⟨q,5,none⟩ (.int .i64 r.set)).setCell ⟨q,6,none⟩ vt).setCell ⟨q,7,none⟩ vc) (jnHP q p (recJ J r)::l):=by
 obtain ⟨V,hr,h1⟩:=h.jn_open
 have h2:=((((((h1.setCell 1 (.int .i64 r.shape.splay)).setCell 2 (.int .i64 r.shape.sets)).setCell 3 (.int .i64 r.shape.size)).setCell 4 (.int .i64 r.first)).setCell 5 (.int .i64 r.set)).setCell 6 vt).setCell 7 vc
 simp only [Zq104,List.setIfInBounds_toArray,Zl4,Zl5] at h2
 exact St.jn_shut (J:=recJ J r) (V:={ V with vt:=vt,vc:=vc }) hI h2
theorem Zq605 (r:Rc) (vt vc:Value) (o:Option Rc) {m:Nat} (h:St W I w (Zq8 p S::jnHP q p J::l)) (hk:Keeps S (m+2)) (hr:r.Ok) (hI:recI I r vt vc) (hj:JRec S o) :
  Calls Tryz.prog 102 #[.pointer (some ⟨q,0,none⟩),.agg (r.cells vt vc)] w fun e w'=>∃ I',I.sub I'∧e=.returned (.int .i64 (keepJ S J r).1)∧St W I' w' (Zq8 p (keepJ S J r).2.1::jnHP q p (keepJ S J r).2.2::l):=by
 obtain ⟨a,b,hx⟩:∃ a b,saveJ S r=(a,b):=⟨_,_,rfl⟩
 have HX:=Zh (show keepJ S J r=(a,b,endsJ (if a=0 then recJ J r else J) a) by unfold keepJ;rw [hx])
 obtain ⟨V,hrV,h1⟩:=(h.pull 1 _ rfl).jn_open
 have x0:=jn_c0 h1
 have ltq:=h1.lt
 clear hrV h1
 have h2:=h.alloc (.cells (r.cells vt vc) 105)
 have HS:=Zh (fun w2 l2 (h:St W I w2 (Zq8 p S::l2))=>by have:=Zq253 r vt vc o h hk hr hI hj;rw [hx] at this;exact this)
 obtain ⟨At,ct,rfl,_⟩:=hI.1
 obtain ⟨Ac,cc,rfl,_⟩:=hI.2
 simp only [Rc.cells] at h2 HS ⊢
 have HI:=Zh hI
 have H2:=Zh h2
 have HR:=Zh hr
 clear h hk hI hj h2 hr
 have x0':=x0
 go_enter Tryz.func102,Tryz.ntmps102
 go_upto_region 1 with fail
 have h2:=H2.out
 have b2:=(Below.refl w.heap.size w).alloc (Nat.le_refl _) (.cells #[.int .i64 r.shape.splay,.int .i64 r.shape.sets,.int .i64 r.shape.size,.int .i64 r.first,.int .i64 r.set,.slice At r.tags.length ct,.slice Ac r.cls.length cc] 105)
 generalize hw2:(World.alloc _ _:World)=w2 at h2 b2 ⊢
 have x0:w2.cell? ⟨q,0,none⟩=some (.pointer (some ⟨p,0,none⟩)):=(b2.cell ltq).trans x0'
 have h3:=h2.pull 1 _ rfl
 obtain ⟨z0,z1,z2,z3,z4,z5,z6⟩:=Zq83 h2
 have H3:=Zh h3
 clear h2 h3 H2 b2 hw2 x0'
 refine Zq11 [0,1,2] [3,4] [5,6] (by kernel_rfl) (by kernel_rfl) ?_
 simp only [pickL,Zl6,Zl7]
 repeat (refine Zq14 _ (Or.inl ⟨by rfl,by intro w;go_simp;try with_reducible rfl⟩) ?_;(try simp only [Act.put,List.setIfInBounds_toArray,Zl4,Zl5]))
 refine Zq17 ?_
 repeat still_step
 refine wpStill_nil ?_
 go_wp2_with fail
 refine (HS.out _ _ H3.out.drew).mono ?_
 rintro e w4 ⟨I4,s4,rfl,h4⟩
 clear x0 z0 z1 z2 z3 z4 z5 z6 HS H3
 obtain ⟨z0,z1,z2,z3,z4,z5,z6⟩:=Zq83 (h4.pull 1 _ rfl)
 obtain ⟨V4,_,h5⟩:=(h4.pull 2 _ rfl).jn_open
 have k:=Zq40 h5
 have k1:=k 1
 have k2:=k 2
 have k3:=k 3
 have k4:=k 4
 have k5:=k 5
 have k6:=k 6
 have k7:=k 7
 have f:=Zq42 h5
 have lq:=h5.lt
 simp [Zq104] at k1 k2 k3 k4 k5 k6 k7
 have H4:=Zh h4
 clear h4 h5 k
 go_wp2_with fail
 refine NoPanic.normal ?_
 by_cases ha:a=0
 ·subst ha
  rw [if_pos rfl] at HX
  go_wp2_with fail
  have h6:=(H4.out.pull 2 _ rfl).jn_rec (recI.mono s4 HI.out)
  generalize (World.setCell _ _ _:World)=w6 at h6 ⊢
  have HE:=Zh (Zq70 0 h6)
  clear h6 H4 k1 k2 k3 k4 k5 k6 k7 f lq z0 z1 z2 z3 z4 z5 z6
  go_wp2_with fail
  refine HE.out.mono ?_
  rintro e w7 ⟨rfl,h7⟩
  have H7:=Zh (h7.pull 1 _ rfl)
  clear h7
  go_wp2_with fail
  go_ret
  rw [HX.out]
  exact ⟨I4,s4,rfl,(H7.out.pull 2 _ rfl).drop⟩
 ·rw [if_neg ha] at HX
  have hne:(a==0)=false:=by simpa using ha
  have HE:=Zh (Zq70 a (H4.out.pull 2 _ rfl))
  clear H4 k1 k2 k3 k4 k5 k6 k7 f lq z0 z1 z2 z3 z4 z5 z6
  go_wp2_with fail
  refine HE.out.mono ?_
  rintro e w7 ⟨rfl,h7⟩
  have H7:=Zh (h7.pull 1 _ rfl)
  clear h7
  go_wp2_with fail
  go_ret
  rw [HX.out]
  exact ⟨I4,s4,rfl,(H7.out.pull 2 _ rfl).drop⟩
def clsR (r:Rc) (cs:List Cl):Rc:=⟨r.shape,r.first,r.set,r.tags,cs⟩
def withJ (S:Str) (J:Jn) (cs:List Cl) (why:Int):Int × Str × Jn:=if why≠0 then (why,S,J) else keepJ S J (clsR J.r cs)
def uptoJ (S:Str) (J:Jn) (id pos:Int):Int:=if mayJ S J≠0 then mayJ S J else if mayC id pos=false then 1 else if endJ J<pos then 3 else 0
end
end Go.Proofs.YtpjchngjhijgmaaGreat
namespace Go.Proofs.YtpjchngjhijgmaaGreat
open Go.RowKit
theorem Zq222 {l:List Tag} {end_:Int} {i:Nat} (h1:∀ j t,j<i→l[j]?=some t→t.at_≤end_) (h2:∀ t,l[i]?=some t→¬ t.at_≤end_) (hi:i≤l.length):Zq43 l end_=l.take i:=by
 unfold Zq43
 induction l generalizing i with
 | nil=>simp
 | cons a l ih =>
  cases i with
  | zero =>
   have:=h2 a rfl
   rw [List.takeWhile_cons_of_neg (by simpa using this)]
   rfl
  | succ i =>
   have:=h1 0 a (by omega) rfl
   rw [List.takeWhile_cons_of_pos (by simpa using this),ih (i:=i) (fun j t hj ht=>h1 (j+1) t (by omega) (by simpa using ht)) (fun t ht=>h2 t (by simpa using ht)) (by simpa using hi)]
   rfl
section
set_option maxRecDepth 4000
set_option maxHeartbeats 4000000
theorem Zq467 (A:Option Addr) (n c:Nat) (l:List Tag) (end_:Int) (w:World) (hl:TagsAt w A n l) (hn:n≤1000000) (hnc:n≤c) :
  Calls Tryz.prog 90 #[.slice A n c,.int .i64 end_] w fun e w'=>∃ v,e=.returned v∧w'.ownsRow w.heap.size 80 4 v (Zq43 l end_).length (flat (Zq43 l end_))∧Below w.heap.size w w':=by
 have HL:=Zh hl
 have hlen:=hl.len
 clear hl
 go_enter Tryz.func90,Tryz.ntmps90
 go_wp2_with fail
 go_loopw [5] (fun a5 wr=>∃ i:Nat,a5=.int .i64 i∧i≤n∧(∀ j t,j<i→l[j]?=some t→t.at_≤end_)∧wr=w) (fun a5 _=>n - (intOf a5).toNat)
 case atStart=>exact ⟨0,rfl,Nat.zero_le _,fun j t h=>by omega,rfl⟩
 case round =>
  obtain ⟨i,rfl,hi,hall,rfl⟩:=hrel
  have done:(∀ t,l[i]?=some t→¬ t.at_≤end_)→∃ v,True:=fun _=>⟨Value.bool true,trivial⟩
  clear done
  by_cases hlt:i<n
  ·have d0:decide ((i:Int)<(n:Int))=true:=by rw [decide_eq_true_eq];omega
   obtain ⟨b,off,t,rfl,hbl,hti,c0,c1,c2,c3⟩:=HL.out.at_ hlt
   have hin:(i:Int)<(n:Int):=by omega
   by_cases hb:t.at_≤end_
   ·have d1:decide (t.at_≤end_)=true:=decide_eq_true hb
    have HA:=Zh (show ∀ j u,j<i+1→l[j]?=some u→u.at_≤end_ from fun j u hj hu=>by
     by_cases e:j=i
     ·subst e;rw [hti] at hu;cases hu;exact hb
     ·exact hall j u (by omega) hu)
    clear hall hti
    go_wp2_with fail
    go_roundw
    case rel=>exact ⟨i+1,by go_num,by omega,HA.out,trivial⟩
    case measure=>first|(simp [intOf];done)|(simp [intOf];omega)|fail
   ·have d1:decide (t.at_≤end_)=false:=decide_eq_false hb
    have HC:=Zh (Zq222 hall (fun u hu=>by rw [hti] at hu;cases hu;exact hb) (by omega))
    have hic:i≤c:=by omega
    have HCL:=Zh (Zq300 (some ⟨b,off,none⟩) i c (l.take i) wr (HL.out.take (by omega)) (by omega))
    clear hall hti
    go_wp2_with fail
    refine HCL.out.mono ?_
    rintro e w2 ⟨v,rfl,ho,hb2⟩
    have HO:=Zh ho
    have HB2:=Zh hb2
    clear ho hb2
    go_wp2_with fail
    go_ret
    refine ⟨v,rfl,?_,HB2.out⟩
    rw [HC.out,List.length_take,show min i l.length=i by omega]
    exact HO.out
  ·obtain rfl:i=n:=by omega
   have d0:decide (((i:Nat):Int)<(i:Int))=false:=by rw [decide_eq_false_iff_not];omega
   have HC:=Zh (Zq222 (i:=i) hall (fun u hu=>by rw [List.getElem?_eq_none (by omega)] at hu;cases hu) (by omega))
   have HCL:=Zh (Zq300 A i c (l.take i) wr (HL.out.take (by omega)) (by omega))
   clear hall
   go_wp2_with fail
   refine HCL.out.mono ?_
   rintro e w2 ⟨v,rfl,ho,hb2⟩
   have HO:=Zh ho
   have HB2:=Zh hb2
   clear ho hb2
   go_wp2_with fail
   go_ret
   refine ⟨v,rfl,?_,HB2.out⟩
   rw [HC.out,List.length_take,show min i l.length=i by omega]
   exact HO.out
end
end Go.Proofs.YtpjchngjhijgmaaGreat
