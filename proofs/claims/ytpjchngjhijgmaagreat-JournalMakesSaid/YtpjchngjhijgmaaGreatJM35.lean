import Derived.Test.YtpjchngjhijgmaaGreatJM00
set_option linter.all false
namespace Go.Proofs.YtpjchngjhijgmaaGreat
open Go.RowKit
section
variable {P : Program} {ops : Array Oper} {md : Region.Mode} {w : World}
def Zq359 (P:Program) (md:Region.Mode) (ops:Array Oper) (Q:Exit→Act→World→Prop) (S:Bool→World→Prop) (N:Bool→Nat→Bool):Nat→Array Bool→Act→World→Prop
 | 0,listed,a,w=>Region.ready md ops listed=[]∧Q .normal a w
 | f+1,listed,a,w=>(Region.ready md ops listed=[]→Q .normal a w) ∧
  ∀ i ∈ Region.ready md ops listed,wpOp P ops Q i (fun a' w'=>(∀ s,N s i=true→S s w→S s w')∧Zq359 P md ops Q S N f (listed.setIfInBounds i true) a' w') a w
variable {Q : Exit → Act → World → Prop} {S : Bool → World → Prop} {N : Bool → Nat → Bool}
theorem Zq417:∀ (f:Nat) (listed:Array Bool) (a:Act) (w:World),Zq359 P md ops Q S N f listed a w→wpAny P md ops Q f listed a w
 | 0,_,_,_,h=>h
 | f+1,_,_,_,h=>⟨h.1,fun i hi=>wpOp_mono (fun a' w' h'=>Zq417 f _ a' w' h'.2) (h.2 i hi)⟩
theorem Zq462 {s:Bool} {i:Nat} {oi:Oper} {v:Value} (hi:ops[i]?=some oi) (hsel:∀ (j:Nat) (o:Oper) cs b,ops[j]?=some o→o.op≠.select cs b)
  (hQ:∀ c (a:Act) d v w,Q (.panic c) (a.put d v) w→Q (.panic c) a w) (hN:∀ listed,ShutDown md ops listed→listed.getD i true=false→∀ j ∈ Region.ready md ops listed,N s j=true) :
  ∀ (f:Nat) (listed:Array Bool) (a:Act) (w:World),ShutDown md ops listed →
   (∀ j oj,ops[j]?=some oj→j≠i→listed.getD j true=false→(∀ e ∈ oj.after,Region.binds md e=true→e.on≠i)→oi.apart ops oj=true) →
   i ∈ Region.ready md ops listed→YieldsIf P ops (S s) oi v a→S s w →
   Zq359 P md ops Q S N f (listed.setIfInBounds i true) (a.put oi.dst v) w→Zq359 P md ops Q S N (f+1) listed a w:=by
 intro f
 induction f with
 | zero =>
  intro listed a w _ _ hr hy hS H
  refine ⟨fun h=>(by rw [h] at hr;cases hr),fun j hj=>?_⟩
  by_cases hji:j=i
  ·subst hji;exact hy.wpOp hi hS ⟨fun _ _ h=>h,H⟩
  ·have:=ready_mono hj hji
   rw [H.1] at this
   cases this
 | succ f ih =>
  intro listed a w hs hfree hr hy hS H
  have hun:=(mem_ready.1 hr).1
  refine ⟨fun h=>(by rw [h] at hr;cases hr),fun j hj=>?_⟩
  by_cases hji:j=i
  ·subst hji;exact hy.wpOp hi hS ⟨fun _ _ h=>h,H⟩
  ·have hNj:=hN listed hs hun j hj
   obtain ⟨hjun,oj,hoj,hall⟩:=mem_ready.1 hj
   have hnot:∀ e ∈ oj.after,Region.binds md e=true→e.on≠i:=fun e he hb heq=>by
    have h2:=hall e he hb
    rw [heq,Zq34 hun] at h2
    cases h2
   have h3:=wpOp_putIf hoj (hfree j oj hoj hji hjun hnot) (fun cs b=>hsel i oi cs b hi) (fun cs b=>hsel j oj cs b hoj) (fun c a w=>hQ c a _ _ w) hy (H.2 j (ready_mono hj hji))
   refine wpOp_mono (fun a' w' h4=>⟨h4.2.1,?_⟩) h3
   refine ih (listed.setIfInBounds j true) a' w' (hs.next hj) (fun k ok hk hki hkun hno=>hfree k ok hk hki ?_ hno) (ready_mono hr (Ne.symm hji)) h4.1 (h4.2.1 s hNj hS) ?_
   ·by_cases hjk:j=k
    ·subst hjk;exact hjun
    ·rwa [getD_set_ne true hjk] at hkun
   ·rw [Array.setIfInBounds_comm _ _ hji];exact h4.2.2
theorem Zq189 {l:List Oper} {K:Act→Prop} {g:Nat} {s:Bool} (hsel:Region.noSelect l.toArray=true) (hQ:∀ c (a:Act) d v w,Q (.panic c) (a.put d v) w→Q (.panic c) a w) (hS:S s w) :
  ∀ (ks:List Nat) (listed:Array Bool) (a:Act),(∀ k ∈ ks,∀ listed,ShutDown md l.toArray listed→listed.getD k true=false→∀ j ∈ Region.ready md l.toArray listed,N s j=true)→ShutDown md l.toArray listed→Zq97 md l.toArray ks listed=true →
  (∀ a',ShutDown md l.toArray (Zq27 ks listed)→K a'→Zq359 P md l.toArray Q S N g (Zq27 ks listed) a' w)→Zq163 P l.toArray (S s) K (pickL l ks) a→Zq359 P md l.toArray Q S N (ks.length+g) listed a w
 | [],listed,a,_,hs,_,hK,h=>by rw [List.length_nil,Nat.zero_add];exact hK a hs h
 | k::ks,listed,a,hN,hs,hB,hK,h=>by
  simp only [Zq97,Bool.and_eq_true] at hB
  obtain ⟨⟨hr,hf⟩,hB'⟩:=hB
  have hr':k ∈ Region.ready md l.toArray listed:=by simpa using hr
  obtain ⟨o,ho⟩:=Zq73 hr'
  have ho':l[k]?=some o:=by simpa using ho
  have e:pickL l (k::ks)=o::pickL l ks:=by simp [pickL,ho']
  rw [e] at h
  obtain ⟨v,hy,h⟩:=h
  rw [List.length_cons,show ks.length+1+g=(ks.length+g)+1 by omega]
  exact Zq462 ho (Region.noSelect_spec hsel) hQ (hN k (List.mem_cons_self ..)) _ listed a w hs (Region.free_spec ho hf) hr' hy hS (Zq189 hsel hQ hS ks _ _ (fun j hj=>hN j (List.mem_cons_of_mem _ hj)) (hs.next hr') hB' hK h)
theorem Zq311 {l:List Oper}:∀ (ks:List Nat) (listed:Array Bool) (a:Act) (w:World),(∀ k ∈ ks,∀ s,N s k=false)→tailB md l.toArray ks listed=true→wpList P l.toArray Q (pickL l ks) a w→Zq359 P md l.toArray Q S N ks.length listed a w
 | [],listed,a,w,_,hB,h=>⟨by simpa [tailB] using hB,h⟩
 | k::ks,listed,a,w,hN,hB,h=>by
  simp only [tailB,Bool.and_eq_true,decide_eq_true_eq] at hB
  refine ⟨fun h1=>(by rw [hB.1] at h1;cases h1),fun i hi=>?_⟩
  have hi':=hi
  rw [hB.1] at hi'
  obtain rfl:i=k:=by simpa using hi'
  obtain ⟨o,ho⟩:=Zq73 hi
  have ho':l[i]?=some o:=by simpa using ho
  have e:pickL l (i::ks)=o::pickL l ks:=by simp [pickL,ho']
  rw [e] at h
  have hw:wpOp P l.toArray Q i (wpList P l.toArray Q (pickL l ks)) a w:=by unfold wpOp;simp only [ho];exact h
  exact wpOp_mono (fun a' w' h'=>⟨fun s hn=>(by rw [hN i (List.mem_cons_self ..) s] at hn;cases hn),Zq311 ks _ a' w' (fun j hj=>hN j (List.mem_cons_of_mem _ hj)) hB.2 h'⟩) hw
def Zq690 (S:Bool→World→Prop) (N:Bool→Nat→Bool) (i:Nat) (w:World):Prop:=∀ s,N s i=true→S s w
def wpTr2 (P:Program) (l:List Oper) (S:Bool→World→Prop) (N:Bool→Nat→Bool) (Q:Exit→Act→World→Prop) (T:Act→World→Prop):Tr→Act→World→Prop
 | .leaf,a,w=>T a w
 | .one i t,a,w=>wpList P l.toArray (Zq88 (Zq690 S N i) Q (wpTr2 P l S N Q T t)) (pickL l [i]) a w
 | .two i t j u,a,w=>wpList P l.toArray (Zq88 (Zq690 S N i) Q (wpTr2 P l S N Q T t)) (pickL l [i]) a w∧wpList P l.toArray (Zq88 (Zq690 S N j) Q (wpTr2 P l S N Q T u)) (pickL l [j]) a w
theorem Zq256 {l:List Oper} {tail:List Nat}:∀ (t:Tr) (listed:Array Bool) (a:Act) (w:World),(∀ k ∈ tail,∀ s,N s k=false)→trB md l tail t listed=true →
  wpTr2 P l S N Q (wpList P l.toArray Q (pickL l tail)) t a w→Zq359 P md l.toArray Q S N (t.size+tail.length) listed a w
 | .leaf,listed,a,w,hN,hB,h=>by
  rw [Tr.size,Nat.zero_add]
  exact Zq311 tail listed a w hN hB h
 | .one k t,listed,a,w,hN,hB,h=>by
  simp only [trB,Bool.and_eq_true,decide_eq_true_eq] at hB
  rw [Tr.size,show t.size+1+tail.length=(t.size+tail.length)+1 by omega]
  refine ⟨fun h1=>(by rw [hB.1] at h1;cases h1),fun i hi=>?_⟩
  have hi':=hi
  rw [hB.1] at hi'
  obtain rfl:i=k:=by simpa using hi'
  obtain ⟨o,ho⟩:=Zq73 hi
  have ho':l[i]?=some o:=by simpa using ho
  have e:pickL l [i]=[o]:=by simp [pickL,ho']
  unfold wpTr2 at h
  rw [e] at h
  exact wpOp_mono (fun a' w' h'=>⟨fun s hn _=>h'.1 s hn,Zq256 t _ a' w' hN hB.2 h'.2⟩) (Zq59 ho h)
 | .two k t k2 u,listed,a,w,hN,hB,h=>by
  simp only [trB,Bool.and_eq_true,decide_eq_true_eq] at hB
  obtain ⟨⟨hr,hsz⟩,hB1,hB2⟩:=hB
  rw [Tr.size,show t.size+1+tail.length=(t.size+tail.length)+1 by omega]
  refine ⟨fun h1=>(by rw [hr] at h1;cases h1),fun i hi=>?_⟩
  have hi':=hi
  rw [hr] at hi'
  obtain ⟨o,ho⟩:=Zq73 hi
  have ho':l[i]?=some o:=by simpa using ho
  have e:pickL l [i]=[o]:=by simp [pickL,ho']
  unfold wpTr2 at h
  rcases (by simpa using hi':i=k∨i=k2) with rfl|rfl
  ·have h1:=h.1
   rw [e] at h1
   exact wpOp_mono (fun a' w' h'=>⟨fun s hn _=>h'.1 s hn,Zq256 t _ a' w' hN hB1 h'.2⟩) (Zq59 ho h1)
  ·have h1:=h.2
   rw [e] at h1
   rw [hsz]
   exact wpOp_mono (fun a' w' h'=>⟨fun s hn _=>h'.1 s hn,Zq256 u _ a' w' hN hB2 h'.2⟩) (Zq59 ho h1)
def Zq247 (early1 early2 hold1 hold2:List Nat) (s:Bool) (i:Nat):Bool:=early1.contains i||early2.contains i||hold1.contains i||(s&&hold2.contains i)
def S12 (S1 S2:World→Prop) (s:Bool):World→Prop:=if s then S2 else S1
def Zq887 (md:Region.Mode) (l:List Oper) (early1 early2 hold1 hold2:List Nat) (t:Tr) (tail:List Nat):Bool :=
 Region.noSelect l.toArray&&Zq97 md l.toArray early1 (Array.replicate l.length false)&&Zq97 md l.toArray early2 (Zq27 early1 (Array.replicate l.length false))&&trB md l tail t (Zq27 early2 (Zq27 early1 (Array.replicate l.length false))) &&
  ((List.range l.length).all fun t=>Zq247 early1 early2 hold1 hold2 false t||early1.all fun k=>reaches md l.toArray k l.length t) &&
  ((List.range l.length).all fun t=>Zq247 early1 early2 hold1 hold2 true t||early2.all fun k=>reaches md l.toArray k l.length t) &&
  decide (early1.length+(early2.length+(t.size+tail.length))=l.length)&&tail.all (fun t=>!(Zq247 early1 early2 hold1 hold2 true t))
theorem Zq284 {id:Nat} {Q:Exit→Act→World→Prop} {a:Act} {l:List Oper} (S1 S2:World→Prop) (early1 early2 hold1 hold2:List Nat) (t:Tr) (tail:List Nat) (hm:P.follows .mixedOrders=true) (hB:Zq887 .any l early1 early2 hold1 hold2 t tail=true) (hS:S1 w.drew∧S2 w.drew)
  (h:Zq163 P l.toArray S1 (fun a0=>Zq163 P l.toArray S2 (fun a1=>wpTr2 P l (S12 S1 S2) (Zq247 early1 early2 hold1 hold2) (NoPanic Q) (wpList P l.toArray (NoPanic Q) (pickL l tail)) t a1 w.drew) (pickL l early2) a0) (pickL l early1) a):(Code.region id l.toArray true).wp P Q a w:=by
 refine wp_region_noPanic ?_
 simp only [Zq887,Bool.and_eq_true,decide_eq_true_eq] at hB
 obtain ⟨⟨⟨⟨⟨⟨⟨hsel,he1⟩,he2⟩,ht⟩,hg1⟩,hg2⟩,hn⟩,htl⟩:=hB
 refine wp_region_any hm (Zq417 (S:=S12 S1 S2) (N:=Zq247 early1 early2 hold1 hold2) _ _ _ _ ?_)
 change Zq359 P .any l.toArray _ _ _ l.toArray.size _ a w.drew
 have hsz:l.toArray.size=early1.length+(early2.length+(t.size+tail.length)):=by rw [hn];simp
 have hrep:Array.replicate l.toArray.size false=Array.replicate l.length false:=by simp
 have hgo:∀ (s:Bool) (E:List Nat),((List.range l.length).all fun t=>Zq247 early1 early2 hold1 hold2 s t||E.all fun k=>reaches .any l.toArray k l.length t)=true→∀ k ∈ E,∀ listed,ShutDown .any l.toArray listed→listed.getD k true=false→∀ j ∈ Region.ready .any l.toArray listed,Zq247 early1 early2 hold1 hold2 s j=true:=by
  intro s E hg k hk listed hsd hun j hj
  simp only [List.all_eq_true,List.mem_range] at hg
  obtain ⟨_,o,ho,hall⟩:=mem_ready.1 hj
  have h2:=hg j (by simpa using (Array.getElem?_eq_some_iff.1 ho).1)
  rw [Bool.or_eq_true] at h2
  rcases h2 with h2|h2
  ·exact h2
  ·have h3:=List.all_eq_true.1 h2 k hk
   have h4:=Zq58 hsd _ j (fun o' ho' e he' hb=>by rw [ho] at ho';cases ho';exact hall e he' hb) h3
   rw [Zq34 hun] at h4;cases h4
 rw [hrep,hsz]
 refine Zq189 (s:=false) hsel (fun _ _ _ _ _ h=>h) hS.1 early1 _ a (hgo false early1 hg1) (ShutDown.start _) he1 (fun a0 hs0 h0=>?_) h
 refine Zq189 (s:=true) hsel (fun _ _ _ _ _ h=>h) hS.2 early2 _ a0 (hgo true early2 hg2) hs0 he2 (fun a1 _ h1=>?_) h0
 exact Zq256 t _ a1 _ (fun k hk s=>by
   have h9:=List.all_eq_true.1 htl k hk
   have h10:Zq247 early1 early2 hold1 hold2 true k=false:=by simpa using h9
   cases s with
   | true=>exact h10
   | false =>
    unfold Zq247 at h10 ⊢
    simp only [Bool.true_and,Bool.false_and,Bool.or_false] at h10 ⊢
    rw [Bool.or_eq_false_iff] at h10
    exact h10.1) ht h1
theorem Zq80 {S1 S2:World→Prop} {e1 e2 h1 h2:List Nat} {i:Nat} (a:S1 w) (b:S2 w):Zq690 (S12 S1 S2) (Zq247 e1 e2 h1 h2) i w:=fun s _=>by cases s <;> assumption
theorem Zq63 {S1 S2:World→Prop} {e1 e2 h1 h2:List Nat} {i:Nat} (h:Zq247 e1 e2 h1 h2 false i=false) (b:S2 w):Zq690 (S12 S1 S2) (Zq247 e1 e2 h1 h2) i w:=fun s hs=>by
 cases s with
 | true=>exact b
 | false=>rw [h] at hs;cases hs
end
end Go.Proofs.YtpjchngjhijgmaaGreat
