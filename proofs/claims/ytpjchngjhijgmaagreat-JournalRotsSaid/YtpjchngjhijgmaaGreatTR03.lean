import Derived.Test.YtpjchngjhijgmaaGreatTR02
set_option linter.all false
namespace Go.Proofs.YtpjchngjhijgmaaGreat
open Go.RowKit
inductive Tp where
 | leaf:Tp
 | one:Nat→Tp→Tp
 | two:Nat→Tp→Nat→Tp→Tp
 | pull:List Nat→Tp→Tp
def Tp.size:Tp→Nat
 | .leaf=>0
 | .one _ t=>t.size+1
 | .two _ t _ _=>t.size+1
 | .pull ks t=>ks.length+t.size
section
variable {P : Program} {md : Region.Mode} {w : World}
variable {Q : Exit → Act → World → Prop} {S : World → Prop} {N : Nat → Bool}
def wpTp (P:Program) (l:List Oper) (S:World→Prop) (Q:Exit→Act→World→Prop) (T:Act→World→Prop):Tp→Act→World→Prop
 | .leaf,a,w=>T a w
 | .one i t,a,w=>wpList P l.toArray (Zq116 S Q (wpTp P l S Q T t)) (pickL l [i]) a w
 | .two i t j u,a,w=>wpList P l.toArray (Zq116 S Q (wpTp P l S Q T t)) (pickL l [i]) a w∧wpList P l.toArray (Zq116 S Q (wpTp P l S Q T u)) (pickL l [j]) a w
 | .pull ks t,a,w=>Zq166 P l.toArray S (fun a1=>wpTp P l S Q T t a1 w) (pickL l ks) a
def directB (md:Region.Mode) (l:List Oper) (k t:Nat):Bool:=match l[t]? with
 | some o=>o.after.any fun e=>Region.binds md e&&e.on==k
 | none=>false
def pullB (md:Region.Mode) (l:List Oper) (N:Nat→Bool) (ks:List Nat):Bool:=(List.range l.length).all fun t=>N t||ks.all fun k=>directB md l k t||reaches md l.toArray k l.length t
def tpB (md:Region.Mode) (l:List Oper) (N:Nat→Bool) (tail:List Nat):Tp→Array Bool→Bool
 | .leaf,listed=>tailB md l.toArray tail listed
 | .one i t,listed=>decide (Region.ready md l.toArray listed=[i])&&tpB md l N tail t (listed.setIfInBounds i true)
 | .two i t j u,listed=>(decide (Region.ready md l.toArray listed=[i,j])&&decide (t.size=u.size))&&(tpB md l N tail t (listed.setIfInBounds i true)&&tpB md l N tail u (listed.setIfInBounds j true))
 | .pull ks t,listed=>(Zq92 md l.toArray ks listed&&pullB md l N ks)&&tpB md l N tail t (Zq27 ks listed)
theorem pull_spec {l:List Oper} {ks:List Nat} (h:pullB md l N ks=true):∀ k ∈ ks,∀ listed,ShutDown md l.toArray listed→listed.getD k true=false→∀ j ∈ Region.ready md l.toArray listed,N j=true:=by
 intro k hk listed hsd hun j hj
 simp only [pullB,List.all_eq_true,List.mem_range] at h
 obtain ⟨_,o,ho,hall⟩:=mem_ready.1 hj
 have h2:=h j (by simpa using (Array.getElem?_eq_some_iff.1 ho).1)
 rw [Bool.or_eq_true] at h2
 rcases h2 with h2|h2
 ·exact h2
 ·have h3:=List.all_eq_true.1 h2 k hk
  rw [Bool.or_eq_true] at h3
  have h4:listed.getD k false=true:=by
   rcases h3 with h3|h3
   ·unfold directB at h3
    rw [show l[j]?=some o by simpa using ho] at h3
    obtain ⟨e,he,hb⟩:=Array.any_eq_true'.1 h3
    rw [Bool.and_eq_true,beq_iff_eq] at hb
    rw [←hb.2]
    exact hall e he hb.1
   ·exact Zq65 hsd _ j (fun o' ho' e he' hb=>by rw [ho] at ho';cases ho';exact hall e he' hb) h3
  rw [Zq38 hun] at h4;cases h4
theorem wpAnyX_tp {l:List Oper} {tail:List Nat} (hsel:Region.noSelect l.toArray=true) (hQ:∀ c (a:Act) d v w,Q (.panic c) (a.put d v) w→Q (.panic c) a w):∀ (t:Tp) (listed:Array Bool) (a:Act) (w:World),(∀ k ∈ tail,N k=false)→ShutDown md l.toArray listed→S w→tpB md l N tail t listed=true →
  wpTp P l S Q (wpList P l.toArray Q (pickL l tail)) t a w→Zq213 P md l.toArray Q S N (t.size+tail.length) listed a w
 | .leaf,listed,a,w,hN,_,_,hB,h=>by
  rw [Tp.size,Nat.zero_add]
  exact Zq270 tail listed a w hN hB h
 | .one k t,listed,a,w,hN,hs,_,hB,h=>by
  simp only [tpB,Bool.and_eq_true,decide_eq_true_eq] at hB
  rw [Tp.size,show t.size+1+tail.length=(t.size+tail.length)+1 by omega]
  refine ⟨fun h1=>(by rw [hB.1] at h1;cases h1),fun i hi=>?_⟩
  have hi':=hi
  rw [hB.1] at hi'
  obtain rfl:i=k:=by simpa using hi'
  obtain ⟨o,ho⟩:=Zq91 hi
  have ho':l[i]?=some o:=by simpa using ho
  have e:pickL l [i]=[o]:=by simp [pickL,ho']
  unfold wpTp at h
  rw [e] at h
  exact wpOp_mono (fun a' w' h'=>⟨fun _=>h'.1,wpAnyX_tp hsel hQ t _ a' w' hN (hs.next hi) h'.1 hB.2 h'.2⟩) (Zq87 ho h)
 | .two k t k2 u,listed,a,w,hN,hs,_,hB,h=>by
  simp only [tpB,Bool.and_eq_true,decide_eq_true_eq] at hB
  obtain ⟨⟨hr,hsz⟩,hB1,hB2⟩:=hB
  rw [Tp.size,show t.size+1+tail.length=(t.size+tail.length)+1 by omega]
  refine ⟨fun h1=>(by rw [hr] at h1;cases h1),fun i hi=>?_⟩
  have hi':=hi
  rw [hr] at hi'
  obtain ⟨o,ho⟩:=Zq91 hi
  have ho':l[i]?=some o:=by simpa using ho
  have e:pickL l [i]=[o]:=by simp [pickL,ho']
  unfold wpTp at h
  rcases (by simpa using hi':i=k∨i=k2) with rfl|rfl
  ·have h1:=h.1
   rw [e] at h1
   exact wpOp_mono (fun a' w' h'=>⟨fun _=>h'.1,wpAnyX_tp hsel hQ t _ a' w' hN (hs.next hi) h'.1 hB1 h'.2⟩) (Zq87 ho h1)
  ·have h1:=h.2
   rw [e] at h1
   rw [hsz]
   exact wpOp_mono (fun a' w' h'=>⟨fun _=>h'.1,wpAnyX_tp hsel hQ u _ a' w' hN (hs.next hi) h'.1 hB2 h'.2⟩) (Zq87 ho h1)
 | .pull ks t,listed,a,w,hN,hs,hS,hB,h=>by
  simp only [tpB,Bool.and_eq_true] at hB
  obtain ⟨⟨he,hp⟩,hB⟩:=hB
  rw [Tp.size,Nat.add_assoc]
  exact Zq168 hsel hQ hS ks listed a (pull_spec hp) hs he (fun a1 h1=>wpAnyX_tp hsel hQ t _ a1 w hN (Zq240 ks _ he hs) hS hB h1) h
def treepB (md:Region.Mode) (l:List Oper) (hold:List Nat) (t:Tp) (tail:List Nat):Bool :=
 Region.noSelect l.toArray&&tpB md l (fun t=>hold.contains t) tail t (Array.replicate l.length false)&&decide (t.size+tail.length=l.length)&&tail.all (fun t=>!hold.contains t)
theorem wp_region_treep {id:Nat} {Q:Exit→Act→World→Prop} {a:Act} {l:List Oper} (S:World→Prop) (hold:List Nat) (t:Tp) (tail:List Nat) (hm:P.follows .mixedOrders=true) (hB:treepB .any l hold t tail=true) (hS:S w.drew)
  (h:wpTp P l S (NoPanic Q) (wpList P l.toArray (NoPanic Q) (pickL l tail)) t a w.drew):(Code.region id l.toArray true).wp P Q a w:=by
 refine wp_region_noPanic ?_
 simp only [treepB,Bool.and_eq_true,decide_eq_true_eq] at hB
 obtain ⟨⟨⟨hsel,ht⟩,hn⟩,htl⟩:=hB
 refine wp_region_any hm (Zq241 (S:=S) (N:=fun t=>hold.contains t) _ _ _ _ ?_)
 change Zq213 P .any l.toArray _ _ _ l.toArray.size _ a w.drew
 have hsz:l.toArray.size=t.size+tail.length:=by rw [hn];simp
 have hrep:Array.replicate l.toArray.size false=Array.replicate l.length false:=by simp
 rw [hrep,hsz]
 exact wpAnyX_tp hsel (fun _ _ _ _ _ h=>h) t _ a _ (fun k hk=>by
  have:=List.all_eq_true.1 htl k hk
  simpa using this) (ShutDown.start _) hS ht h
end
end Go.Proofs.YtpjchngjhijgmaaGreat
namespace Go.Proofs.YtpjchngjhijgmaaGreat
open Go.RowKit
section
variable {W w : World} {I : Hp} {l : List HP}
set_option maxRecDepth 4000
set_option maxHeartbeats 8000000
theorem lensOf_fine {ps:List (List Int)} (h:∀ p ∈ ps,(1≤p.length∧p.length≤90)∧∀ y ∈ p,isByte y):∀ n ∈ Zq126 ps,1≤n∧n≤90:=by
 intro n hn
 obtain ⟨q,hq,rfl⟩:=List.mem_map.1 hn
 have:=(h q hq).1
 omega
end
end Go.Proofs.YtpjchngjhijgmaaGreat
