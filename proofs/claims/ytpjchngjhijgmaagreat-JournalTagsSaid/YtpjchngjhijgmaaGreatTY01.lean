import Derived.Test.YtpjchngjhijgmaaGreatTY00
set_option linter.all false
namespace Go.Proofs.YtpjchngjhijgmaaGreat
open Go.RowKit
theorem okUpto_append (l r:List Tag):∀ k,k≤l.length→Zq123 (l++r) k=Zq123 l k
 | 0,_=>rfl
 | k+1,h=>by
  rw [Zq123,Zq123,okUpto_append l r k (by omega),List.getElem?_append_left (by omega),List.take_append_of_le_length (by omega)]
theorem okUpto_snoc (l:List Tag) (t:Tag):Zq123 (l++[t]) (l++[t]).length=(Zq123 l l.length&&tagOk t l):=by
 rw [List.length_append,List.length_singleton,Zq123,okUpto_append l [t] _ (Nat.le_refl _)]
 simp
theorem le_maxIds:∀ (l:List Tag) (n:Int),n≤l.foldl (fun n t=>max n t.id) n∧∀ x ∈ l,x.id≤l.foldl (fun n t=>max n t.id) n
 | [],n=>⟨Int.le_refl _,fun _ h=>by cases h⟩
 | a::l,n=>by
  obtain ⟨h1,h2⟩:=le_maxIds l (max n a.id)
  simp only [List.foldl_cons]
  refine ⟨by omega,fun x hx=>?_⟩
  rcases List.mem_cons.1 hx with rfl|hx
  ·omega
  ·exact h2 x hx
theorem maxIds_nonneg (l:List Tag):0≤Zq925 l:=(le_maxIds l 0).1
theorem noDup_of_gt {l:List Tag} {t:Tag} (h:Zq925 l<t.id):noDup t l=true:=by
 rw [noDup,List.all_eq_true]
 intro x hx
 have:=(le_maxIds l 0).2 x hx
 rw [bne_iff_ne]
 unfold Zq925 at h
 omega
theorem nextId_bounds {l:List Tag} (h:Zq926 l=false) (s:Int):Zq925 l<nextId l s∧nextId l s≤Zq925 l+2∧(nextId l s % 2=1↔s=1):=by
 rw [nextId,h]
 simp only [Bool.false_eq_true,if_false,Zq907]
 have h0:=maxIds_nonneg l
 by_cases h1:(Zq925 l+1) % 2=1 <;> by_cases h2:s=1 <;> simp [h1,h2] <;> omega
structure Good (ts:List Tag) (at_:Int):Prop where
 ok:Zq123 ts ts.length=true
 one:1≤ts.length
 at0:0≤at_
 at1:at_≤1000000
 last:Zq468 ts≤at_
 high:Zq926 ts=false
 ids:Zq925 ts≤2*ts.length
theorem Good.start:Good [⟨1,1,0,0⟩] 0:=⟨by decide +kernel,Nat.le_refl _,by omega,by omega,by decide +kernel,by decide +kernel,by decide +kernel⟩
theorem Good.later {ts:List Tag} {a b:Int} (h:Good ts a) (hab:a≤b) (hb:b≤1000000):Good ts b :=
 ⟨h.ok,h.one,by have:=h.at0;omega,hb,by have:=h.last;omega,h.high,h.ids⟩
theorem Good.more {ts:List Tag} {a:Int} (h:Good ts a) (hl:ts.length≤1000) {s own heir:Int} (ho:(own=0∧1≤heir∧heir≤2)∨(1≤own∧own≤2∧heir=0)) :
  Good (ts++[⟨nextId ts s,own,heir,a⟩]) a:=by
 obtain ⟨h1,h2,_⟩:=nextId_bounds h.high s
 have hi:=h.ids
 have h0:=maxIds_nonneg ts
 have hone:=h.one
 refine ⟨?_,by simp,h.at0,h.at1,by rw [Zq321];exact Int.le_refl _,?_,?_⟩
 ·rw [okUpto_snoc,h.ok,Bool.true_and,tagOk,noDup_of_gt (t:=⟨nextId ts s,own,heir,a⟩) h1,Bool.true_and,decide_eq_true]
  have:=h.last;have:=h.at1
  unfold Zq122
  show ¬ (ts.length=0∧a≠0)∧¬ a<Zq468 ts∧a≤1099511627776∧1≤nextId ts s∧nextId ts s≤1073741824∧0≤own∧own≤2∧(0<own→heir=0)∧(¬ 0<own→1≤heir∧heir≤2)
  omega
 ·rw [highId_snoc,h.high,Bool.false_or,decide_eq_false]
  show ¬ 1073741824<nextId ts s
  omega
 ·rw [maxIds_snoc,List.length_append,List.length_singleton]
  show max (Zq925 ts) (nextId ts s)≤_
  omega
theorem Good.right {ts:List Tag} {a:Int} (h:Good ts a) (hl:ts.length≤32):Zq70 ts=true:=by
 rw [Zq70,h.ok,Bool.and_true,decide_eq_true ⟨h.one,hl⟩]
def grownT (ts:List Tag) (e n m:Int):List Tag:=ts++[⟨nextId ts (1+m % 2),1+m % 2,0,max 0 (e - n % 2)⟩]
theorem grownT_len (ts:List Tag) (e n m:Int):(grownT ts e n m).length=ts.length+1:=by simp [grownT]
theorem Good.grown {ts:List Tag} {e:Int} (h:Good ts e) (hl:ts.length≤1000) (m:Int):Good (grownT ts e 0 m) e:=by
 have h0:=h.at0
 have e1:max 0 (e - 0 % 2)=e:=by omega
 unfold grownT
 rw [e1]
 exact h.more hl (.inr ⟨by omega,by omega,rfl⟩)
theorem tagOf_last:∀ {ts:List Tag} {s:Int},ts≠[]→Zq468 ts<s→tagOf ts s=(ts.getLast?.map Tag.id).getD 0:=by
 intro ts s hne hl
 obtain ⟨l,t,rfl⟩:∃ l t,ts=l++[t]:=⟨ts.dropLast,ts.getLast hne,(List.dropLast_concat_getLast hne).symm⟩
 rw [Zq429]
 rw [Zq321] at hl
 rw [if_pos hl]
 simp
end Go.Proofs.YtpjchngjhijgmaaGreat
