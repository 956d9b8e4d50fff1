/- A region that draws its order, with a plain part between two forced ones. No program in sight. -/
import Derived.Test.YtnokhjhhadnckaaRegion
set_option linter.unusedSimpArgs false
set_option linter.unusedVariables false
set_option linter.unusedSectionVars false
namespace Go.Proofs.Ytnokhjhhadnckaa
open Go.RowKit
section
variable {P : Program} {ops : Array Oper} {md : Region.Mode} {w : World}
variable {Q : Exit → Act → World → Prop} {S : World → Prop} {N : Nat → Bool}
theorem wpAnyX_of_any : ∀ (f : Nat) (listed : Array Bool) (a : Act) (w : World), (∀ j, N j = true → listed.getD j false = true) → wpAny P md ops Q f listed a w → wpAnyX P md ops Q S N f listed a w
  | 0, _, _, _, _, h => h
  | f + 1, listed, a, w, hN, h => ⟨h.1, fun i hi => wpOp_mono (fun a' w' h' => ⟨fun hn => (by
      have h1 := hN i hn
      rw [unlisted_both (mem_ready.1 hi).1] at h1
      cases h1), wpAnyX_of_any f _ a' w' (fun j hj => getD_set_true (hN j hj)) h'⟩) (h.2 i hi)⟩
def forcedB (md : Region.Mode) (ops : Array Oper) : List Nat → Array Bool → Bool
  | [], _ => true
  | k :: l, listed => decide (Region.ready md ops listed = [k]) && forcedB md ops l (listed.setIfInBounds k true)
theorem wpAnyX_forced {l : List Oper} {g : Nat} {K : Act → World → Prop} : ∀ (ks : List Nat) (listed : Array Bool) (a : Act) (w : World), forcedB md l.toArray ks listed = true → (∀ a' w', K a' w' → wpAnyX P md l.toArray Q S N g (listAll ks listed) a' w') →
    wpHold P l.toArray S Q K (pickL l ks) a w → wpAnyX P md l.toArray Q S N (ks.length + g) listed a w
  | [], listed, a, w, _, hK, h => by rw [List.length_nil, Nat.zero_add]; exact hK a w h
  | k :: ks, listed, a, w, hB, hK, h => by
    simp only [forcedB, Bool.and_eq_true, decide_eq_true_eq] at hB
    rw [List.length_cons, show ks.length + 1 + g = (ks.length + g) + 1 by omega]
    refine ⟨fun h1 => (by rw [hB.1] at h1; cases h1), fun i hi => ?_⟩
    have hi' := hi
    rw [hB.1] at hi'
    obtain rfl : i = k := by simpa using hi'
    obtain ⟨o, ho⟩ := ready_lt hi
    have ho' : l[i]? = some o := by simpa using ho
    have e : pickL l (i :: ks) = o :: pickL l ks := by simp [pickL, ho']
    rw [e] at h
    exact wpOp_mono (fun a' w' h' => ⟨fun _ => h'.1, wpAnyX_forced ks _ a' w' hB.2 hK h'.2⟩) (wpOp_of_hold ho h)
theorem wpAny_forced {l : List Oper} {g : Nat} {K : Act → World → Prop} : ∀ (ks : List Nat) (listed : Array Bool) (a : Act) (w : World), forcedB md l.toArray ks listed = true → (∀ a' w', K a' w' → wpAny P md l.toArray Q g (listAll ks listed) a' w') →
    wpHold P l.toArray (fun _ => True) Q K (pickL l ks) a w → wpAny P md l.toArray Q (ks.length + g) listed a w
  | [], listed, a, w, _, hK, h => by rw [List.length_nil, Nat.zero_add]; exact hK a w h
  | k :: ks, listed, a, w, hB, hK, h => by
    simp only [forcedB, Bool.and_eq_true, decide_eq_true_eq] at hB
    rw [List.length_cons, show ks.length + 1 + g = (ks.length + g) + 1 by omega]
    refine ⟨fun h1 => (by rw [hB.1] at h1; cases h1), fun i hi => ?_⟩
    have hi' := hi
    rw [hB.1] at hi'
    obtain rfl : i = k := by simpa using hi'
    obtain ⟨o, ho⟩ := ready_lt hi
    have ho' : l[i]? = some o := by simpa using ho
    have e : pickL l (i :: ks) = o :: pickL l ks := by simp [pickL, ho']
    rw [e] at h
    exact wpOp_mono (fun a' w' h' => wpAny_forced ks _ a' w' hB.2 hK h'.2) (wpOp_of_hold ho h)
def mixB (md : Region.Mode) (l : List Oper) (early hold one mid tail : List Nat) : Bool :=
  Region.noSelect l.toArray && earlyB md l.toArray early (Array.replicate l.length false) && forcedB md l.toArray hold (listAll early (Array.replicate l.length false)) &&
    forcedB md l.toArray one (listAll hold (listAll early (Array.replicate l.length false))) &&
    earlyB md l.toArray mid (listAll one (listAll hold (listAll early (Array.replicate l.length false)))) &&
    tailB md l.toArray tail (listAll mid (listAll one (listAll hold (listAll early (Array.replicate l.length false))))) &&
    ((List.range l.length).all fun t => (early.contains t || hold.contains t) || early.all fun k => reaches md l.toArray k l.length t) &&
    decide (early.length + (hold.length + (one.length + (mid.length + tail.length))) = l.length) &&
    (early ++ hold).all fun t => (listAll hold (listAll early (Array.replicate l.length false))).getD t false
theorem wp_region_mix {id : Nat} {a : Act} {l : List Oper} (S : World → Prop) (early hold one mid tail : List Nat) (hm : P.follows .mixedOrders = true) (hB : mixB .any l early hold one mid tail = true) (hS : S w.drew)
    (h : wpFirst P l.toArray S (fun a1 => wpHold P l.toArray S (NoPanic Q) (fun a2 w2 => wpHold P l.toArray (fun _ => True) (NoPanic Q) (fun a3 w3 =>
      wpPlain P l.toArray (fun a4 => wpList P l.toArray (NoPanic Q) (pickL l tail) a4 w3) (pickL l mid) a3) (pickL l one) a2 w2) (pickL l hold) a1 w.drew) (pickL l early) a) : (Code.region id l.toArray true).wp P Q a w := by
  refine wp_region_noPanic ?_
  simp only [mixB, Bool.and_eq_true, decide_eq_true_eq] at hB
  obtain ⟨⟨⟨⟨⟨⟨⟨⟨hsel, he⟩, hh⟩, h1⟩, hmid⟩, ht⟩, hg⟩, hn⟩, hl⟩ := hB
  refine wp_region_any hm (wpAny_of_X (S := S) (N := fun t => early.contains t || hold.contains t) _ _ _ _ ?_)
  change wpAnyX P .any l.toArray _ _ _ l.toArray.size _ a w.drew
  have hsz : l.toArray.size = early.length + (hold.length + (one.length + (mid.length + tail.length))) := by rw [hn]; simp
  have hrep : Array.replicate l.toArray.size false = Array.replicate l.length false := by simp
  rw [hrep, hsz]
  refine wpAnyX_early hsel (fun _ _ _ _ _ h => h) hS early _ a (fun k hk listed hsd hun j hj => ?_) (ShutDown.start _) he (fun a1 h1' => ?_) h
  · simp only [List.all_eq_true, List.mem_range] at hg
    obtain ⟨_, o, ho, hall⟩ := mem_ready.1 hj
    have h2 := hg j (by simpa using (Array.getElem?_eq_some_iff.1 ho).1)
    rw [Bool.or_eq_true] at h2
    rcases h2 with h2 | h2
    · exact h2
    · have h3 := List.all_eq_true.1 h2 k hk
      have h4 := reaches_listed hsd _ j (fun o' ho' e he' hb => by rw [ho] at ho'; cases ho'; exact hall e he' hb) h3
      rw [unlisted_both hun] at h4; cases h4
  · refine wpAnyX_forced hold _ a1 _ hh (fun a2 w2 h2 => ?_) h1'
    refine wpAnyX_of_any _ _ a2 w2 (fun j hj => ?_) ?_
    · have := List.all_eq_true.1 hl j (by simpa using hj)
      exact this
    refine wpAny_forced one _ a2 w2 h1 (fun a3 w3 h3 => ?_) h2
    exact wpAny_early hsel (fun _ _ _ _ _ h => h) mid _ a3 hmid (fun a4 h4 => wpAny_tail tail _ a4 w3 ht h4) h3
end
end Go.Proofs.Ytnokhjhhadnckaa
