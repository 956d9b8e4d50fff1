/- CowPlays: any row of acts, of any numbers: what each answers, and what is seen behind it. No program in sight. -/
import Derived.Test.YtbepmbcbcklmlaaGreatCowSim
import Derived.Test.YtbepmbcbcklmlaaGreatMay17
set_option linter.unusedSimpArgs false
set_option linter.unusedVariables false
set_option linter.unusedSectionVars false
namespace Go.Proofs.YtbepmbcbcklmlaaGreat
open Go.RowKit
theorem bad_obj {img num : Int} (h : ¬ (0 ≤ img ∧ img ≤ 255)) : objB img num = false := by
  unfold objB
  rw [decide_eq_false_iff_not]
  omega
theorem cmay_bad {S : Str} (h : S.on = true) : cmayS S false = 1 := by unfold cmayS; rw [h]; rfl
theorem ok_parts {img : Int} {a : A17} (hi : 0 ≤ img ∧ img ≤ 255) : (objB img a.num && snapB a.newest) = okA a := by
  unfold objB snapB okA
  rw [Bool.eq_iff_iff]
  simp only [Bool.and_eq_true, decide_eq_true_eq]
  omega
theorem ours_bad {S : Str} (hon : S.on = true) {img : Int} {a : A17} (hw : 0 ≤ a.what ∧ a.what ≤ 5) (hb : ¬ (0 ≤ img ∧ img ≤ 255) ∨ mayA a = false) : oursS S img a = (1, S) := by
  have key : ∀ (fine : Bool) (r : Int × Str), fine = false → (if cmayS S fine ≠ 0 then (cmayS S fine, S) else r) = (1, S) := fun fine r hf => by
    rw [hf, cmay_bad hon, if_pos (by decide)]
  have hf : ∀ x : Bool, ((0 ≤ img ∧ img ≤ 255) → (okA a && x) = false) → (objB img a.num && snapB a.newest && x) = false := fun x hx => by
    by_cases hi : 0 ≤ img ∧ img ≤ 255
    · rw [ok_parts hi]; exact hx hi
    · rw [bad_obj hi]; rfl
  have hm : (0 ≤ img ∧ img ≤ 255) → a.what ≠ 5 ∧ restA a (okA a) = false := fun hi => by
    have := hb.resolve_left (fun q => q hi)
    unfold mayA at this
    split at this
    · cases this
    · rename_i h5; exact ⟨h5, this⟩
  unfold oursS
  split
  · rename_i e
    unfold cwriteS
    exact key _ _ (hf _ fun hi => by have := (hm hi).2; unfold restA at this; rwa [if_pos e] at this)
  split
  · rename_i e0 e
    unfold cclearS
    exact key _ _ (hf _ fun hi => by have := (hm hi).2; unfold restA at this; rwa [if_neg e0, if_pos e] at this)
  split
  · rename_i e0 e1 e
    unfold ccutS
    exact key _ _ (hf _ fun hi => by have := (hm hi).2; unfold restA at this; rwa [if_neg e0, if_neg e1, if_pos e] at this)
  split
  · rename_i e0 e1 e2 e
    unfold claySn
    refine key _ _ (hf _ fun hi => ?_)
    have := (hm hi).2
    unfold restA at this
    rw [if_neg e0, if_neg e1, if_neg e2, if_pos e] at this
    rw [← this]
    congr 1
    unfold withinB
    rw [Bool.eq_iff_iff]
    simp only [decide_eq_true_eq]
    omega
  split
  · rename_i e0 e1 e2 e3 e
    unfold cbackS
    refine key _ _ (hf _ fun hi => ?_)
    have := (hm hi).2
    unfold restA at this
    rw [if_neg e0, if_neg e1, if_neg e2, if_neg e3, if_pos e] at this
    rw [← this]
    congr 1
    unfold snapB
    rw [Bool.eq_iff_iff]
    simp only [decide_eq_true_eq, Bool.and_eq_true]
  split
  · rename_i e0 e1 e2 e3 e4 e
    unfold tidyS
    have hi : ¬ (0 ≤ img ∧ img ≤ 255) := fun hi => (hm hi).1 e
    exact key _ _ (bad_obj hi)
  · omega
def keysA (a : A17) : List K4 := if mayA a = true ∧ 0 ≤ a.what ∧ a.what ≤ 4 then [dK 0 a.num 0, dK 0 a.num a.newest] else []
def univ (al : List A17) : List K4 := al.flatMap keysA
theorem may_parts {a : A17} (h : mayA a = true) (hw : 0 ≤ a.what ∧ a.what ≤ 4) : okA a = true ∧ restA a (okA a) = true := by
  unfold mayA at h
  rw [if_neg (by omega)] at h
  refine ⟨?_, h⟩
  unfold restA at h
  split at h
  · exact (Bool.and_eq_true _ _ ▸ h).1
  split at h
  · exact (Bool.and_eq_true _ _ ▸ h).1
  split at h
  · exact (Bool.and_eq_true _ _ ▸ h).1
  split at h
  · exact (Bool.and_eq_true _ _ ▸ h).1
  split at h
  · exact (Bool.and_eq_true _ _ ▸ h).1
  · omega
theorem ok_rng {a : A17} (h : okA a = true) : (0 ≤ a.num ∧ a.num ≤ 512) ∧ 0 ≤ a.newest ∧ a.newest ≤ 1073741824 := by
  unfold okA at h
  simp only [Bool.and_eq_true, decide_eq_true_eq] at h
  omega
theorem univ_len : ∀ l : List A17, (univ l).length ≤ 2 * l.length := fun l => by
  induction l with
  | nil => simp [univ]
  | cons a l ih =>
    have : (keysA a).length ≤ 2 := by unfold keysA; split <;> simp
    rw [univ, List.flatMap_cons, List.length_append, List.length_cons]
    unfold univ at ih
    omega
theorem univ_ok {al : List A17} (h : al.length ≤ 40) : UOK (univ al) := by
  refine ⟨fun k hk => ?_, ?_⟩
  · obtain ⟨a, _, hk⟩ := List.mem_flatMap.1 hk
    unfold keysA at hk
    split at hk
    · rename_i hc
      have hr := ok_rng (may_parts hc.1 hc.2).1
      simp only [List.mem_cons, List.mem_nil_iff, or_false] at hk
      rcases hk with rfl | rfl
      · refine ⟨rfl, ?_⟩
        unfold dK K4.ok
        simp only [decide_eq_true_eq]
        omega
      · refine ⟨rfl, ?_⟩
        unfold dK K4.ok
        simp only [decide_eq_true_eq]
        omega
    · cases hk
  · have := univ_len al
    omega
theorem may_fine {al : List A17} {a : A17} (ha : a ∈ al) (h : mayA a = true) (hw : 0 ≤ a.what ∧ a.what ≤ 4) : Fine (univ al) 0 a := by
  obtain ⟨h1, h2⟩ := may_parts h hw
  have hr := ok_rng h1
  have hk : ∀ k ∈ keysA a, k ∈ univ al := fun k hk => List.mem_flatMap.2 ⟨a, ha, hk⟩
  have hka : keysA a = [dK 0 a.num 0, dK 0 a.num a.newest] := if_pos ⟨h, hw⟩
  rw [hka] at hk
  rw [h1] at h2
  unfold restA at h2
  refine ⟨?_, ?_, fun e => ?_, ⟨fun e => ?_, fun e => ?_, fun e => ?_, fun e => ?_⟩, hk _ (by simp), fun _ => hk _ (by simp)⟩
  · unfold objB; rw [decide_eq_true_eq]; omega
  · unfold snapB; rw [decide_eq_true_eq]; omega
  · rw [if_neg (by omega), if_neg (by omega), if_neg (by omega), if_neg (by omega), if_pos e, Bool.true_and] at h2
    simp only [Bool.and_eq_true, decide_eq_true_eq] at h2
    unfold snapB; rw [decide_eq_true_eq]; exact h2
  · rw [if_pos e, Bool.true_and] at h2; exact h2
  · rw [if_neg (by omega), if_pos e, Bool.true_and] at h2; exact h2
  · rw [if_neg (by omega), if_neg (by omega), if_pos e, Bool.true_and] at h2; exact h2
  · rw [if_neg (by omega), if_neg (by omega), if_neg (by omega), if_pos e, Bool.true_and, decide_eq_true_eq] at h2
    unfold withinB; rw [decide_eq_true_eq]; omega
/-- One act. -/
theorem play_step {al : List A17} {S : Str} {R : List RO} (hl : al.length ≤ 40) (h : Live (univ al) S) (hc : S.armed = false) (hs : Sim S R) {a : A17} (ha : a ∈ al) :
    (oursS S 0 a).1 = (if mayA a = true then 0 else 1) ∧ Live (univ al) (oursS S 0 a).2 ∧ (oursS S 0 a).2.armed = false ∧ Sim (oursS S 0 a).2 (if mayA a = true then theirR R a else R) := by
  cases hm : mayA a with
  | false =>
    rw [if_neg (by simp), if_neg (by simp)]
    have hw : 0 ≤ a.what ∧ a.what ≤ 5 := by
      unfold mayA restA at hm
      split at hm
      · cases hm
      · split at hm
        · omega
        split at hm
        · omega
        split at hm
        · omega
        split at hm
        · omega
        split at hm
        · omega
        · cases hm
    rw [ours_bad h.on hw (.inr hm)]
    exact ⟨rfl, h, hc, hs⟩
  | true =>
    rw [if_pos rfl, if_pos rfl]
    by_cases hi : a.what < 0 ∨ 5 < a.what
    · rw [ours_idle hi, their_idle hi]
      exact ⟨rfl, h, hc, hs⟩
    · have hf : a.what = 5 ∨ Fine (univ al) 0 a := by
        by_cases e5 : a.what = 5
        · exact .inl e5
        · exact .inr (may_fine ha hm (by omega))
      obtain ⟨h1, h2, h3, _⟩ := calm_done (univ_ok hl) h hc hf
      exact ⟨h1, h2, h3, hs.step (univ_ok hl) h hc hf⟩
theorem univ_keys {al : List A17} {S : Str} (hl : al.length ≤ 40) (h : Live (univ al) S) : (keysTold S ⟨4, 0⟩).length ≤ 80 := by
  unfold keysTold
  rw [if_pos h.on]
  have hn : (keysAt S ⟨4, 0⟩).Nodup := List.Pairwise.imp (fun {a b} hab e => by subst e; rw [lt_irrefl'] at hab; cases hab) (h.inv.keys.rise ⟨4, 0⟩)
  have := nodup_sub hn fun k hk => by
    obtain ⟨t, ht⟩ := Option.isSome_iff_exists.1 (grp_key h.inv.keys hk).2
    exact h.inv.getU ht
  have := univ_len al
  omega
theorem live_new (al : List A17) : Live (univ al) (newS 1048576) := ⟨CInv.new.wider (fun k hk => by cases hk), rfl⟩
end Go.Proofs.YtbepmbcbcklmlaaGreat
