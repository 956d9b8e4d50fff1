/- CowOld: from the first row of acts to the mark; an act behind the mark. No program in sight. -/
import Derived.Test.YtbepmbcbcklmlaaGreatCowStays
set_option linter.unusedSimpArgs false
set_option linter.unusedVariables false
set_option linter.unusedSectionVars false
namespace Go.Proofs.YtbepmbcbcklmlaaGreat
open Go.RowKit
/-- Deeds that leave nothing new from the mark on. -/
def stepLow (mark : Int) : DStep → Prop
  | .deed k d => d = goneD ∨ k.snap < mark
  | .bar => True
def LowV (mark : Int) (V : K4 → Option TS) : Prop := ∀ num n, mark ≤ n → V (dK 0 num n) = none
theorem viewExec_low {mark : Int} : ∀ {l : List DStep} {V : K4 → Option TS}, (∀ s ∈ l, stepLow mark s) → LowV mark V → LowV mark (viewExec l V)
  | [], _, _, h => h
  | s :: l, V, hs, h => by
    refine viewExec_low (l := l) (fun t ht => hs t (List.mem_cons_of_mem _ ht)) ?_
    have h2 := hs s (List.mem_cons_self ..)
    cases s with
    | deed k d =>
      intro num n hn
      show (if dK 0 num n = k then stepD (V k) d else V (dK 0 num n)) = none
      by_cases e : dK 0 num n = k
      · rw [if_pos e]
        rcases h2 with rfl | h2
        · rfl
        · subst e
          have : n < mark := h2
          omega
      · rw [if_neg e]
        exact h num n hn
    | bar => exact h
theorem ahead_low {mark num newest : Int} (h0 : newest < mark) (V : CV) (ks : List K4) : ∀ s ∈ aheadP V ks 0 num newest, stepLow mark s := by
  intro s hs
  unfold aheadP at hs
  split at hs
  · cases hs
  · cases s with
    | bar => trivial
    | deed k d =>
      right
      rw [save_key hs]
      exact h0
theorem head_low {mark num : Int} (h0 : 0 < mark) {l : List DStep} (hl : ∀ s ∈ l, ∃ d, s = .deed (dK 0 num 0) d) : ∀ s ∈ l, stepLow mark s := fun s hs => by
  obtain ⟨d, rfl⟩ := hl s hs
  exact .inr h0
theorem ours_low {mark : Int} (h0 : 0 < mark) {a : A17} (hn : a.newest < mark) {S : Str} (h : Live U17 S) : ∀ s ∈ oursP (cview S 0) (keysAt S ⟨4, 0⟩) 0 a, stepLow mark s := by
  have hah := ahead_low (num := a.num) hn (cview S 0) (keysAt S ⟨4, 0⟩)
  have both : ∀ l2 : List DStep, (∀ s ∈ l2, ∃ d, s = .deed (dK 0 a.num 0) d) → ∀ s ∈ aheadP (cview S 0) (keysAt S ⟨4, 0⟩) 0 a.num a.newest ++ l2, stepLow mark s := fun l2 hl s hs => by
    rcases List.mem_append.1 hs with q | q
    · exact hah s q
    · exact head_low h0 hl s q
  unfold oursP
  split
  · split
    · intro s hs; cases hs
    · refine both _ fun s hs => ?_
      unfold layP at hs
      split at hs
      · simp at hs; exact ⟨_, hs⟩
      · simp at hs
        rcases hs with q | q <;> exact ⟨_, q⟩
  split
  · split
    · intro s hs; cases hs
    · refine both _ fun s hs => ?_
      split at hs
      · cases hs
      · simp at hs; exact ⟨_, hs⟩
  split
  · split
    · intro s hs; cases hs
    · split
      · intro s hs; cases hs
      · refine both _ fun s hs => ?_
        simp at hs
        split at hs <;> exact ⟨_, hs⟩
  split
  · exact both _ turn_head
  split
  · exact both _ turn_head
  split
  · intro s hs
    have hgr : ∀ k ∈ keysAt S ⟨4, 0⟩, k = dK 0 k.num k.snap ∧ -1 ≤ k.num := fun k hk => by
      obtain ⟨q1, q2⟩ := grp_key h.inv.keys hk
      obtain ⟨t, ht⟩ := Option.isSome_iff_exists.1 q2
      exact ⟨q1, by have := (U17_rng (h.inv.getU ht)).1; omega⟩
    obtain ⟨k, _, rfl, _⟩ := (tidy_deeds (cview S 0) 0 a.ms (keysAt S ⟨4, 0⟩) (-1) 0 (h.inv.keys.rise _) hgr s).1 hs
    exact .inl rfl
  · intro s hs; cases hs
/-- An act of the first row. -/
theorem low_step {mark : Int} (h0 : 0 < mark) {S : Str} (h : Calm17 S) (hl : LowV mark (viewOf S)) {a : A17} (ha : a.what = 5 ∨ Fine U17 0 a) (hn : a.newest < mark) : LowV mark (viewOf (oursS S 0 a).2) := by
  rw [(h.done (img := 0) ⟨by omega, by omega⟩ ha).2.2]
  exact viewExec_low (ours_low h0 hn h.live) hl
theorem low_new (mark : Int) : LowV mark (viewOf (newS 1048576)) := fun _ _ _ => rfl
/-- The mark. -/
theorem start_old {mark : Int} (h0 : 0 < mark) {S : Str} (h : Calm17 S) (hl : LowV mark (viewOf S)) : (barrierS S).1 = 0 ∧ Live U17 (barrierS S).2 ∧ Olds (barrierS S).2 mark (fun num => (cview (barrierS S).2 0 num 0).map (·.b)) := by
  have hb : (burnsS S).1 = false := by simp [burnsS, h.calm]
  obtain ⟨h1, hd⟩ := barrier_dried h.live.on h.live.inv.coh hb
  refine ⟨h1, ⟨h.live.inv.dried h.live.on hb, hd.on.trans h.live.on⟩, fun num => .inl ⟨⟨⟨_, ⟨by unfold lateAt; rw [hd.late]; rfl, ?_, rfl⟩, rfl⟩, fun n hn => ?_⟩, fun n hn _ => ?_⟩⟩
  · rw [hd.dry, hd.seen]
  · have e : get (dK 0 num n) S.seen = none := hl num n hn
    exact Firm.all (o := none) ⟨by unfold lateAt; rw [hd.late]; rfl, (hd.dry _).trans e, by rw [hd.seen]; exact e⟩ (ok_none _)
  · have e : get (dK 0 num n) S.seen = none := hl num n hn
    rw [hd.seen, e]
    rfl
theorem Olds.of {S S' : Str} {mark : Int} {v : Int → Option (List Int)} (h : Olds S mark v) (e1 : S'.dry = S.dry) (e2 : S'.late = S.late) (e3 : S'.seen = S.seen) : Olds S' mark v := fun num => (h num).of e1 e2 e3
theorem Olds.fuse {S : Str} {mark : Int} {v : Int → Option (List Int)} (h : Olds S mark v) (n : Int) (keep : List Int) (torn : Int) : Olds (fuseS S n keep torn) mark v := by
  unfold fuseS
  split
  · exact h.of rfl rfl rfl
  · exact h.of rfl rfl rfl
theorem Live.fuse {U : List K4} {S : Str} (h : Live U S) (n : Int) (keep : List Int) (torn : Int) : Live U (fuseS S n keep torn) := ⟨h.inv.fuse n keep torn, by unfold fuseS; split <;> exact h.on⟩
/-- An act behind the mark, with a fuse or without, and the power again. -/
def behind (mark : Int) (a : A17) : A17 := { a.mild with newest := mark + a.mild.newest % 8, ms := mark :: a.mild.ms }
theorem behind_fine {mark : Int} (h0 : 0 < mark ∧ mark ≤ 8) (a : A17) (mv : Value) : Fine U17 0 { behind mark a with mv := mv } := by
  have h := mild_fine (img := 0) ⟨by omega, by omega⟩ a
  have hx : 0 ≤ a.num % 4 ∧ a.num % 4 ≤ 3 := by omega
  refine ⟨h.obj, ?_, h.snap, h.span, h.head, fun _ => U17_mem ⟨by omega, by omega⟩ hx ?_⟩
  · show snapB (mark + a.newest % 16 % 8) = true
    unfold snapB
    rw [decide_eq_true_eq]
    omega
  · show 0 ≤ mark + a.newest % 16 % 8 ∧ mark + a.newest % 16 % 8 ≤ 15
    omega
theorem behind_old {mark : Int} (h0 : 0 < mark ∧ mark ≤ 8) {v : Int → Option (List Int)} {S : Str} (h : Live U17 S) (ho : Olds S mark v) (a : A17) (mv : Value) :
    Live U17 (powerS (fuseS (oursS S 0 { behind mark a with mv := mv }).2 (-1) [] 0)) ∧ Olds (powerS (fuseS (oursS S 0 { behind mark a with mv := mv }).2 (-1) [] 0)) mark v := by
  obtain ⟨h1, h2⟩ := ours_old h (.inr (behind_fine h0 a mv)) h0.1 (show mark ≤ mark + a.mild.newest % 8 by omega) (show mark ∈ mark :: a.mild.ms from List.mem_cons_self ..) ho
  exact ⟨⟨(h2.fuse _ _ _).power, rfl⟩, (h1.fuse _ _ _).of rfl rfl rfl⟩
/-- What is read at the mark is what was. -/
theorem old_reads {mark : Int} (h0 : 0 < mark ∧ mark ≤ 8) {v : Int → Option (List Int)} {S : Str} (h : Live U17 S) (ho : Olds S mark v) {i : Nat} (hi : i < 4) :
    creadS S 0 i mark 0 64 = (padB ((v i).getD []) 0 64, 0) ∧ cthereS S 0 i mark = ((v i).isSome, 0) := by
  have hob : objB 0 i = true := by
    unfold objB
    rw [decide_eq_true_eq]
    omega
  have hsn : snapB mark = true := by
    unfold snapB
    rw [decide_eq_true_eq]
    omega
  have hh : (dK 0 i 0).ok = true := by
    unfold dK K4.ok
    simp only [decide_eq_true_eq]
    omega
  have hv := (ho i).old.val h.inv.keys h0.1
  refine ⟨?_, ?_⟩
  · rw [read_view h U17_ok (by rw [hob, hsn]; rfl), hv]
    rfl
  · unfold cthereS
    rw [hob, hsn, Bool.and_true, cmay_true h.on, if_neg (by simp), (at_view h U17_ok hh).1, hv]
theorem head_reads {S : Str} (h : Live U17 S) {i : Nat} (hi : i < 4) :
    creadS S 0 i 0 0 64 = (padB (((cview S 0 i 0).map (·.b)).getD []) 0 64, 0) ∧ cthereS S 0 i 0 = (((cview S 0 i 0).map (·.b)).isSome, 0) := by
  have hob : objB 0 i = true := by
    unfold objB
    rw [decide_eq_true_eq]
    omega
  have hh : (dK 0 i 0).ok = true := by
    unfold dK K4.ok
    simp only [decide_eq_true_eq]
    omega
  have hv : valO (cview S 0) (keysAt S ⟨4, 0⟩) i 0 = (cview S 0 i 0).map (·.b) := by
    unfold valO
    rw [if_neg (by omega)]
  refine ⟨?_, ?_⟩
  · rw [read_view h U17_ok (by rw [hob]; rfl), hv]
    rfl
  · unfold cthereS
    rw [hob, Bool.true_and, show snapB 0 = true from rfl, cmay_true h.on, if_neg (by simp), (at_view h U17_ok hh).1, hv]
theorem Live.keys {S : Str} (h : Live U17 S) (img : Int) : (keysTold S ⟨4, img⟩).length ≤ 128 := by
  unfold keysTold
  rw [if_pos h.on]
  have hn : (keysAt S ⟨4, img⟩).Nodup := List.Pairwise.imp (fun {a b} hab e => by subst e; rw [lt_irrefl'] at hab; cases hab) (h.inv.keys.rise ⟨4, img⟩)
  have := nodup_sub hn fun k hk => by
    obtain ⟨t, ht⟩ := Option.isSome_iff_exists.1 (grp_key h.inv.keys hk).2
    exact h.inv.getU ht
  simpa [U17] using this
end Go.Proofs.YtbepmbcbcklmlaaGreat
