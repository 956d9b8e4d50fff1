import Derived.Test.YtagfdgdoboncfaaNote
import Derived.Test.YtagfdgdoboncfaaTurns
namespace Go.Proofs.Ytagfdgdoboncfaa
open Go.RowKit
theorem keep_box {w W w' : World} {v0 v1 v2 v3 v4 v5 : Value} (hb : Below W.heap.size W w')
    (h : (W.cell? ⟨w.heap.size, 0, none⟩ = some v0 ∧ W.cell? ⟨w.heap.size, 1, none⟩ = some v1 ∧ W.cell? ⟨w.heap.size, 2, none⟩ = some v2 ∧ W.cell? ⟨w.heap.size, 3, none⟩ = some v3 ∧ W.cell? ⟨w.heap.size, 4, none⟩ = some v4 ∧ W.cell? ⟨w.heap.size, 5, none⟩ = some v5) ∧ Below w.heap.size w W ∧ w.heap.size < W.heap.size) :
    (w'.cell? ⟨w.heap.size, 0, none⟩ = some v0 ∧ w'.cell? ⟨w.heap.size, 1, none⟩ = some v1 ∧ w'.cell? ⟨w.heap.size, 2, none⟩ = some v2 ∧ w'.cell? ⟨w.heap.size, 3, none⟩ = some v3 ∧ w'.cell? ⟨w.heap.size, 4, none⟩ = some v4 ∧ w'.cell? ⟨w.heap.size, 5, none⟩ = some v5) ∧ Below w.heap.size w w' ∧ w.heap.size < w'.heap.size := by
  obtain ⟨⟨h0, h1, h2, h3, h4, h5⟩, hB, hz⟩ := h
  have k : ∀ o, w'.cell? ⟨w.heap.size, o, none⟩ = W.cell? ⟨w.heap.size, o, none⟩ := fun o => hb.cell (p := ⟨w.heap.size, o, none⟩) hz
  exact ⟨⟨(k _).trans h0, (k _).trans h1, (k _).trans h2, (k _).trans h3, (k _).trans h4, (k _).trans h5⟩, hB.trans (hb.mono (Nat.le_of_lt hz)), Nat.lt_of_lt_of_le hz hb.size⟩
set_option maxRecDepth 100000 in
set_option maxHeartbeats 8000000 in
theorem roleTells_walk (ph bo no st nu : Int) (I : Option Addr) (ni ci : Nat) (A : Option Addr) (n c : Nat) (l : List Tag) (phase site to : Int) (w : World) (hl : TagsAt w A n l) (hc : n ≤ c) (hn : n ≤ 9223372036854775807) (hni : ni ≤ 9223372036854775807) :
    Calls Try.prog 4 #[.agg #[.int .i64 ph, .int .i64 bo, .int .i64 no, .int .i64 st, .int .i64 nu, .slice I ni ci], .int .i64 phase, .int .i64 site, .slice A n c, .int .i64 to] w fun e w' => e = .returned (.bool true) ∧ Below w.heap.size w w' := by
  by_cases h50 : n ≤ 50
  · have d50 : decide ((50 : Int) < n) = false := by simp; omega
    by_cases h2000 : ni ≤ 2000
    · have d2000 : decide ((2000 : Int) < ni) = false := by simp; omega
      have HL := Lib.hid hl
      clear hl
      go_enter Try.func4, Try.ntmps4
      go_wp2_with fail
      have hg := heap_alloc_new w (.cells #[.int .i64 ph, .int .i64 bo, .int .i64 no, .int .i64 st, .int .i64 nu, .slice I ni ci] 32)
      have HS : Below w.heap.size w (w.alloc (.cells #[.int .i64 ph, .int .i64 bo, .int .i64 no, .int .i64 st, .int .i64 nu, .slice I ni ci] 32)) := (Below.refl _ _).alloc (Nat.le_refl _) _
      have HSz : w.heap.size < (w.alloc (.cells #[.int .i64 ph, .int .i64 bo, .int .i64 no, .int .i64 st, .int .i64 nu, .slice I ni ci] 32)).heap.size := by simp
      generalize w.alloc (.cells #[.int .i64 ph, .int .i64 bo, .int .i64 no, .int .i64 st, .int .i64 nu, .slice I ni ci] 32) = w2 at *
      have b0 := cell_of_row w2 _ 0 _ _ _ hg
      have b1 := cell_of_row w2 _ 1 _ _ _ hg
      have b2 := cell_of_row w2 _ 2 _ _ _ hg
      have b3 := cell_of_row w2 _ 3 _ _ _ hg
      have b4 := cell_of_row w2 _ 4 _ _ _ hg
      have b5 := cell_of_row w2 _ 5 _ _ _ hg
      simp at b0 b1 b2 b3 b4 b5
      clear hg
      have e1 : ∀ b : Bool, (!(b == b)) = false := by intro b; cases b <;> rfl
      have e2 : ∀ x : Int, (x != x) = false := by intro x; simp
      go_region_held3 (fun w' => (w'.cell? ⟨w.heap.size, 0, none⟩ = some (.int .i64 ph) ∧ w'.cell? ⟨w.heap.size, 1, none⟩ = some (.int .i64 bo) ∧ w'.cell? ⟨w.heap.size, 2, none⟩ = some (.int .i64 no) ∧ w'.cell? ⟨w.heap.size, 3, none⟩ = some (.int .i64 st) ∧ w'.cell? ⟨w.heap.size, 4, none⟩ = some (.int .i64 nu) ∧ w'.cell? ⟨w.heap.size, 5, none⟩ = some (.slice I ni ci)) ∧ Below w.heap.size w w' ∧ w.heap.size < w'.heap.size)
        (first
          | assumption
          | exact ⟨⟨b0, b1, b2, b3, b4, b5⟩, HS.drew, HSz⟩
          | exact keep_box hb3 ‹_›
          | fail)
        (first
          | (go_at_call 12; refine (noteRight_any ph bo no st nu I ni ci _ hni).mono ?_; rintro e w3 ⟨rfl, hb3⟩)
          | (go_at_call 13; refine (refNoteRight_any ph bo no st nu I ni ci _ hni).mono ?_; rintro e w3 ⟨rfl, hb3⟩)
          | (go_at_call 14; refine (peer_any site _).mono ?_; rintro e w3 ⟨rfl, rfl⟩)
          | (go_at_call 15; refine (refPeer_any site _).mono ?_; rintro e w3 ⟨rfl, rfl⟩)
          | (go_at_call 16; refine (may_any phase _).mono ?_; rintro e w3 ⟨rfl, rfl⟩)
          | (go_at_call 17; refine (refMay_any phase _).mono ?_; rintro e w3 ⟨rfl, rfl⟩)
          | (go_at_call 9; refine (is_any A n c l phase site _ ?_ (by omega)).mono ?_; (· exact HL.out.below (‹(_ ∧ _ ∧ _ ∧ _ ∧ _ ∧ _) ∧ Below w.heap.size w _ ∧ _›).2.1 (Nat.le_refl _)); rintro e w3 ⟨rfl, rfl⟩)
          | (go_at_call 10; refine (refIs_any A n c l phase site _ ?_ (by omega)).mono ?_; (· exact HL.out.below (‹(_ ∧ _ ∧ _ ∧ _ ∧ _ ∧ _) ∧ Below w.heap.size w _ ∧ _›).2.1 (Nat.le_refl _)); rintro e w3 ⟨rfl, rfl⟩)
          | fail)
      have HW := Lib.hid (‹(_ ∧ _ ∧ _ ∧ _ ∧ _ ∧ _) ∧ Below w.heap.size w _ ∧ _›).2.1
      clear b0 b1 b2 b3 b4 b5 HS HSz
      go_wp2_with fail
      refine (turns_true A n c l phase site to _ (HL.out.below HW.out (Nat.le_refl _)) (by omega) hc).mono ?_
      rintro e w4 ⟨rfl, hb4⟩
      have hb5 := HW.out.trans (hb4.mono HW.out.size)
      clear hb4
      go_wp2_with fail
      refine (known_true _).mono ?_
      rintro e w5 ⟨rfl, hb⟩
      have hb6 := hb5.trans (hb.mono hb5.size)
      clear hb hb5
      go_wp2_with fail
      go_ret
      exact ⟨rfl, hb6⟩
    · have d2000 : decide ((2000 : Int) < ni) = true := by simp; omega
      clear hl
      go_enter Try.func4, Try.ntmps4
      go_wp2_with (go_at_call 7; refine (known_true _).mono ?_; rintro e w1 ⟨rfl, hb⟩)
      go_ret
      exact ⟨rfl, ((Below.refl _ _).alloc (Nat.le_refl _) _).trans (hb.mono (by simp))⟩
  · have d50 : decide ((50 : Int) < n) = true := by simp; omega
    clear hl
    go_enter Try.func4, Try.ntmps4
    go_wp2_with (go_at_call 7; refine (known_true _).mono ?_; rintro e w1 ⟨rfl, hb⟩)
    go_ret
    exact ⟨rfl, ((Below.refl _ _).alloc (Nat.le_refl _) _).trans (hb.mono (by simp))⟩
end Go.Proofs.Ytagfdgdoboncfaa
