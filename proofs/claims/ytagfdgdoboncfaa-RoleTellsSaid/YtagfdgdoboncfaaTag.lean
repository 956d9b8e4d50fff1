import Derived.Test.YtagfdgdoboncfaaWords
namespace Go.Proofs.Ytagfdgdoboncfaa
open Go.RowKit
set_option maxHeartbeats 1000000 in
theorem tag_any (t : Tag) (A : Option Addr) (n c : Nat) (l : List Tag) (w : World) (hl : TagsAt w A n l) (hn : n ≤ 1000000) :
    Calls Try.prog 35 #[t.val, .slice A n c] w fun e w' => e = .returned (.bool (tagOk t l)) ∧ Below w.heap.size w w' := by
  unfold Tag.val
  go_enter Try.func35, Try.ntmps35
  go_wp2
  go_loopw [5, 10] (fun v5 v10 wr => ∃ k : Nat, k ≤ n ∧ v10 = .int .i64 k ∧ v5 = .int .i64 (lastAt (l.take k)) ∧ noDup t (l.take k) = true ∧ Below w.heap.size w wr ∧
     wr.heap[w.heap.size]? = some (.cells #[.int .i64 t.id, .int .i64 t.own, .int .i64 t.heir, .int .i64 t.at_] 50)) (fun _ v10 _ => n - (intOf v10).toNat)
  case atStart => exact ⟨0, Nat.zero_le _, rfl, rfl, rfl, (Below.refl _ _).alloc (Nat.le_refl _) _, heap_alloc_new _ _⟩
  case round =>
    obtain ⟨k, hk, rfl, rfl, hd, hb, hbox⟩ := hrel
    by_cases hlt : k < n
    · obtain ⟨b, off, x, rfl, hB, hx, c0, c1, c2, c3⟩ := hl.at_ hlt
      have hcell : ∀ o, wr.cell? ⟨b, o, none⟩ = w.cell? ⟨b, o, none⟩ := fun o => hb.cell (p := ⟨b, o, none⟩) hB
      rw [← hcell] at c0 c1 c2 c3
      have b0 := cell_of_row wr _ 0 _ _ _ hbox
      have b1 := cell_of_row wr _ 1 _ _ _ hbox
      have b2 := cell_of_row wr _ 2 _ _ _ hbox
      have b3 := cell_of_row wr _ 3 _ _ _ hbox
      simp at b0 b1 b2 b3
      have hz := (Array.getElem?_eq_some_iff.1 hbox).1
      have HX := Lib.hid hx
      have HB := Lib.hid hbox
      clear hcell hx hbox
      go_wp2
      · go_ret
        exact ⟨ret_bool (tagOk_dup HX.out ‹_›).symm, hb.alloc (by omega) _⟩
      · go_roundw
        case rel => exact ⟨k + 1, by omega, by go_num, by rw [lastAt_more HX.out], noDup_more HX.out ‹_› hd, hb.alloc (by omega) _, (heap_alloc_old hz _).trans HB.out⟩
        case measure => simp [intOf]; omega
    · have b0 := cell_of_row wr _ 0 _ _ _ hbox
      have b1 := cell_of_row wr _ 1 _ _ _ hbox
      have b2 := cell_of_row wr _ 2 _ _ _ hbox
      have b3 := cell_of_row wr _ 3 _ _ _ hbox
      simp at b0 b1 b2 b3
      clear hbox
      go_wp2
      all_goals
        go_ret
        refine ⟨ret_bool (tagOk_take hl.1 hk hlt hd ?_), hb⟩
        simp only [fieldsOk, decide_eq_true_eq, beq_iff_eq, Bool.false_eq_true, false_iff]
        omega
end Go.Proofs.Ytagfdgdoboncfaa
