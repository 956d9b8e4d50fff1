import Derived.Test.YtagfdgdoboncfaaTag
namespace Go.Proofs.Ytagfdgdoboncfaa
open Go.RowKit
set_option maxHeartbeats 1000000 in
theorem right_any (A : Option Addr) (n c : Nat) (l : List Tag) (w : World) (hl : TagsAt w A n l) (hn : n ≤ 1000000) (hc : n ≤ c) :
    Calls Try.prog 21 #[.slice A n c] w fun e w' => e = .returned (.bool (rightB l)) ∧ Below w.heap.size w w' := by
  by_cases h32 : 1 ≤ n ∧ n ≤ 32
  · obtain ⟨h1, h2⟩ := h32
    go_enter Try.func21, Try.ntmps21
    go_wp2
    go_loopw [15] (fun v15 wr => ∃ k : Nat, k ≤ n ∧ v15 = .int .i64 k ∧ okUpto l k = true ∧ Below w.heap.size w wr) (fun v15 _ => n - (intOf v15).toNat)
    case atStart => exact ⟨0, Nat.zero_le _, rfl, rfl, Below.refl _ _⟩
    case round =>
      obtain ⟨k, hk, rfl, hd, hb⟩ := hrel
      by_cases hlt : k < n
      · obtain ⟨b, off, x, rfl, hB, hx, c0, c1, c2, c3⟩ := hl.at_ hlt
        have hcell : ∀ o, wr.cell? ⟨b, o, none⟩ = w.cell? ⟨b, o, none⟩ := fun o => hb.cell (p := ⟨b, o, none⟩) hB
        rw [← hcell] at c0 c1 c2 c3
        have HX := Lib.hid hx
        clear hcell hx
        have HT := Lib.hid ((hl.below hb (Nat.le_refl _)).take hk)
        go_wp2_with fail
        go_region_with (go_at_call 35; refine (tag_any x _ k c (l.take k) _ ?ht (by omega)).mono ?_; (case ht => exact HT.out.below (((Below.refl _ _).alloc (Nat.le_refl _) _).drew) (Nat.le_refl _)); rintro e w1 ⟨rfl, hb'⟩)
        all_goals
         have hb1 : Below w.heap.size w w1 := (hb.alloc hb.size _).drew.trans (hb'.mono (by simp; have := hb.size; omega))
         clear hb'
         go_wp2
         · go_ret
           exact ⟨ret_bool (rightB_not hl.1 hlt HX.out hd ((Bool.not_eq_true' _).mp ‹_›)).symm, hb1⟩
         · go_roundw
           case rel => exact ⟨k + 1, by omega, by go_num, by rw [okUpto_more HX.out hd]; exact (Bool.not_eq_false' _).mp ‹_›, hb1⟩
           case measure => simp [intOf]; omega
      · go_wp2
        go_ret
        obtain rfl : k = n := by omega
        exact ⟨ret_bool (by rw [rightB, hl.1, hd]; simp [h1, h2]), hb⟩
  · have hr : rightB l = false := by rw [rightB, hl.1, decide_eq_false h32, Bool.false_and]
    rw [hr]
    by_cases h1 : 1 ≤ n
    all_goals
      go_enter Try.func21, Try.ntmps21
      go_wp2
      go_ret
      exact ⟨rfl, Below.refl _ _⟩
end Go.Proofs.Ytagfdgdoboncfaa
