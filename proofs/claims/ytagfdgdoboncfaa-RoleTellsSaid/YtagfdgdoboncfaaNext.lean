import Derived.Test.YtagfdgdoboncfaaWords
namespace Go.Proofs.Ytagfdgdoboncfaa
open Go.RowKit
set_option maxHeartbeats 1000000 in
theorem next_any (A : Option Addr) (n c : Nat) (l : List Tag) (s : Int) (w : World) (hl : TagsAt w A n l) (hn : n ≤ 1000000) :
    Calls Try.prog 44 #[.slice A n c, .int .i64 s] w fun e w' => e = .returned (.int .i64 (nextId l s)) ∧ Below w.heap.size w w' := by
  go_enter Try.func44, Try.ntmps44
  go_wp2
  go_loopw [5, 10] (fun v5 v10 wr => ∃ (k : Nat) (m : Int), k ≤ n ∧ v10 = .int .i64 k ∧ v5 = .int .i64 m ∧ m = maxIds (l.take k) ∧ 0 ≤ m ∧ m ≤ 1073741824 ∧ highId (l.take k) = false ∧ Below w.heap.size w wr) (fun _ v10 _ => n - (intOf v10).toNat)
  case atStart => exact ⟨0, 0, Nat.zero_le _, rfl, rfl, rfl, by omega, by omega, rfl, Below.refl _ _⟩
  case round =>
    obtain ⟨k, m, hk, rfl, rfl, hm, hm0, hm1, hh, hb⟩ := hrel
    have HM := Lib.hid hm
    have HH := Lib.hid hh
    clear hm hh
    by_cases hlt : k < n
    · obtain ⟨b, off, x, rfl, hB, hx, c0, c1, c2, c3⟩ := hl.at_ hlt
      have hcell : ∀ o, wr.cell? ⟨b, o, none⟩ = w.cell? ⟨b, o, none⟩ := fun o => hb.cell (p := ⟨b, o, none⟩) hB
      rw [← hcell] at c0 c1 c2 c3
      have HX := Lib.hid hx
      clear hcell hx
      by_cases hmx : m < x.id
      all_goals
        go_wp2
        all_goals first
          | (go_ret
             exact ⟨ret_int (nextId_high HX.out (by assumption) s), hb.alloc hb.size _⟩)
          | (go_roundw
             case rel => exact ⟨k + 1, _, by omega, by go_num, rfl, by rw [maxIds_more HX.out, ← HM.out]; omega, by omega, by omega, by rw [highId_more HX.out HH.out]; simp; omega, hb.alloc hb.size _⟩
             case measure => simp [intOf]; omega)
    · have hand : bits .and .i64 (m + 1) 1 = (m + 1) % 2 := i64_and1 _
      go_wp2
      · go_ret
        exact ⟨ret_int (nextId_low hl.1 hk hlt HH.out HM.out (nextOdd_step ((Bool.not_eq_true' _).mp ‹_›))), hb⟩
      · go_ret
        exact ⟨ret_int (nextId_low hl.1 hk hlt HH.out HM.out (nextOdd_stay ((Bool.not_eq_false' _).mp ‹_›))), hb⟩
end Go.Proofs.Ytagfdgdoboncfaa
