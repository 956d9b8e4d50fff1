import Derived.Test.YtagfdgdoboncfaaWords
namespace Go.Proofs.Ytagfdgdoboncfaa
open Go.RowKit
set_option maxHeartbeats 1000000 in
theorem nextID_any (A : Option Addr) (n c : Nat) (l : List Tag) (s : Int) (w : World) (hl : TagsAt w A n l) (hn : n ≤ 1000000) :
    Calls Try.prog 28 #[.slice A n c, .int .i64 s] w fun e w' => e = .returned (.int .i64 (nextId l s)) ∧ w = w' := by
  go_enter Try.func28, Try.ntmps28
  go_wp2
  go_loop [5, 6] (fun v5 v10 => ∃ (k : Nat) (m : Int), k ≤ n ∧ v10 = .int .i64 k ∧ v5 = .int .i64 m ∧ m = maxIds (l.take k) ∧ 0 ≤ m ∧ m ≤ 1073741824 ∧ highId (l.take k) = false) (fun _ v10 => n - (intOf v10).toNat)
  case atStart => exact ⟨0, 0, Nat.zero_le _, rfl, rfl, rfl, by omega, by omega, rfl⟩
  case round =>
    obtain ⟨k, m, hk, rfl, rfl, hm, hm0, hm1, hh⟩ := hrel
    have HM := Lib.hid hm
    have HH := Lib.hid hh
    clear hm hh
    by_cases hlt : k < n
    · obtain ⟨b, off, x, rfl, hB, hx, c0, c1, c2, c3⟩ := hl.at_ hlt
      have HX := Lib.hid hx
      clear hx
      by_cases hmx : m < x.id
      all_goals
        go_wp2
        all_goals first
          | (go_ret
             exact ⟨ret_int (nextId_high HX.out (by assumption) s), rfl⟩)
          | (go_round
             case rel => exact ⟨k + 1, _, by omega, by go_num, rfl, by rw [maxIds_more HX.out, ← HM.out]; omega, by omega, by omega, by rw [highId_more HX.out HH.out]; simp; omega⟩
             case measure => simp [intOf]; omega)
    · go_wp2
      go_ways
      · go_ret
        exact ⟨ret_int (nextId_low hl.1 hk hlt HH.out HM.out (nextOdd_step ((Bool.not_eq_true' _).mp ‹_›))), rfl⟩
      · go_ret
        exact ⟨ret_int (nextId_low hl.1 hk hlt HH.out HM.out (nextOdd_stay ((Bool.not_eq_false' _).mp ‹_›))), rfl⟩
end Go.Proofs.Ytagfdgdoboncfaa
