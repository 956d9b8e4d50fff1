import Derived.Test.YtagfdgdoboncfaaWords
namespace Go.Proofs.Ytagfdgdoboncfaa
open Go.RowKit
set_option maxHeartbeats 1000000 in
theorem sameTags_any (A B : Option Addr) (n c m d : Nat) (l r : List Tag) (w : World) (hl : TagsAt w A n l) (hr : TagsAt w B m r) (hn : n ≤ 1000000) (hm : m ≤ 1000000) :
    Calls Try.prog 31 #[.slice A n c, .slice B m d] w fun e w' => e = .returned (.bool (sameB l r)) ∧ Below w.heap.size w w' := by
  by_cases hnm : n = m
  · subst hnm
    go_enter Try.func31, Try.ntmps31
    go_wp2
    go_loopw [5] (fun v5 wr => ∃ k : Nat, k ≤ n ∧ v5 = .int .i64 k ∧ sameB (l.take k) (r.take k) = true ∧ Below w.heap.size w wr) (fun v5 _ => n - (intOf v5).toNat)
    case atStart => exact ⟨0, Nat.zero_le _, rfl, rfl, Below.refl _ _⟩
    case round =>
      obtain ⟨k, hk, rfl, hs, hb⟩ := hrel
      have HS := Lib.hid hs
      clear hs
      by_cases hlt : k < n
      · obtain ⟨b, off, x, rfl, hB, hx, c0, c1, c2, c3⟩ := hl.at_ hlt
        obtain ⟨b', off', y, rfl, hB', hy, d0, d1, d2, d3⟩ := hr.at_ hlt
        have hcell : ∀ o, wr.cell? ⟨b, o, none⟩ = w.cell? ⟨b, o, none⟩ := fun o => hb.cell (p := ⟨b, o, none⟩) hB
        have hcell' : ∀ o, wr.cell? ⟨b', o, none⟩ = w.cell? ⟨b', o, none⟩ := fun o => hb.cell (p := ⟨b', o, none⟩) hB'
        rw [← hcell] at c0 c1 c2 c3
        rw [← hcell'] at d0 d1 d2 d3
        have HX := Lib.hid hx
        have HY := Lib.hid hy
        clear hx hy hcell hcell'
        have hk0 : (0 : Int) ≤ k := by omega
        have hk1 : (k : Int) < n := by omega
        have heq := tag_eqIn x y
        have hgd := tag_eqGuard
        go_wp2
        go_quiet (fail)
        go_wp2
        · go_ret
          exact ⟨ret_bool (sameB_at HX.out HY.out ((Bool.not_eq_true' _).mp ‹_›)).symm, below_drewN hb _⟩
        · go_roundw
          case rel => exact ⟨k + 1, by omega, by go_num, sameB_more HX.out HY.out HS.out ((Bool.not_eq_false' _).mp ‹_›), below_drewN hb _⟩
          case measure => simp [intOf]; omega
      · go_wp2
        go_ret
        exact ⟨ret_bool (sameB_whole hl.1 hr.1 hk hlt HS.out).symm, hb⟩
  · have hf : sameB l r = false := sameB_len l r (by rw [hl.1, hr.1]; exact hnm)
    rw [hf]
    go_enter Try.func31, Try.ntmps31
    go_wp2
    go_ret
    exact ⟨rfl, Below.refl _ _⟩
end Go.Proofs.Ytagfdgdoboncfaa
