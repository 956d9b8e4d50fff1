import Derived.Test.YtagfdgdoboncfaaWords
import Derived.Test.YtagfdgdoboncfaaAlikeFns
namespace Go.Proofs.Ytagfdgdoboncfaa
open Go.RowKit
set_option maxRecDepth 100000 in
set_option maxHeartbeats 2000000 in
theorem alike_any (A B : Option Addr) (n c m d : Nat) (l r : List Tag) (w : World) (hl : TagsAt w A n l) (hr : TagsAt w B m r) (hn : n ≤ 1000000) :
    Calls Try.prog 36 #[.slice A n c, .slice B m d] w fun e w' => e = .returned (.int .i64 (alikeN l r)) ∧ Below w.heap.size w w' := by
  have hle := alikeN_le l r
  rw [hl.1, hr.1] at hle
  obtain ⟨le1, le2⟩ := hle
  go_enter Try.func36, Try.ntmps36
  go_wp2
  go_loopw [5] (fun v5 wr => ∃ k : Nat, k ≤ alikeN l r ∧ v5 = .int .i64 k ∧ Below w.heap.size w wr) (fun v5 _ => n - (intOf v5).toNat)
  case atStart => exact ⟨0, Nat.zero_le _, rfl, Below.refl _ _⟩
  case round =>
    obtain ⟨k, hk, rfl, hb⟩ := hrel
    have HK := Lib.hid hk
    have hkn : k ≤ n := by omega
    have hkm : k ≤ m := by omega
    have HL1 := Lib.hid le1
    have HL2 := Lib.hid le2
    clear hk le1 le2
    by_cases h1 : k < n
    · have q1 : decide ((k : Int) < n) = true := by simpa using h1
      have q1' : decide (k < n) = true := by simpa using h1
      by_cases h2 : k < m
      · have q2 : decide ((k : Int) < m) = true := by simpa using h2
        have q2' : decide (k < m) = true := by simpa using h2
        obtain ⟨b, off, x, rfl, hB, hx, c0, c1, c2, c3⟩ := hl.at_ h1
        obtain ⟨b', off', y, rfl, hB', hy, d0, d1, d2, d3⟩ := hr.at_ h2
        have hcell : ∀ o, wr.cell? ⟨b, o, none⟩ = w.cell? ⟨b, o, none⟩ := fun o => hb.cell (p := ⟨b, o, none⟩) hB
        have hcell' : ∀ o, wr.cell? ⟨b', o, none⟩ = w.cell? ⟨b', o, none⟩ := fun o => hb.cell (p := ⟨b', o, none⟩) hB'
        rw [← hcell] at c0 c1 c2 c3
        rw [← hcell'] at d0 d1 d2 d3
        have HX := Lib.hid hx
        have HY := Lib.hid hy
        clear hx hy hcell hcell' hl hr
        have i0 : (0 : Int) ≤ k := by omega
        have i1 : (k : Int) < n := by omega
        have i2 : (k : Int) < m := by omega
        have heq := tag_eqIn x y
        have hgd := tag_eqGuard
        cases hs : x.same y with
        | true =>
          have HS := Lib.hid (alikeN_yes HK.out HX.out HY.out hs)
          go_wp2_with fail
          go_quiet (fail)
          go_wp2
          go_roundw
          case rel => exact ⟨k + 1, HS.out, by go_num, below_drewN hb _⟩
          case measure => simp [intOf]; omega
        | false =>
          have HS := Lib.hid (alikeN_no HK.out HX.out HY.out hs)
          go_wp2_with fail
          go_quiet (fail)
          go_wp2
          go_ret
          exact ⟨ret_int (by rw [HS.out]), below_drewN hb _⟩
      · have q2 : decide ((k : Int) < m) = false := by simpa using h2
        have q2' : decide (k < m) = false := by simpa using h2
        have HS : Hid (alikeN l r = k) := by have := HK.out; have := HL2.out; exact (by omega : alikeN l r = k)
        go_wp2_with fail
        go_quiet (fail)
        go_wp2
        go_ret
        exact ⟨ret_int (by rw [HS.out]), below_drewN hb _⟩
    · have q1 : decide ((k : Int) < n) = false := by simpa using h1
      have q1' : decide (k < n) = false := by simpa using h1
      have HS : Hid (alikeN l r = k) := by have := HK.out; have := HL1.out; exact (by omega : alikeN l r = k)
      go_wp2_with fail
      go_quiet (fail)
      go_wp2
      go_ret
      exact ⟨ret_int (by rw [HS.out]), below_drewN hb _⟩
end Go.Proofs.Ytagfdgdoboncfaa
