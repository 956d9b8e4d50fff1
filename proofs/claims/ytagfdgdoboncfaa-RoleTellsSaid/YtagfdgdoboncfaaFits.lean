import Derived.Test.YtagfdgdoboncfaaHist
namespace Go.Proofs.Ytagfdgdoboncfaa
open Go.RowKit
set_option maxHeartbeats 1000000 in
theorem fits_any (A : Option Addr) (n c : Nat) (l : List Tag) (site to : Int) (w : World) (hl : TagsAt w A n l) (hn : n ≤ 1000000) :
    Calls Try.prog 42 #[.int .i64 site, .slice A n c, .int .i64 to] w fun e w' => e = .returned (.bool (histB site l to)) ∧ Below w.heap.size w w' := by
  by_cases hs : 1 ≤ site ∧ site ≤ 2
  · have hs' : ((site == 1) = true) ∨ ((site == 1) = false ∧ (site == 2) = true) := by simp; omega
    cases hr : rightB l with
    | false =>
      have hh : histB site l to = false := by rw [histB, hr]; simp
      rw [hh]
      have HR := Lib.hid hr
      clear hr hh hs
      rcases hs' with d1 | ⟨d1, d2⟩
      all_goals
        go_enter Try.func42, Try.ntmps42
        go_wp2_with (go_at_call 48; refine (rightChain_any A n c l _ hl hn).mono ?_; rintro e w1 ⟨rfl, hb⟩; rw [HR.out])
        go_ret
        exact ⟨rfl, hb⟩
    | true =>
      have h1 := rightB_len hr
      rw [hl.1] at h1
      obtain ⟨m, rfl⟩ : ∃ m, n = m + 1 := ⟨n - 1, by omega⟩
      obtain ⟨b, off, x, rfl, hB, hx, _, _, _, c3⟩ := hl.at_ (k := m) (by omega)
      have hla := lastAt_last hl.1 hx
      have HH : Hid (∀ p : Bool, (p = true ↔ (0 ≤ to ∧ to ≤ 1099511627776 ∧ x.at_ ≤ to)) → p = histB site l to) := fun p hp => by
        rw [histB, hr, hla, Bool.eq_iff_iff, hp, Bool.and_true, Bool.and_eq_true, decide_eq_true_eq, decide_eq_true_eq]
        exact ⟨fun h => ⟨hs, h⟩, fun h => h.2⟩
      have HR := Lib.hid hr
      clear hr hla hx hs
      rcases hs' with d1 | ⟨d1, d2⟩
      all_goals
        go_enter Try.func42, Try.ntmps42
        go_wp2_with (go_at_call 48; refine (rightChain_any _ (m + 1) c l _ hl hn).mono ?_; rintro e w1 ⟨rfl, hb⟩; rw [HR.out]; have c3' := (hb.cell (p := ⟨b, off + m * 4 + 3, none⟩) hB).trans c3)
        all_goals
          go_ret
          refine ⟨ret_bool (HH.out _ ?_), hb⟩
          simp only [decide_eq_true_eq, Bool.false_eq_true, false_iff]
          omega
  · have hh : histB site l to = false := by rw [histB, decide_eq_false hs]; simp
    rw [hh]
    have d1 : (site == 1) = false := by rw [beq_eq_false_iff_ne]; omega
    have d2 : (site == 2) = false := by rw [beq_eq_false_iff_ne]; omega
    clear hs
    go_enter Try.func42, Try.ntmps42
    go_wp2
    go_ret
    exact ⟨rfl, Below.refl _ _⟩
end Go.Proofs.Ytagfdgdoboncfaa
