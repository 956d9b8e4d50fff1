import Derived.Test.YtagfdgdoboncfaaRight
import Derived.Test.YtagfdgdoboncfaaRightChain

namespace Go.Proofs.Ytagfdgdoboncfaa
open Go.RowKit
set_option maxHeartbeats 1000000 in
theorem hist_any (A : Option Addr) (n c : Nat) (l : List Tag) (site to : Int) (w : World) (hl : TagsAt w A n l) (hn : n ≤ 1000000) (hc : n ≤ c) :
    Calls Try.prog 32 #[.int .i64 site, .slice A n c, .int .i64 to] w fun e w' => e = .returned (.bool (histB site l to)) ∧ Below w.heap.size w w' := by
  by_cases hs : 1 ≤ site ∧ site ≤ 2
  · obtain ⟨s1, s2⟩ := hs
    have d1 : decide ((1 : Int) ≤ site) = true := by simpa using s1
    have d2 : decide (site ≤ 2) = true := by simpa using s2
    cases hr : rightB l with
    | false =>
      have hh : histB site l to = false := by rw [histB, hr]; simp
      rw [hh]
      have HR := Lib.hid hr
      clear hr hh
      go_enter Try.func32, Try.ntmps32
      go_wp2_with (go_at_call 21; refine (right_any A n c l _ hl hn hc).mono ?_; rintro e w1 ⟨rfl, hb⟩; rw [HR.out])
      go_ret
      exact ⟨rfl, hb⟩
    | true =>
      have h1 := rightB_len hr
      rw [hl.1] at h1
      obtain ⟨m, rfl⟩ : ∃ m, n = m + 1 := ⟨n - 1, by omega⟩
      obtain ⟨b, off, x, rfl, hB, hx, _, _, _, c3⟩ := hl.at_ (k := m) (by omega)
      have hla := lastAt_last hl.1 hx
      have HH : Hid (∀ p : Bool, (p = true ↔ (0 ≤ to ∧ to ≤ 1099511627776 ∧ x.at_ ≤ to)) → p = histB site l to) := fun p hp => by
        rw [histB, hr, hla, Bool.eq_iff_iff, hp, Bool.and_true, Bool.and_eq_true, decide_eq_true_eq, decide_eq_true_eq]
        exact ⟨fun h => ⟨⟨s1, s2⟩, h⟩, fun h => h.2⟩
      have HR := Lib.hid hr
      clear hr hla hx
      go_enter Try.func32, Try.ntmps32
      go_wp2_with (go_at_call 21; refine (right_any _ (m + 1) c l _ hl hn hc).mono ?_; rintro e w1 ⟨rfl, hb⟩; rw [HR.out]; have c3' := (hb.cell (p := ⟨b, off + m * 4 + 3, none⟩) hB).trans c3)
      all_goals
        go_ret
        refine ⟨ret_bool (HH.out _ ?_), hb⟩
        simp only [decide_eq_true_eq, Bool.false_eq_true, false_iff]
        omega
  · have hh : histB site l to = false := by rw [histB, decide_eq_false hs]; simp
    rw [hh]
    by_cases h1 : 1 ≤ site
    · have d1 : decide ((1 : Int) ≤ site) = true := by simpa using h1
      have d2 : decide (site ≤ 2) = false := by simp; omega
      go_enter Try.func32, Try.ntmps32
      go_wp2
      go_ret
      exact ⟨rfl, Below.refl _ _⟩
    · have d1 : decide ((1 : Int) ≤ site) = false := by simpa using h1
      go_enter Try.func32, Try.ntmps32
      go_wp2
      go_ret
      exact ⟨rfl, Below.refl _ _⟩
end Go.Proofs.Ytagfdgdoboncfaa
