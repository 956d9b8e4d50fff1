import Derived.Test.YtagfdgdoboncfaaWords
namespace Go.Proofs.Ytagfdgdoboncfaa
open Go.RowKit
theorem is_ways (phase site : Int) (l : List Tag) :
    ((phase == 2) = true ∧ phase = isPhase phase site l) ∨
    ((phase == 2) = false ∧ lastIs l (fun t => t.own = site) = true ∧ 1 = isPhase phase site l) ∨
    ((phase == 2) = false ∧ lastIs l (fun t => t.own = site) = false ∧ (phase == 1) = true ∧ 3 = isPhase phase site l) ∨
    ((phase == 2) = false ∧ lastIs l (fun t => t.own = site) = false ∧ (phase == 1) = false ∧ phase = isPhase phase site l) := by
  unfold isPhase
  by_cases h2 : phase = 2
  · left; exact ⟨by simpa using h2, by rw [if_pos h2]⟩
  right
  rw [if_neg h2]
  have h2' : (phase == 2) = false := by simpa using h2
  cases hl : lastIs l (fun t => t.own = site) with
  | true => left; exact ⟨h2', rfl, by simp⟩
  | false =>
    right
    by_cases h1 : phase = 1
    · left; exact ⟨h2', rfl, by simpa using h1, by simp [h1]⟩
    · right; exact ⟨h2', rfl, by simpa using h1, by simp [h1]⟩

set_option maxHeartbeats 2000000 in
theorem is_any (A : Option Addr) (n c : Nat) (l : List Tag) (phase site : Int) (w : World) (hl : TagsAt w A n l) (hn : n ≤ 1000000) :
    Calls Try.prog 9 #[.int .i64 phase, .int .i64 site, .slice A n c] w fun e w' => e = .returned (.int .i64 (isPhase phase site l)) ∧ w = w' := by
  have key := is_ways phase site l
  rcases Nat.eq_zero_or_pos n with h0 | h0
  · subst h0
    have hnil : l = [] := List.eq_nil_of_length_eq_zero hl.1
    subst hnil
    rcases key with ⟨d2, hv⟩ | ⟨d2, dl, hv⟩ | ⟨d2, dl, d1, hv⟩ | ⟨d2, dl, d1, hv⟩
    case inr.inl => exact absurd dl (by simp [lastIs])
    all_goals
      try clear dl
      have HV := Lib.hid hv
      clear hv hl
      go_enter Try.func9, Try.ntmps9
      go_wp2
      go_ret
      exact ⟨ret_int HV.out, rfl⟩
  · obtain ⟨m, rfl⟩ : ∃ m, n = m + 1 := ⟨n - 1, by omega⟩
    obtain ⟨b, off, x, rfl, hB, hx, c0, c1, c2, c3⟩ := hl.at_ (k := m) (by omega)
    rw [lastIs_last hl.1 hx] at key
    clear hx hl
    rcases key with ⟨d2, hv⟩ | ⟨d2, dl, hv⟩ | ⟨d2, dl, d1, hv⟩ | ⟨d2, dl, d1, hv⟩
    all_goals
      try (have dl' : (x.own == site) = decide (x.own = site) := by
             by_cases h : x.own = site <;> simp [h]
           rw [dl] at dl'
           clear dl)
      have HV := Lib.hid hv
      clear hv
      go_enter Try.func9, Try.ntmps9
      go_wp2
      go_ret
      exact ⟨ret_int HV.out, rfl⟩
set_option maxHeartbeats 2000000 in
theorem refIs_any (A : Option Addr) (n c : Nat) (l : List Tag) (phase site : Int) (w : World) (hl : TagsAt w A n l) (hn : n ≤ 1000000) :
    Calls Try.prog 10 #[.int .i64 phase, .int .i64 site, .slice A n c] w fun e w' => e = .returned (.int .i64 (isPhase phase site l)) ∧ w = w' := by
  have key := is_ways phase site l
  rcases Nat.eq_zero_or_pos n with h0 | h0
  · subst h0
    have hnil : l = [] := List.eq_nil_of_length_eq_zero hl.1
    subst hnil
    rcases key with ⟨d2, hv⟩ | ⟨d2, dl, hv⟩ | ⟨d2, dl, d1, hv⟩ | ⟨d2, dl, d1, hv⟩
    case inr.inl => exact absurd dl (by simp [lastIs])
    all_goals
      try clear dl
      have HV := Lib.hid hv
      clear hv hl
      go_enter Try.func10, Try.ntmps10
      go_wp2
      go_ret
      exact ⟨ret_int HV.out, rfl⟩
  · obtain ⟨m, rfl⟩ : ∃ m, n = m + 1 := ⟨n - 1, by omega⟩
    obtain ⟨b, off, x, rfl, hB, hx, c0, c1, c2, c3⟩ := hl.at_ (k := m) (by omega)
    rw [lastIs_last hl.1 hx] at key
    clear hx hl
    rcases key with ⟨d2, hv⟩ | ⟨d2, dl, hv⟩ | ⟨d2, dl, d1, hv⟩ | ⟨d2, dl, d1, hv⟩
    all_goals
      try (have dl' : (x.own == site) = decide (x.own = site) := by
             by_cases h : x.own = site <;> simp [h]
           rw [dl] at dl'
           clear dl)
      have HV := Lib.hid hv
      clear hv
      go_enter Try.func10, Try.ntmps10
      go_wp2
      go_ret
      exact ⟨ret_int HV.out, rfl⟩
end Go.Proofs.Ytagfdgdoboncfaa
