import Derived.Test.YtagfdgdoboncfaaFits
import Derived.Test.YtagfdgdoboncfaaRefMore
namespace Go.Proofs.Ytagfdgdoboncfaa
open Go.RowKit
theorem gives_none {w w' : World} (hb : Below w.heap.size w w') (err : Int) : Gives w ([], err) (.returned (.tuple #[.slice none 0 0, .int .i64 err])) w' :=
  ⟨none, 0, 0, rfl, TagsAt.nil _, by omega, Nat.le_refl _, hb⟩
theorem Gives.trans {w w1 : World} {r : List Tag × Int} {e : Ending} {w' : World} (h : Gives w1 r e w') (hb : Below w.heap.size w w1) : Gives w r e w' := by
  obtain ⟨A, n, c, he, ht, hn, hc, hb'⟩ := h
  exact ⟨A, n, c, he, ht, hn, hc, hb.trans (hb'.mono hb.size)⟩

set_option maxHeartbeats 400000 in
theorem peer_any (s : Int) (w : World) : Calls Try.prog 14 #[.int .i64 s] w fun e w' => e = .returned (.int .i64 (peerOf s)) ∧ w = w' := by
  by_cases h : s = 1
  · have hp : peerOf s = 2 := if_pos h
    rw [hp]
    have d : (s == 1) = true := by simpa using h
    clear h hp
    go_enter Try.func14, Try.ntmps14
    go_wp2
    go_ret
    exact ⟨rfl, rfl⟩
  · have hp : peerOf s = 1 := if_neg h
    rw [hp]
    have d : (s == 1) = false := by simpa using h
    clear h hp
    go_enter Try.func14, Try.ntmps14
    go_wp2
    go_ret
    exact ⟨rfl, rfl⟩
set_option maxHeartbeats 400000 in
theorem refPeer_any (s : Int) (w : World) : Calls Try.prog 15 #[.int .i64 s] w fun e w' => e = .returned (.int .i64 (peerOf s)) ∧ w = w' := by
  by_cases h : s = 1
  · have hp : peerOf s = 2 := if_pos h
    rw [hp]
    have d : (s == 1) = true := by simpa using h
    clear h hp
    go_enter Try.func15, Try.ntmps15
    go_wp2
    go_ret
    exact ⟨rfl, rfl⟩
  · have hp : peerOf s = 1 := if_neg h
    rw [hp]
    have d : (s == 1) = false := by simpa using h
    clear h hp
    go_enter Try.func15, Try.ntmps15
    go_wp2
    go_ret
    exact ⟨rfl, rfl⟩
set_option maxHeartbeats 400000 in
theorem begins_any (s to : Int) (w : World) : Calls Try.prog 34 #[.int .i64 s, .int .i64 to] w fun e w' => e = .returned (.agg #[.int .i64 0, .int .i64 s, .int .i64 0, .int .i64 to]) ∧ Below w.heap.size w w' := by
  go_enter Try.func34, Try.ntmps34
  go_wp2
  exact bodyPost_ret (v := .agg #[.int .i64 0, .int .i64 s, .int .i64 0, .int .i64 to]) (by simp [results, Try.results34, go_sem]) rfl ⟨rfl, (Below.refl _ _).alloc (Nat.le_refl _) _⟩

set_option maxHeartbeats 1000000 in
theorem demote_any (A : Option Addr) (n c : Nat) (l : List Tag) (phase site to : Int) (w : World) (hl : TagsAt w A n l) (hn : n ≤ 1000000) (hc : n ≤ c) :
    Calls Try.prog 18 #[.int .i64 phase, .int .i64 site, .slice A n c, .int .i64 to] w (Gives w (demoteTags phase site l to)) := by
  cases hh : histB site l to with
  | false =>
    have hv : demoteTags phase site l to = ([], 1) := by rw [demoteTags, if_pos hh]
    rw [hv]
    have HH := Lib.hid hh
    clear hh hv
    go_enter Try.func18, Try.ntmps18
    go_wp2_with (go_at_call 32; refine (hist_any A n c l site to _ hl hn hc).mono ?_; rintro e w1 ⟨rfl, hb⟩; rw [HH.out])
    go_ret2
    exact gives_none hb 1
  | true =>
    have h32 : n ≤ 32 := by
      rw [histB, Bool.and_eq_true, Bool.and_eq_true] at hh
      have := (rightB_len hh.1.2).2; rw [hl.1] at this; exact this
    have HH := Lib.hid hh
    by_cases hp : phase = 1
    · have hv : demoteTags phase site l to = turnTags site l 0 (peerOf site) to := by rw [demoteTags, if_neg (by rw [hh]; simp), if_neg (by simpa using hp)]
      rw [hv]
      have d : (phase != 1) = false := by simpa using hp
      clear hh hv hp
      go_enter Try.func18, Try.ntmps18
      go_wp2_with (first
        | (go_at_call 32; refine (hist_any A n c l site to _ hl hn hc).mono ?_; rintro e w1 ⟨rfl, hb⟩; rw [HH.out])
        | (go_at_call 14; refine (peer_any site _).mono ?_; rintro e w2 ⟨rfl, rfl⟩)
        | (go_at_call 33; refine (more_any A n c l site ⟨0, 0, peerOf site, to⟩ _ (hl.below hb (Nat.le_refl _)) h32).mono ?_; rintro e w3 ⟨A3, n3, c3, rfl, ht3, hn3, hc3, hb3⟩)
        | fail)
      go_ret2
      exact ⟨A3, n3, c3, rfl, ht3, hn3, hc3, hb.trans (hb3.mono hb.size)⟩
    · have hv : demoteTags phase site l to = ([], 9) := by rw [demoteTags, if_neg (by rw [hh]; simp), if_pos hp]
      rw [hv]
      have d : (phase != 1) = true := by simpa using hp
      clear hh hv hp
      go_enter Try.func18, Try.ntmps18
      go_wp2_with (go_at_call 32; refine (hist_any A n c l site to _ hl hn hc).mono ?_; rintro e w1 ⟨rfl, hb⟩; rw [HH.out])
      go_ret2
      exact gives_none hb 9
end Go.Proofs.Ytagfdgdoboncfaa
