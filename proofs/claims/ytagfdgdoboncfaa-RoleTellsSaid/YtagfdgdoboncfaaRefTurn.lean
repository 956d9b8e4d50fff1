import Derived.Test.YtagfdgdoboncfaaPromote
import Derived.Test.YtagfdgdoboncfaaNextID
namespace Go.Proofs.Ytagfdgdoboncfaa
open Go.RowKit
theorem slice_cap {w : World} {A : Option Addr} {n c : Nat} {l : List Tag} (hl : TagsAt w A n l) (hn : 1 ≤ n) : A = none → c = 0 := by
  obtain ⟨b, off, e, _⟩ := hl.2 hn
  intro h; rw [h] at e; cases e

set_option maxHeartbeats 1000000 in
theorem refDemote_any (A : Option Addr) (n c : Nat) (l : List Tag) (phase site to : Int) (w : World) (hl : TagsAt w A n l) (hn : n ≤ 1000000) :
    Calls Try.prog 30 #[.int .i64 phase, .int .i64 site, .slice A n c, .int .i64 to] w (Gives w (demoteTags phase site l to)) := by
  cases hh : histB site l to with
  | false =>
    have hv : demoteTags phase site l to = ([], 1) := by rw [demoteTags, if_pos hh]
    rw [hv]
    have HH := Lib.hid hh
    clear hh hv
    go_enter Try.func30, Try.ntmps30
    go_wp2_with (go_at_call 42; refine (fits_any A n c l site to _ hl hn).mono ?_; rintro e w1 ⟨rfl, hb⟩; rw [HH.out])
    go_ret2
    exact gives_none hb 1
  | true =>
    obtain ⟨h1, h32⟩ := hist_32 hl.1 hh
    have hA := slice_cap (c := c) hl h1
    have HA := Lib.hid hA
    have HH := Lib.hid hh
    clear hA
    by_cases hp : phase = 1
    · have hv : demoteTags phase site l to = turnTags site l 0 (peerOf site) to := by rw [demoteTags, if_neg (by rw [hh]; simp), if_neg (by simpa using hp)]
      rw [hv]
      have d : (phase != 1) = false := by simpa using hp
      clear hh hv hp
      go_enter Try.func30, Try.ntmps30
      go_wp2_with (first
        | (go_at_call 42; refine (fits_any A n c l site to _ hl hn).mono ?_; rintro e w1 ⟨rfl, hb⟩; rw [HH.out])
        | (go_at_call 15; refine (refPeer_any site _).mono ?_; rintro e w2 ⟨rfl, rfl⟩)
        | (go_at_call 28; refine (nextID_any A n c l site _ (hl.below hb (Nat.le_refl _)) hn).mono ?_; rintro e w2 ⟨rfl, rfl⟩)
        | (go_at_call 43; refine (refMore_any A n c l ⟨nextId l site, 0, peerOf site, to⟩ _ (hl.below hb (Nat.le_refl _)) h32 HA.out).mono ?_; rintro e w3 ⟨A3, n3, c3, rfl, ht3, hn3, hc3, hb3⟩)
        | fail)
      go_ret2
      exact ⟨A3, n3, c3, rfl, ht3, hn3, hc3, hb.trans (hb3.mono hb.size)⟩
    · have hv : demoteTags phase site l to = ([], 9) := by rw [demoteTags, if_neg (by rw [hh]; simp), if_pos hp]
      rw [hv]
      have d : (phase != 1) = true := by simpa using hp
      clear hh hv hp
      go_enter Try.func30, Try.ntmps30
      go_wp2_with (go_at_call 42; refine (fits_any A n c l site to _ hl hn).mono ?_; rintro e w1 ⟨rfl, hb⟩; rw [HH.out])
      go_ret2
      exact gives_none hb 9

set_option maxHeartbeats 2000000 in
theorem refForce_any (A : Option Addr) (n c : Nat) (l : List Tag) (phase site to : Int) (w : World) (hl : TagsAt w A n l) (hn : n ≤ 1000000) :
    Calls Try.prog 29 #[.int .i64 phase, .int .i64 site, .slice A n c, .int .i64 to, .bool true] w (Gives w (forceTags phase site l to)) := by
  cases hh : histB site l to with
  | false =>
    have hv : forceTags phase site l to = ([], 1) := by rw [forceTags, if_pos hh]
    rw [hv]
    have HH := Lib.hid hh
    clear hh hv
    go_enter Try.func29, Try.ntmps29
    go_wp2_with (go_at_call 42; refine (fits_any A n c l site to _ hl hn).mono ?_; rintro e w1 ⟨rfl, hb⟩; rw [HH.out])
    go_ret2
    exact gives_none hb 1
  | true =>
    obtain ⟨h1, h32⟩ := hist_32 hl.1 hh
    have hA := slice_cap (c := c) hl h1
    have HA := Lib.hid hA
    clear hA
    obtain ⟨m, rfl⟩ : ∃ m, n = m + 1 := ⟨n - 1, by omega⟩
    obtain ⟨b, off, x, rfl, hB, hx, c0, c1, c2, c3⟩ := hl.at_ (k := m) (by omega)
    have HH := Lib.hid hh
    have key := force_ways (phase := phase) hh
    clear hh hx
    rcases key with ⟨rfl, hv⟩ | ⟨rfl, hv⟩ | ⟨d2, d4, d3, d5, hv⟩ | ⟨d2, d4, d3, d5, hv⟩ | ⟨d2, d4, d3, hv⟩
    all_goals
      rw [hv]
      clear hv
      try (have d5' := congrArg (fun b => !b) d5; simp only [bne, Bool.not_not, Bool.not_true, Bool.not_false] at d5')
      go_enter Try.func29, Try.ntmps29
      go_wp2_with (first
        | (go_at_call 42
           refine (fits_any _ (m + 1) c l site to _ hl hn).mono ?_
           rintro e w1 ⟨rfl, hb⟩
           rw [HH.out]
           have c0' := (hb.cell (p := ⟨b, off + m * 4, none⟩) hB).trans c0
           have c1' := (hb.cell (p := ⟨b, off + m * 4 + 1, none⟩) hB).trans c1
           have c2' := (hb.cell (p := ⟨b, off + m * 4 + 2, none⟩) hB).trans c2
           have c3' := (hb.cell (p := ⟨b, off + m * 4 + 3, none⟩) hB).trans c3)
        | (go_at_call 28; refine (nextID_any _ (m + 1) c l site _ (hl.below (hb.alloc hb.size _) (Nat.le_refl _)) hn).mono ?_; rintro e w2 ⟨rfl, rfl⟩)
        | (go_at_call 43
           refine (refMore_any _ (m + 1) c l ⟨nextId l site, site, 0, to⟩ _ (hl.below (hb.alloc hb.size _) (Nat.le_refl _)) h32 HA.out).mono ?_
           rintro e w3 ⟨A3, n3, c3, rfl, ht3, hn3, hc3, hb3⟩)
        | fail)
      go_ret2
      first
        | exact gives_none hb _
        | (have hbb := (hb.alloc hb.size (.cells #[.int .i64 x.id, .int .i64 x.own, .int .i64 x.heir, .int .i64 x.at_] 50))
           exact ⟨A3, n3, c3, rfl, ht3, hn3, hc3, hbb.trans (hb3.mono hbb.size)⟩)
        | fail

set_option maxHeartbeats 2000000 in
theorem refPromote_any (A : Option Addr) (n c : Nat) (l : List Tag) (phase site to : Int) (w : World) (hl : TagsAt w A n l) (hn : n ≤ 1000000) :
    Calls Try.prog 29 #[.int .i64 phase, .int .i64 site, .slice A n c, .int .i64 to, .bool false] w (Gives w (promoteTags phase site l to)) := by
  cases hh : histB site l to with
  | false =>
    have hv : promoteTags phase site l to = ([], 1) := by rw [promoteTags, if_pos hh]
    rw [hv]
    have HH := Lib.hid hh
    clear hh hv
    go_enter Try.func29, Try.ntmps29
    go_wp2_with (go_at_call 42; refine (fits_any A n c l site to _ hl hn).mono ?_; rintro e w1 ⟨rfl, hb⟩; rw [HH.out])
    go_ret2
    exact gives_none hb 1
  | true =>
    obtain ⟨h1, h32⟩ := hist_32 hl.1 hh
    have hA := slice_cap (c := c) hl h1
    have HA := Lib.hid hA
    clear hA
    obtain ⟨m, rfl⟩ : ∃ m, n = m + 1 := ⟨n - 1, by omega⟩
    obtain ⟨b, off, x, rfl, hB, hx, c0, c1, c2, c3⟩ := hl.at_ (k := m) (by omega)
    have HH := Lib.hid hh
    have key := promote_ways (phase := phase) hl.1 hx hh
    clear hh hx
    rcases key with ⟨rfl, hv⟩ | ⟨rfl, hv⟩ | ⟨d2, d4, d3, hv⟩ | ⟨d2, d4, d3, d5, hv⟩ | ⟨d2, d4, d3, d5, d6, hv⟩ | ⟨d2, d4, d3, d5, d6, d7, hv⟩ | ⟨d2, d4, d3, d5, d6, d7, hv⟩
    all_goals
      rw [hv]
      clear hv
      go_enter Try.func29, Try.ntmps29
      go_wp2_with (first
        | (go_at_call 42
           refine (fits_any _ (m + 1) c l site to _ hl hn).mono ?_
           rintro e w1 ⟨rfl, hb⟩
           rw [HH.out]
           have c0' := (hb.cell (p := ⟨b, off + m * 4, none⟩) hB).trans c0
           have c1' := (hb.cell (p := ⟨b, off + m * 4 + 1, none⟩) hB).trans c1
           have c2' := (hb.cell (p := ⟨b, off + m * 4 + 2, none⟩) hB).trans c2
           have c3' := (hb.cell (p := ⟨b, off + m * 4 + 3, none⟩) hB).trans c3)
        | (go_at_call 28; refine (nextID_any _ (m + 1) c l site _ (hl.below (hb.alloc hb.size _) (Nat.le_refl _)) hn).mono ?_; rintro e w2 ⟨rfl, rfl⟩)
        | (go_at_call 43
           refine (refMore_any _ (m + 1) c l ⟨nextId l site, site, 0, to⟩ _ (hl.below (hb.alloc hb.size _) (Nat.le_refl _)) h32 HA.out).mono ?_
           rintro e w3 ⟨A3, n3, c3, rfl, ht3, hn3, hc3, hb3⟩)
        | fail)
      go_ret2
      first
        | exact gives_none hb _
        | exact gives_none (hb.alloc hb.size _) _
        | (have hbb := (hb.alloc hb.size (.cells #[.int .i64 x.id, .int .i64 x.own, .int .i64 x.heir, .int .i64 x.at_] 50))
           exact ⟨A3, n3, c3, rfl, ht3, hn3, hc3, hbb.trans (hb3.mono hbb.size)⟩)
        | fail
end Go.Proofs.Ytagfdgdoboncfaa
