import Derived.Test.YtagfdgdoboncfaaTurn
import Derived.Test.YtagfdgdoboncfaaRoleFns
namespace Go.Proofs.Ytagfdgdoboncfaa
open Go.RowKit
set_option maxHeartbeats 1000000 in
theorem force_any (A : Option Addr) (n c : Nat) (l : List Tag) (phase site to : Int) (w : World) (hl : TagsAt w A n l) (hn : n ≤ 1000000) (hc : n ≤ c) :
    Calls Try.prog 20 #[.int .i64 phase, .int .i64 site, .slice A n c, .int .i64 to] w (Gives w (forceTags phase site l to)) := by
  cases hh : histB site l to with
  | false =>
    have hv : forceTags phase site l to = ([], 1) := by rw [forceTags, if_pos hh]
    rw [hv]
    have HH := Lib.hid hh
    clear hh hv
    go_enter Try.func20, Try.ntmps20
    go_wp2_with (go_at_call 32; refine (hist_any A n c l site to _ hl hn hc).mono ?_; rintro e w1 ⟨rfl, hb⟩; rw [HH.out])
    go_ret2
    exact gives_none hb 1
  | true =>
    have h32 := (hist_32 hl.1 hh).2
    have HH := Lib.hid hh
    have key := force_ways (phase := phase) hh
    clear hh
    rcases key with ⟨rfl, hv⟩ | ⟨rfl, hv⟩ | ⟨d2, d4, d3, d5, hv⟩ | ⟨d2, d4, d3, d5, hv⟩ | ⟨d2, d4, d3, hv⟩
    all_goals
      rw [hv]
      clear hv
      go_enter Try.func20, Try.ntmps20
      go_wp2_with (first
        | (go_at_call 32; refine (hist_any A n c l site to _ hl hn hc).mono ?_; rintro e w1 ⟨rfl, hb⟩; rw [HH.out])
        | (go_at_call 34; refine (begins_any site to _).mono ?_; rintro e w2 ⟨rfl, hb2⟩)
        | (go_at_call 33; refine (more_any A n c l site ⟨0, site, 0, to⟩ _ (hl.below (hb.trans (hb2.mono hb.size)) (Nat.le_refl _)) h32).mono ?_; rintro e w3 ⟨A3, n3, c3, rfl, ht3, hn3, hc3, hb3⟩)
        | fail)
      go_ret2
      first
        | exact gives_none hb _
        | (have hbb := hb.trans (hb2.mono hb.size)
           exact ⟨A3, n3, c3, rfl, ht3, hn3, hc3, hbb.trans (hb3.mono hbb.size)⟩)

set_option maxHeartbeats 2000000 in
theorem promote_any (A : Option Addr) (n c : Nat) (l : List Tag) (phase site to : Int) (w : World) (hl : TagsAt w A n l) (hn : n ≤ 1000000) (hc : n ≤ c) :
    Calls Try.prog 19 #[.int .i64 phase, .int .i64 site, .slice A n c, .int .i64 to] w (Gives w (promoteTags phase site l to)) := by
  cases hh : histB site l to with
  | false =>
    have hv : promoteTags phase site l to = ([], 1) := by rw [promoteTags, if_pos hh]
    rw [hv]
    have HH := Lib.hid hh
    clear hh hv
    go_enter Try.func19, Try.ntmps19
    go_wp2_with (go_at_call 32; refine (hist_any A n c l site to _ hl hn hc).mono ?_; rintro e w1 ⟨rfl, hb⟩; rw [HH.out])
    go_ret2
    exact gives_none hb 1
  | true =>
    obtain ⟨h1, h32⟩ := hist_32 hl.1 hh
    obtain ⟨m, rfl⟩ : ∃ m, n = m + 1 := ⟨n - 1, by omega⟩
    obtain ⟨b, off, x, rfl, hB, hx, c0, c1, c2, c3⟩ := hl.at_ (k := m) (by omega)
    have HH := Lib.hid hh
    have key := promote_ways (phase := phase) hl.1 hx hh
    clear hh hx
    rcases key with ⟨rfl, hv⟩ | ⟨rfl, hv⟩ | ⟨d2, d4, d3, hv⟩ | ⟨d2, d4, d3, d5, hv⟩ | ⟨d2, d4, d3, d5, d6, hv⟩ | ⟨d2, d4, d3, d5, d6, d7, hv⟩ | ⟨d2, d4, d3, d5, d6, d7, hv⟩
    all_goals
      rw [hv]
      clear hv
      go_enter Try.func19, Try.ntmps19
      go_wp2_with (first
        | (go_at_call 32
           refine (hist_any _ (m + 1) c l site to _ hl hn hc).mono ?_
           rintro e w1 ⟨rfl, hb⟩
           rw [HH.out]
           have c0' := (hb.cell (p := ⟨b, off + m * 4, none⟩) hB).trans c0
           have c1' := (hb.cell (p := ⟨b, off + m * 4 + 1, none⟩) hB).trans c1
           have c2' := (hb.cell (p := ⟨b, off + m * 4 + 2, none⟩) hB).trans c2
           have c3' := (hb.cell (p := ⟨b, off + m * 4 + 3, none⟩) hB).trans c3)
        | (go_at_call 34; refine (begins_any site to _).mono ?_; rintro e w2 ⟨rfl, hb2⟩)
        | (go_at_call 33
           refine (more_any _ (m + 1) c l site ⟨0, site, 0, to⟩ _ (hl.below ((hb.alloc hb.size _).trans (hb2.mono (by simp; have := hb.size; omega))) (Nat.le_refl _)) h32).mono ?_
           rintro e w3 ⟨A3, n3, c3, rfl, ht3, hn3, hc3, hb3⟩)
        | fail)
      go_ret2
      first
        | exact gives_none (hb.alloc hb.size _) _
        | (have hbb := (hb.alloc hb.size (.cells #[.int .i64 x.id, .int .i64 x.own, .int .i64 x.heir, .int .i64 x.at_] 50)).trans (hb2.mono (by simp; have := hb.size; omega))
           exact ⟨A3, n3, c3, rfl, ht3, hn3, hc3, hbb.trans (hb3.mono hbb.size)⟩)
        | fail
end Go.Proofs.Ytagfdgdoboncfaa
