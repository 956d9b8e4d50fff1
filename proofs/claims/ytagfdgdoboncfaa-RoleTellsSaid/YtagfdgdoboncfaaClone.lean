import Derived.Test.YtagfdgdoboncfaaTagsOwn
namespace Go.Proofs.Ytagfdgdoboncfaa
open Go.RowKit
set_option maxHeartbeats 1000000 in
theorem clone_any (A : Option Addr) (n c : Nat) (l : List Tag) (w : World) (hl : TagsAt w A n l) (hn : n ≤ 1000000) :
    Calls Try.prog 45 #[.slice A n c] w fun e w' => ∃ v, e = .returned v ∧ w'.ownsRow w.heap.size 50 4 v n (flat l) ∧ Below w.heap.size w w' := by
  cases A with
  | none =>
    have h0 : n = 0 := by
      rcases Nat.eq_zero_or_pos n with h | h
      · exact h
      · obtain ⟨_, _, e, _⟩ := hl.2 h; cases e
    subst h0
    have hn : l = [] := List.eq_nil_of_length_eq_zero hl.1
    subst hn
    have hq := @Lib.run_eql_slice_nil Try.prog
    go_enter Try.func45, Try.ntmps45
    go_wp2
    go_ret
    exact ⟨_, rfl, World.ownsRow_nil _ _ _ _, Below.refl _ _⟩
  | some ad =>
    obtain ⟨i0, hi0, hz0, hz1, hz2⟩ := info_parts tag_info
    have hq := @Lib.run_eql_slice_nil Try.prog
    go_enter Try.func45, Try.ntmps45
    have hown := World.ownsRow_made (base := w.heap.size) (e := 50) (size := 4) w #[] 0 (Nat.le_refl _) (Nat.zero_le _) rfl
    go_wp2_with (at_builtin
                 refine wpList_append_src _ rfl (.tmp 5) (.tmp 6) _ rfl w.heap.size 50 i0 _ 4 32 Try.underlying24 hi0 hz0 hz1 hz2 rfl (by omega) _ 0 [] rfl hown (some ad) n c (flat l) rfl
                   (hl.below (((Below.refl _ _).alloc (Nat.le_refl _) _)) (Nat.le_refl _)).src (fun h => by cases h) (by simp only [maxLen]; omega) (by omega) (by simp) ?_
                 intro v1 w1 hown1 hg1 hat1)
    go_ret
    refine ⟨_, rfl, by simpa using hown1, ((Below.refl _ _).alloc (Nat.le_refl _) _).grown hg1 (by simp) (fun k hk => ?_)⟩
    have hk' : some w.heap.size = some k := hk
    injection hk' with hk'
    omega
end Go.Proofs.Ytagfdgdoboncfaa
