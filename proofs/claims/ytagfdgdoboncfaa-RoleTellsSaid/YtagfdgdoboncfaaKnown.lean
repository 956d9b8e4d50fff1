import Derived.Test.YtagfdgdoboncfaaFresh
import Derived.Test.YtagfdgdoboncfaaSame
namespace Go.Proofs.Ytagfdgdoboncfaa
open Go.RowKit
theorem known_tags : demoteTags 1 1 [⟨1, 1, 0, 0⟩] 3 = ([⟨1, 1, 0, 0⟩, ⟨3, 0, 2, 3⟩], 0) := by kernel_rfl
set_option maxHeartbeats 400000 in
theorem may_primary (w : World) : Calls Try.prog 16 #[.int .i64 1] w fun e w' => e = .returned (.int .i64 0) ∧ w = w' := by
  go_enter Try.func16, Try.ntmps16
  go_wp2
  go_ret
  exact ⟨rfl, rfl⟩
theorem one_tag (w : World) (t : Tag) {g : Nat} (hgz : g = w.heap.size) : TagsAt (w.alloc (.cells #[.int .i64 t.id, .int .i64 t.own, .int .i64 t.heir, .int .i64 t.at_] 50)) (some ⟨g, 0, none⟩) 1 [t] := by
  subst hgz
  refine ⟨rfl, fun _ => ⟨w.heap.size, 0, rfl, by simp, fun i x hi => ?_⟩⟩
  have hi0 : i = 0 := by
    obtain ⟨h, _⟩ := List.getElem?_eq_some_iff.1 hi
    simp at h; exact h
  subst hi0
  simp at hi
  subst hi
  have hg := heap_alloc_new w (.cells #[.int .i64 t.id, .int .i64 t.own, .int .i64 t.heir, .int .i64 t.at_] 50)
  refine ⟨?_, ?_, ?_, ?_⟩ <;> (rw [cell_of_row _ _ _ _ _ _ hg]; simp)
set_option maxHeartbeats 2000000 in
theorem known_true (w : World) : Calls Try.prog 7 #[] w fun e w' => e = .returned (.bool true) ∧ Below w.heap.size w w' := by
  go_enter Try.func7, Try.ntmps7
  go_wp2_with fail
  refine (new_fresh 10000 _ (by omega) (by omega)).mono ?_
  rintro e w1 ⟨p, rfl, hf, hb1⟩
  go_wp2_with fail
  refine (load_fresh p 10000 _ hf).mono ?_
  rintro e w2 ⟨rfl, hb2⟩
  have hw2 : Below w.heap.size w w2 := hb1.trans (hb2.mono hb1.size)
  clear hb1 hb2 hf
  go_wp2_with fail
  refine (demote_any _ 1 _ [⟨1, 1, 0, 0⟩] 1 1 3 _ (one_tag _ ⟨1, 1, 0, 0⟩ (by simp)) (by omega) (Nat.le_refl _)).mono ?_
  rw [known_tags]
  rintro e w3 ⟨A3, n3, c3, rfl, ht3, hn3, hc3, hb3⟩
  have hn : n3 = 2 := ht3.1.symm
  subst hn
  obtain ⟨b, off, x, rfl, hB, hx, x0, x1, x2, x3⟩ := ht3.at_ (k := 1) (by omega)
  simp at hx
  subst hx
  have hw3 : Below w.heap.size w w3 := ((hw2.alloc hw2.size _).alloc (by have := hw2.size; simp; omega) _).trans (hb3.mono (by have := hw2.size; simp; omega))
  have heq := tag_eqIn ⟨3, 0, 2, 3⟩ ⟨3, 0, 2, 3⟩
  have hgd := tag_eqGuard
  clear hb3 hw2 ht3
  simp only [Nat.one_mul] at x0 x1 x2 x3
  go_wp2_with (first
    | (go_at_call 16; refine (may_primary _).mono ?_; rintro e w4 ⟨rfl, rfl⟩)
    | (go_at_call 14; refine (peer_any 1 _).mono ?_; rintro e w4 ⟨rfl, rfl⟩)
    | fail)
  go_ret
  exact ⟨rfl, hw3⟩
end Go.Proofs.Ytagfdgdoboncfaa
