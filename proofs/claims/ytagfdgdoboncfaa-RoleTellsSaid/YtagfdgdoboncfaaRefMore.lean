import Derived.Test.YtagfdgdoboncfaaMore
namespace Go.Proofs.Ytagfdgdoboncfaa
open Go.RowKit
set_option maxRecDepth 100000 in
set_option maxHeartbeats 1000000 in
theorem refMore_any (A : Option Addr) (n c : Nat) (l : List Tag) (t : Tag) (w : World) (hl : TagsAt w A n l) (hn : n ≤ 32) (hA : A = none → c = 0) :
    Calls Try.prog 43 #[.slice A n c, t.val] w (Gives w (moreTags l t)) := by
  unfold Tag.val
  obtain ⟨i0, hi0, hz0, hz1, hz2⟩ := info_parts tag_info
  by_cases h32 : n = 32
  · subst h32
    have hm : moreTags l t = ([], 6) := by rw [moreTags, if_pos (Or.inl hl.1)]
    rw [hm]
    clear hm
    go_enter Try.func43, Try.ntmps43
    go_wp2_with fail
    go_ret2
    exact ⟨none, 0, 0, rfl, TagsAt.nil _, by omega, Nat.le_refl _, (Below.refl _ _).alloc (Nat.le_refl _) _⟩
  · by_cases hbig : 1073741824 < t.id
    · have hB32 : decide (32 ≤ (n : Int)) = false := by simp; omega
      have hBig : decide (1073741824 < t.id) = true := by simpa using hbig
      have hm : moreTags l t = ([], 6) := by rw [moreTags, if_pos (Or.inr hbig)]
      rw [hm]
      clear hm
      go_enter Try.func43, Try.ntmps43
      go_wp2_with fail
      go_ret2
      exact ⟨none, 0, 0, rfl, TagsAt.nil _, by omega, Nat.le_refl _, (Below.refl _ _).alloc (Nat.le_refl _) _⟩
    · have hB32 : decide (32 ≤ (n : Int)) = false := by simp; omega
      have hBig : decide (1073741824 < t.id) = false := by simpa using hbig
      have hm : moreTags l t = (l ++ [t], 0) := by
        rw [moreTags, if_neg (by rw [hl.1]; omega)]
      rw [hm]
      clear hm
      have hmax : n + 1 ≤ maxLen := by simp only [maxLen]; omega
      have hbyt : (n + 1) * 32 ≤ 140737488355328 := by omega
      have hmax0 : 0 + n ≤ maxLen := by simp only [maxLen]; omega
      have hbyt0 : (0 + n) * 32 ≤ 140737488355328 := by omega
      have hone : ∀ u ∈ [Value.int .i64 t.id, .int .i64 t.own, .int .i64 t.heir, .int .i64 t.at_], u.oneCell' = true := by
        intro u hu
        simp only [List.mem_cons, List.not_mem_nil, or_false] at hu
        rcases hu with rfl | rfl | rfl | rfl <;> rfl
      have hnn : ∀ a : Addr, some a = none → (1 : Nat) = 0 := fun a h => by cases h
      go_enter Try.func43, Try.ntmps43
      go_wp2_with fail
      have hg : (w.alloc (.cells #[.int .i64 t.id, .int .i64 t.own, .int .i64 t.heir, .int .i64 t.at_] 50)).heap[w.heap.size]? = some (.cells #[.int .i64 t.id, .int .i64 t.own, .int .i64 t.heir, .int .i64 t.at_] 50) := heap_alloc_new w _
      have HS : Below w.heap.size w (w.alloc (.cells #[.int .i64 t.id, .int .i64 t.own, .int .i64 t.heir, .int .i64 t.at_] 50)) := (Below.refl _ _).alloc (Nat.le_refl _) _
      have HSz : w.heap.size < (w.alloc (.cells #[.int .i64 t.id, .int .i64 t.own, .int .i64 t.heir, .int .i64 t.at_] 50)).heap.size := by simp
      generalize w.alloc (.cells #[.int .i64 t.id, .int .i64 t.own, .int .i64 t.heir, .int .i64 t.at_] 50) = w2 at *
      have b0 := cell_of_row w2 _ 0 _ _ _ hg
      have b1 := cell_of_row w2 _ 1 _ _ _ hg
      have b2 := cell_of_row w2 _ 2 _ _ _ hg
      have b3 := cell_of_row w2 _ 3 _ _ _ hg
      simp at b0 b1 b2 b3
      have HG := Lib.hid hg
      clear hg
      go_region_held3 (fun w' => w'.cell? ⟨w.heap.size, 0, none⟩ = some (.int .i64 t.id) ∧ w'.cell? ⟨w.heap.size, 1, none⟩ = some (.int .i64 t.own) ∧ w'.cell? ⟨w.heap.size, 2, none⟩ = some (.int .i64 t.heir) ∧ w'.cell? ⟨w.heap.size, 3, none⟩ = some (.int .i64 t.at_))
        (first
          | go_keep
          | (have hz5 : some w.heap.size ≠ v4.ownBlock := by
               intro e; have := hown4.lt _ e.symm; omega
             have hz6 := hg4.size
             simp at hz6
             go_split_ands
             refine ⟨?_, ?_, ?_, ?_⟩ <;> (refine (hg5.cell_far _ ?_ hz5).trans ?_ <;> (first | assumption | (simp; omega) | fail)))
          | (go_split_ands
             refine ⟨?_, ?_, ?_, ?_⟩ <;> (refine (hg4.cell_far _ ?_ ?_).trans ?_ <;> (first | assumption | (simp; omega) | (simp [Value.ownBlock]; omega) | fail)))
          | fail)
        (first
          | (have _g := hown4
             refine step_append_src _ (by rfl) (.tmp 16) (.tmp 18) 24 (by rfl) w2.heap.size 50 i0 _ 4 32 Try.underlying24 hi0 hz0 hz1 hz2 rfl (by omega) v4 n (flat l) (by rfl) ?_ _ 1 1 [.int .i64 t.id, .int .i64 t.own, .int .i64 t.heir, .int .i64 t.at_] (by rfl) ⟨rfl, ?_, hone⟩ (hnn _) hmax hbyt ?_ ?_
             · first | simpa using hown4 | simpa using hown4.alloc _ | fail
             · first | exact fun _ => ⟨_, rfl, World.news_of_block (heap_alloc_new w4 _)⟩ | exact fun _ => ⟨_, rfl, World.news_of_block ((hg4.block _ (by simp) (by simp [Value.ownBlock])).trans (heap_new_at (by simp) _))⟩ | exact fun _ => ⟨_, rfl, World.news_of_block ((hg4.block _ (by simp; omega) (by simp [Value.ownBlock])).trans ((heap_alloc_old (by simp) _).trans (heap_new_at (by simp) _)))⟩ | fail
             · first | (have := hg4.size; simp at this ⊢; omega) | fail
             intro v5 w5 hown5 hg5 hat5)
          | (refine step_append_src _ (by rfl) (.tmp 14) (.tmp 15) 24 (by rfl) w2.heap.size 50 i0 _ 4 32 Try.underlying24 hi0 hz0 hz1 hz2 rfl (by omega) _ 0 [] (by rfl) ?_ A n c (flat l) (by rfl) ?_ hA hmax0 hbyt0 ?_ ?_
             · first | exact owns_empty (by simp) (by simp) | exact (owns_empty (by simp) (by simp)).alloc _ | fail
             · first | exact (hl.below HS.drew (Nat.le_refl _)).src | exact (hl.below (HS.drew.alloc (Nat.le_of_lt HSz) _) (Nat.le_refl _)).src | exact (hl.below ((HS.drew.alloc (Nat.le_of_lt HSz) _).alloc (by simp; omega) _) (Nat.le_refl _)).src | fail
             · first | (simp; done) | (simp; omega) | fail
             intro v4 w4 hown4 hg4 hat4
             simp only [Nat.zero_add, List.nil_append] at hown4
             change World.grownBy _ _ (Value.slice (some ⟨_, 0, none⟩) 0 0).ownBlock at hg4
             clear hat4)
          | fail)
      all_goals
        go_wp2
        go_ret2
        refine gives_own hown5 (by omega) ?_ 0
        have hz4 := hg4.size
        simp at hz4
        have hb4 : Below w.heap.size w w4 := by
          refine Below.grown ?_ hg4 ?_ ?_
          · first | exact (HS.drew.alloc (Nat.le_of_lt HSz) _) | exact ((HS.drew.alloc (Nat.le_of_lt HSz) _).alloc (by simp; omega) _) | fail
          · first | (simp; omega) | fail
          · intro k hk
            simp [Value.ownBlock] at hk
            omega
        refine Below.grown ?_ hg5 ?_ ?_
        · first | exact hb4 | exact hb4.alloc (by omega) _ | fail
        · first | omega | (simp; omega) | fail
        · intro k hk
          have := hown4.lt _ hk
          omega
end Go.Proofs.Ytagfdgdoboncfaa
