import Derived.Test.YtagfdgdoboncfaaClone
import Derived.Test.YtagfdgdoboncfaaNext
namespace Go.Proofs.Ytagfdgdoboncfaa
open Go.RowKit
/-- Two results: a slice of tags that reads as r.1, and the refusal r.2; nothing that was there has turned. -/
def Gives (w : World) (r : List Tag × Int) (e : Ending) (w' : World) : Prop :=
  ∃ A n c, e = .returned (.tuple #[.slice A n c, .int .i64 r.2]) ∧ TagsAt w' A n r.1 ∧ n ≤ 1000 ∧ n ≤ c ∧ Below w.heap.size w w'

theorem gives_own {w w' : World} {base e n : Nat} {v : Value} {l : List Tag} {t : Tag} (hown : w'.ownsRow base e 4 v (n + 1) (flat l ++ t.vals)) (hn : n + 1 ≤ 1000) (hb : Below w.heap.size w w') (err : Int) :
    Gives w (l ++ [t], err) (.returned (.tuple #[v, .int .i64 err])) w' := by
  have hf : flat l ++ t.vals = flat (l ++ [t]) := by simp [flat]
  rw [hf] at hown
  rcases hown.2 with ⟨_, h⟩ | ⟨g, cap, cur, hv, _, _, hc, _, _, _⟩
  · omega
  · subst hv
    exact ⟨_, _, _, rfl, TagsAt.of_own hown, hn, hc, hb⟩
set_option maxRecDepth 100000 in
set_option maxHeartbeats 1000000 in
theorem more_any (A : Option Addr) (n c : Nat) (l : List Tag) (s : Int) (t : Tag) (w : World) (hl : TagsAt w A n l) (hn : n ≤ 32) :
    Calls Try.prog 33 #[.int .i64 s, .slice A n c, t.val] w (Gives w (moreTags l ⟨nextId l s, t.own, t.heir, t.at_⟩)) := by
  unfold Tag.val
  obtain ⟨i0, hi0, hz0, hz1, hz2⟩ := info_parts tag_info
  obtain ⟨id, hid⟩ : ∃ id, nextId l s = id := ⟨_, rfl⟩
  by_cases h32 : n = 32
  · subst h32
    have hm : moreTags l ⟨nextId l s, t.own, t.heir, t.at_⟩ = ([], 6) := by rw [moreTags, if_pos (Or.inl hl.1)]
    rw [hm]
    clear hm
    go_enter Try.func33, Try.ntmps33
    go_wp2_with fail
    refine (next_any A 32 c l s _ ?ht (by omega)).mono ?_
    case ht => exact hl.below ((Below.refl _ _).alloc (Nat.le_refl _) _) (Nat.le_refl _)
    rintro e w1 ⟨rfl, hb⟩
    rw [hid]
    have hg := block_behind hb
    have b0 := cell_of_row w1 _ 0 _ _ _ hg
    have f0 := frozen_of_row hg 0
    simp at b0
    have HB : Below w.heap.size w w1 := ((Below.refl _ _).alloc (Nat.le_refl _) _).trans (hb.mono (by simp))
    clear hg hb
    go_wp2_with fail
    go_ret2
    exact ⟨none, 0, 0, rfl, TagsAt.nil _, by omega, Nat.le_refl _, HB.setCell (Nat.le_refl _) _⟩
  · by_cases hbig : 1073741824 < id
    · have hB32 : ((n : Int) == 32) = false := by rw [beq_eq_false_iff_ne]; omega
      have hBig : decide (1073741824 < id) = true := by simpa using hbig
      have hm : moreTags l ⟨nextId l s, t.own, t.heir, t.at_⟩ = ([], 6) := by rw [moreTags, if_pos (Or.inr (by rw [hid]; exact hbig))]
      rw [hm]
      clear hm
      go_enter Try.func33, Try.ntmps33
      go_wp2_with fail
      refine (next_any A n c l s _ ?ht (by omega)).mono ?_
      case ht => exact hl.below ((Below.refl _ _).alloc (Nat.le_refl _) _) (Nat.le_refl _)
      rintro e w1 ⟨rfl, hb⟩
      rw [hid]
      have hg := block_behind hb
      have b0 := cell_of_row w1 _ 0 _ _ _ hg
      have f0 := frozen_of_row hg 0
      simp at b0
      have HB : Below w.heap.size w w1 := ((Below.refl _ _).alloc (Nat.le_refl _) _).trans (hb.mono (by simp))
      clear hg hb
      go_wp2_with fail
      go_ret2
      exact ⟨none, 0, 0, rfl, TagsAt.nil _, by omega, Nat.le_refl _, HB.setCell (Nat.le_refl _) _⟩
    · have hB32 : ((n : Int) == 32) = false := by rw [beq_eq_false_iff_ne]; omega
      have hBig : decide (1073741824 < id) = false := by simpa using hbig
      have hm : moreTags l ⟨nextId l s, t.own, t.heir, t.at_⟩ = (l ++ [⟨id, t.own, t.heir, t.at_⟩], 0) := by
        rw [moreTags, if_neg (by show ¬ (l.length = 32 ∨ 1073741824 < nextId l s); rw [hid, hl.1]; omega), hid]
      rw [hm]
      clear hm
      go_enter Try.func33, Try.ntmps33
      go_wp2_with fail
      refine (next_any A n c l s _ ?ht (by omega)).mono ?_
      case ht => exact hl.below ((Below.refl _ _).alloc (Nat.le_refl _) _) (Nat.le_refl _)
      rintro e w1 ⟨rfl, hb⟩
      rw [hid]
      have hg := block_behind hb
      have hz := (Array.getElem?_eq_some_iff.1 hg).1
      have b0 := cell_of_row w1 _ 0 _ _ _ hg
      have b1 := cell_of_row w1 _ 1 _ _ _ hg
      have b2 := cell_of_row w1 _ 2 _ _ _ hg
      have b3 := cell_of_row w1 _ 3 _ _ _ hg
      have f0 := frozen_of_row hg 0
      simp at b0 b1 b2 b3
      have HG := Lib.hid hg
      have HB : Below w.heap.size w w1 := ((Below.refl _ _).alloc (Nat.le_refl _) _).trans (hb.mono (by simp))
      have HS : Below w.heap.size w (w1.setCell ⟨w.heap.size, 0, none⟩ (.int .i64 id)) := HB.setCell (Nat.le_refl _) _
      have HSz : w.heap.size < (w1.setCell ⟨w.heap.size, 0, none⟩ (.int .i64 id)).heap.size := by simpa [World.setCell] using hz
      have e0 : (w1.setCell ⟨w.heap.size, 0, none⟩ (.int .i64 id)).cell? ⟨w.heap.size, 0, none⟩ = some (.int .i64 id) := by go_simp
      have e1 : (w1.setCell ⟨w.heap.size, 0, none⟩ (.int .i64 id)).cell? ⟨w.heap.size, 1, none⟩ = some (.int .i64 t.own) := by go_simp
      have e2 : (w1.setCell ⟨w.heap.size, 0, none⟩ (.int .i64 id)).cell? ⟨w.heap.size, 2, none⟩ = some (.int .i64 t.heir) := by go_simp
      have e3 : (w1.setCell ⟨w.heap.size, 0, none⟩ (.int .i64 id)).cell? ⟨w.heap.size, 3, none⟩ = some (.int .i64 t.at_) := by go_simp
      clear hg hb
      go_wp2_with fail
      generalize w1.setCell ⟨w.heap.size, 0, none⟩ (.int .i64 id) = w2 at *
      clear b0 b1 b2 b3 f0 HG HB hz
      have hmax : n + 1 ≤ maxLen := by simp only [maxLen]; omega
      have hbyt : (n + 1) * 32 ≤ 140737488355328 := by omega
      have hone : ∀ u ∈ [Value.int .i64 id, .int .i64 t.own, .int .i64 t.heir, .int .i64 t.at_], u.oneCell' = true := by
        intro u hu
        simp only [List.mem_cons, List.not_mem_nil, or_false] at hu
        rcases hu with rfl | rfl | rfl | rfl <;> rfl
      have hnn : ∀ a : Addr, some a = none → (1 : Nat) = 0 := fun a h => by cases h
      go_region_held3 (fun w' => w'.cell? ⟨w.heap.size, 0, none⟩ = some (.int .i64 id) ∧ w'.cell? ⟨w.heap.size, 1, none⟩ = some (.int .i64 t.own) ∧ w'.cell? ⟨w.heap.size, 2, none⟩ = some (.int .i64 t.heir) ∧ w'.cell? ⟨w.heap.size, 3, none⟩ = some (.int .i64 t.at_))
        (first
          | go_keep
          | (have hz5 : some w.heap.size ≠ v3.ownBlock := by
               intro e; have := hown3.lt _ e.symm; simp at this; omega
             go_split_ands
             refine ⟨?_, ?_, ?_, ?_⟩ <;> (rw [hg4.cell_far _ (by have := hb3.size; simp at this ⊢; omega) hz5]; assumption))
          | (go_split_ands
             refine ⟨?_, ?_, ?_, ?_⟩ <;> (rw [hb3.cell (by simp; omega)]; assumption)))
        (first
          | (go_at_call 45
             refine (clone_any A n c l _ ?ht ?hn).mono ?_
             (case ht => first | exact hl.below HS.drew (Nat.le_refl _) | exact hl.below (HS.drew.alloc (Nat.le_of_lt HSz) _) (Nat.le_refl _))
             (case hn => omega)
             rintro e w3 ⟨v3, rfl, hown3, hb3⟩)
          | (have _g := hown3
             refine step_append_src _ ?g1 (.tmp 21) (.tmp 23) 24 ?g2 w2.heap.size 50 i0 _ 4 32 Try.underlying24 hi0 hz0 hz1 hz2 rfl ?g3 v3 n (flat l) ?g4 (hown3.alloc _) (some ⟨w3.heap.size, 0, none⟩) 1 1 [.int .i64 id, .int .i64 t.own, .int .i64 t.heir, .int .i64 t.at_] ?g5 ⟨?g6, ?g7, hone⟩ (hnn _) hmax hbyt ?g8 ?_
             (case g1 => rfl)
             (case g2 => rfl)
             (case g3 => omega)
             (case g4 => rfl)
             (case g5 => rfl)
             (case g6 => rfl)
             (case g7 => exact fun _ => ⟨_, rfl, World.news_of_block (heap_alloc_new w3 _)⟩)
             (case g8 => have := hb3.size; simp at this ⊢; omega)
             intro v4 w4 hown4 hg4 hat4)
          | (have _g := hown3
             refine step_append_src _ ?g1 (.tmp 21) (.tmp 23) 24 ?g2 (w2.heap.size + 1) 50 i0 _ 4 32 Try.underlying24 hi0 hz0 hz1 hz2 rfl ?g3 v3 n (flat l) ?g4 ?g9 (some ⟨w2.heap.size, 0, none⟩) 1 1 [.int .i64 id, .int .i64 t.own, .int .i64 t.heir, .int .i64 t.at_] ?g5 ⟨?g6, ?g7, hone⟩ (hnn _) hmax hbyt ?g8 ?_
             (case g1 => rfl)
             (case g2 => rfl)
             (case g3 => omega)
             (case g4 => rfl)
             (case g5 => rfl)
             (case g6 => rfl)
             (case g9 => simpa using hown3)
             (case g7 => exact fun _ => ⟨_, rfl, World.news_of_block ((hb3.block _ (by simp)).trans (heap_alloc_new w2 _))⟩)
             (case g8 => have := hb3.size; simp at this ⊢; omega)
             intro v4 w4 hown4 hg4 hat4))
      all_goals
        go_wp2
        go_ret2
        refine gives_own hown4 (by omega) ?_ 0
        have hz3 := hb3.size
        simp at hz3
        refine Below.grown ?hb hg4 ?hz ?hr
        case hb => first | exact (HS.drew.trans (hb3.mono (by simp; omega))).alloc (by omega) _ | exact (HS.drew.alloc (by first | omega | (simp; omega)) _).trans (hb3.mono (by simp; omega))
        case hz => first | omega | (simp; omega)
        case hr => intro k hk; have := hown3.lt _ hk; simp at this; omega
end Go.Proofs.Ytagfdgdoboncfaa
